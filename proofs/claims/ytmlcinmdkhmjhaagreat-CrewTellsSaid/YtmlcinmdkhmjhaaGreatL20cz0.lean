/- Helper lemmas for the claim's theorem: an abstract machine over the model, proved sound; no condition beyond each lemma's own. -/
import Derived.Test.YtmlcinmdkhmjhaaGreatL20cy
import Derived.Test.YtmlcinmdkhmjhaaGreatSK
set_option linter.unusedVariables false
set_option linter.unusedSimpArgs false
set_option linter.unnecessarySimpa false
set_option linter.unusedSectionVars false
namespace Go.Proofs.YtmlcinmdkhmjhaaGreat
open Go Go.AM
set_option maxRecDepth 100000
set_option maxHeartbeats 1000000
set_option linter.unusedVariables false
set_option linter.unusedSimpArgs false
namespace H8
def lessB (a b:api_Timer):Bool:=r08_Less a b
theorem lessB_iff (a b:api_Timer):lessB a b=true↔(a.At < b.At∨(a.At=b.At∧a.Id < b.Id)):=by
 unfold lessB r08_Less;simp
theorem less_irrefl (a:api_Timer):lessB a a=false:=by
 rw [←Bool.not_eq_true,lessB_iff];omega
theorem less_trans {a b c:api_Timer} (h1:lessB a b=true) (h2:lessB b c=true):lessB a c=true:=by
 rw [lessB_iff] at *;omega
theorem less_total {a b:api_Timer} (h:a≠b):lessB a b=true∨lessB b a=true:=by
 rw [lessB_iff,lessB_iff]
 have:a.At≠b.At∨a.Id≠b.Id:=by
  by_cases h1:a.At=b.At
  ·right;intro h2;exact h (by cases a;cases b;simp_all)
  ·exact .inl h1
 omega
theorem le_trans {a b c:api_Timer} (h1:lessB b a=false) (h2:lessB c b=false):lessB c a=false:=by
 rw [←Bool.not_eq_true,lessB_iff] at *;omega
theorem cmp_eq (a b:Int):cmp_Compare_int64 a b=if a < b then -1 else if a > b then 1 else 0:=by
 unfold cmp_Compare_int64 cmp_isNaN_int64
 simp
theorem order_eq (a b:api_Timer):heap_order a b=some (if lessB a b=true then -1 else if lessB b a=true then 1 else 0):=by
 unfold heap_order cmp_Or_int
 rw [cmp_eq,cmp_eq]
 have h0:(0:Int)=((0:Nat):Int):=rfl
 have key:∀x y:Int,whileO (cmp_Or_int_s1 [x,y]) 0=some (if x≠0 then x else y):=by
  intro x y
  by_cases hx:x=0
  ·subst hx
   rw [whileO_inl (s':=1) (by rw [cmp_Or_int_s1,if_pos (by simp),if_pos (by simp)];rfl)]
   by_cases hy:y=0
   ·subst hy
    rw [whileO_inl (s':=2) (by rw [cmp_Or_int_s1,if_pos (by simp),if_pos (by simp)];rfl)]
    exact whileO_inr (by rw [cmp_Or_int_s1,if_neg (by simp)];rfl)
   ·have hg:gt [0,y] 1=y:=rfl
    refine whileO_inr ?_
    rw [cmp_Or_int_s1,if_pos (by simp),if_pos (by simp),hg,if_pos (by simpa using hy)]
    simp
  ·have hg:gt [x,y] 0=x:=rfl
   refine whileO_inr ?_
   rw [cmp_Or_int_s1,if_pos (by simp),if_pos (by simp),hg,if_pos (by simpa using hx)]
   simp [hx]
 rw [key]
 have h1:=lessB_iff a b
 have h2:=lessB_iff b a
 by_cases e1:a.At < b.At
 ·rw [if_pos (by rw [if_pos e1];simp),if_pos e1,if_pos (h1.2 (.inl e1))];rfl
 ·by_cases e2:a.At > b.At
  ·rw [if_pos (by rw [if_neg e1,if_pos e2];simp),if_neg e1,if_pos e2,if_neg (by rw [h1];omega),if_pos (h2.2 (.inl e2))];rfl
  ·rw [if_neg (by rw [if_neg e1,if_neg e2];simp)]
   by_cases e3:a.Id < b.Id
   ·rw [if_pos e3,if_pos (h1.2 (.inr ⟨by omega,e3⟩))];rfl
   ·by_cases e4:a.Id > b.Id
    ·rw [if_neg e3,if_pos e4,if_neg (show ¬lessB a b=true by rw [h1];omega),if_pos (h2.2 (.inr ⟨by omega,e4⟩))];rfl
    ·rw [if_neg e3,if_neg e4,if_neg (show ¬lessB a b=true by rw [h1];omega),if_neg (show ¬lessB b a=true by rw [h2];omega)];rfl
def swp (h:List api_Timer) (i j:Int):List api_Timer:=st (st h i (gt h j)) j (gt h i)
structure HB (h:List api_Timer) (i:Int):Prop where
 ord:∀k:Int,0 < k→k < h.length→k≠i→lessB (gt h k) (gt h ((k - 1) / 4))=false
 kid:0 < i→∀k:Int,0 < k→k < h.length→(k - 1) / 4=i→lessB (gt h k) (gt h ((i - 1) / 4))=false
def Hp (h:List api_Timer):Prop:=∀k:Int,0 < k→k < h.length→lessB (gt h k) (gt h ((k - 1) / 4))=false
theorem HB.done {h:List api_Timer} {i:Int} (hb:HB h i) (hi:0 < i→i < h.length→lessB (gt h i) (gt h ((i - 1) / 4))=false):Hp h:=fun k h0 h1=>by
 by_cases e:k=i
 ·subst e;exact hi h0 h1
 ·exact hb.ord k h0 h1 e
structure HS (h:List api_Timer) (i v:Int):Prop where
 le:0≤i∧i≤v
 a:∀k:Int,0 < k→k < h.length→k≠i→(k - 1) / 4≠v→lessB (gt h k) (gt h ((k - 1) / 4))=false
 b:0 < v→∀k:Int,0 < k→k < h.length→(k - 1) / 4=v→lessB (gt h k) (gt h ((v - 1) / 4))=false
 c:v≠i→0 < i→lessB (gt h i) (gt h ((i - 1) / 4))=false
theorem few_ok {n:Nat} (h:n≤100000):few n:=by unfold few;omega
theorem with3_ok {xs:List api_Timer} {t:api_Timer} (hl:xs.length≤1000):∀(n k:Nat) (acc:List api_Timer),k+n=xs.length→acc.length≤2000+k→whileO (r08_with_s3 xs t) (acc,(k:Int))=some (acc++(xs.drop k).filter fun u=>lessB t u)
 | 0,k,acc,hk,ha=>by
  rw [List.drop_eq_nil_of_le (by omega)]
  refine whileO_inr ?_
  rw [r08_with_s3,if_neg (by simp;omega),List.filter_nil,List.append_nil];rfl
 | n+1,k,acc,hk,ha=>by
  have hi:k < xs.length:=by omega
  rw [List.drop_eq_getElem_cons hi]
  cases e:lessB t xs[k] with
  | true =>
   rw [List.filter_cons_of_pos (by simpa using e)]
   have:=with3_ok (t:=t) hl n (k+1) (acc++[xs[k]]) (by omega) (by rw [List.length_append,List.length_singleton];omega)
   rw [List.append_assoc,List.singleton_append] at this
   rw [←this]
   refine whileO_inl ?_
   have e2:r08_Less t xs[k]=true:=e
   rw [r08_with_s3,if_pos (by simp;omega),if_pos (by omega),gt_nat hi,if_pos e2,if_pos (few_ok (by rw [List.length_append,List.length_singleton];omega)),w64_nat (by omega)];rfl
  | false =>
   rw [List.filter_cons_of_neg (by simp [e])]
   rw [←with3_ok hl n (k+1) acc (by omega) (by omega)]
   refine whileO_inl ?_
   have e2:¬r08_Less t xs[k]=true:=by rw [show r08_Less t xs[k]=false from e];simp
   rw [r08_with_s3,if_pos (by simp;omega),if_pos (by omega),gt_nat hi,if_neg e2,w64_nat (by omega)];rfl
def wth (xs:List api_Timer) (t:api_Timer):List api_Timer:=(xs.filter fun u=>!(lessB t u))++t::xs.filter fun u=>lessB t u
theorem with2_ok {xs:List api_Timer} {t:api_Timer} (hl:xs.length≤1000):∀(n k:Nat) (acc:List api_Timer),k+n=xs.length→acc.length≤k→whileO (r08_with_s2 xs t) (acc,(k:Int))=some ((acc++(xs.drop k).filter fun u=>!(lessB t u))++t::xs.filter fun u=>lessB t u)
 | 0,k,acc,hk,ha=>by
  rw [List.drop_eq_nil_of_le (by omega)]
  refine whileO_inr ?_
  have h3:=with3_ok (t:=t) hl xs.length 0 (acc++[t]) (by omega) (by rw [List.length_append,List.length_singleton];omega)
  rw [r08_with_s2,if_neg (by simp;omega),if_pos (few_ok (by rw [List.length_append,List.length_singleton];omega)),List.filter_nil,List.append_nil]
  rw [List.drop_zero,List.append_assoc,List.singleton_append] at h3
  exact congrArg inrO h3
 | n+1,k,acc,hk,ha=>by
  have hi:k < xs.length:=by omega
  rw [List.drop_eq_getElem_cons hi]
  cases e:lessB t xs[k] with
  | false =>
   rw [List.filter_cons_of_pos (by simp [e])]
   have:=with2_ok (t:=t) hl n (k+1) (acc++[xs[k]]) (by omega) (by rw [List.length_append,List.length_singleton];omega)
   rw [List.append_assoc acc,List.singleton_append] at this
   rw [←this]
   refine whileO_inl ?_
   have e2:(!(r08_Less t xs[k]))=true:=by rw [show r08_Less t xs[k]=false from e];rfl
   rw [r08_with_s2,if_pos (by simp;omega),if_pos (by omega),gt_nat hi,if_pos e2,if_pos (few_ok (by rw [List.length_append,List.length_singleton];omega)),w64_nat (by omega)];rfl
  | true =>
   rw [List.filter_cons_of_neg (by simp [e])]
   rw [←with2_ok (t:=t) hl n (k+1) acc (by omega) (by omega)]
   refine whileO_inl ?_
   have e2:¬(!(r08_Less t xs[k]))=true:=by rw [show r08_Less t xs[k]=true from e];simp
   rw [r08_with_s2,if_pos (by simp;omega),if_pos (by omega),gt_nat hi,if_neg e2,w64_nat (by omega)];rfl
theorem with_ok {xs:List api_Timer} (t:api_Timer) (hl:xs.length≤1000):r08_with xs t=some (wth xs t):=by
 have:=with2_ok (t:=t) hl xs.length 0 [] (by omega) (Nat.le_refl 0)
 rw [List.drop_zero,List.nil_append] at this
 exact this
theorem wth_perm (xs:List api_Timer) (t:api_Timer):(wth xs t).Perm (t::xs):=by
 unfold wth
 refine List.perm_middle.trans (.cons t ?_)
 have:=List.filter_append_perm (fun u=>!(lessB t u)) xs
 simpa using this
def Srt (xs:List api_Timer):Prop:=xs.Pairwise fun a b=>lessB b a=false
theorem wth_srt {xs:List api_Timer} (t:api_Timer) (h:Srt xs):Srt (wth xs t):=by
 unfold wth Srt
 rw [List.pairwise_append,List.pairwise_cons]
 refine ⟨List.Pairwise.filter _ h,⟨fun u hu=>?_,List.Pairwise.filter _ h⟩,fun a ha b hb=>?_⟩
 ·rw [List.mem_filter] at hu
  rw [←Bool.not_eq_true];intro hh
  have:=less_trans hu.2 hh
  rw [less_irrefl] at this;cases this
 ·rw [List.mem_filter] at ha
  have h1:lessB t a=false:=by simpa using ha.2
  rcases List.mem_cons.1 hb with rfl|hb
  ·exact h1
  ·rw [List.mem_filter] at hb
   rw [←Bool.not_eq_true];intro hh
   have:=less_trans hb.2 hh
   rw [h1] at this;cases this
theorem srt_one {xs ys:List api_Timer} (hx:Srt xs) (hy:Srt ys) (hp:xs.Perm ys):xs=ys :=
 List.Perm.eq_of_pairwise (le:=fun a b=>lessB b a=false) (fun a b _ _ h1 h2=>by
  by_cases e:a=b
  ·exact e
  ·rcases less_total e with h|h
   ·rw [h2] at h;cases h
   ·rw [h1] at h;cases h) hx hy hp
theorem ord_ok {xs:List api_Timer} (hl:xs.length≤900):∀(n k:Nat) (acc:List api_Timer),k+n=xs.length→acc.Perm (xs.take k)→Srt acc→∃ys,whileO (r08_Order_s1 xs) (acc,(k:Int))=some ys∧ys.Perm xs∧Srt ys
 | 0,k,acc,hk,ha,hs=>by
  rw [List.take_of_length_le (by omega)] at ha
  refine ⟨acc,whileO_inr ?_,ha,hs⟩
  rw [r08_Order_s1,if_neg (by simp;omega)];rfl
 | n+1,k,acc,hk,ha,hs=>by
  have hi:k < xs.length:=by omega
  have hal:acc.length≤1000:=by rw [ha.length_eq,List.length_take];omega
  obtain ⟨ys,e1,e2,e3⟩:=ord_ok hl n (k+1) (wth acc xs[k]) (by omega) (by
   rw [List.take_succ_eq_append_getElem hi]
   exact (wth_perm acc xs[k]).trans ((List.Perm.cons _ ha).trans (List.perm_append_singleton _ _).symm)) (wth_srt _ hs)
  refine ⟨ys,?_,e2,e3⟩
  rw [←e1]
  refine whileO_inl ?_
  rw [r08_Order_s1,if_pos (by simp;omega),if_pos (by omega),gt_nat hi,with_ok _ hal,Option.bind_some,w64_nat (by omega)];rfl
theorem order_ok {xs:List api_Timer} (hl:xs.length≤900):∃ys,r08_Order xs=some ys∧ys.Perm xs∧Srt ys :=
 ord_ok hl xs.length 0 [] (by omega) (by rw [List.take_zero]) List.Pairwise.nil
theorem order_is {xs ys:List api_Timer} (hl:xs.length≤900) (hp:ys.Perm xs) (hs:Srt ys):r08_Order xs=some ys:=by
 obtain ⟨zs,e1,e2,e3⟩:=order_ok hl
 rw [e1,srt_one e3 hs (e2.trans hp.symm)]
theorem less_cmp {a b:api_Timer}:decide ((if lessB a b=true then (-1:Int) else if lessB b a=true then 1 else 0) < 0)=lessB a b:=by
 cases lessB a b with
 | true=>rfl
 | false=>simp;split<;>decide
theorem gt_app {xs ys:List api_Timer} {k:Int} (h0:0≤k) (h1:k < xs.length):gt (xs++ys) k=gt xs k:=by
 obtain ⟨m,rfl⟩:∃m:Nat,k=(m:Int):=⟨k.toNat,by omega⟩
 have hm:m < xs.length:=by omega
 rw [gt_nat hm,gt_nat (show m < (xs++ys).length by rw [List.length_append];omega),List.getElem_append_left hm]
theorem HB.last {xs:List api_Timer} (t:api_Timer) (h:Hp xs):HB (xs++[t]) (xs.length:Int):=by
 refine ⟨fun k h0 h1 hne=>?_,fun hi k h0 h1 e=>?_⟩
 ·rw [List.length_append,List.length_singleton] at h1
  have h2:k < xs.length:=by omega
  rw [gt_app (by omega) h2,gt_app (by omega) (by omega)]
  exact h k h0 h2
 ·rw [List.length_append,List.length_singleton] at h1
  omega
theorem HS.at {xs h:List api_Timer} {i:Int} (hi:0≤i) (hp:Hp xs) (hl:h.length≤xs.length) (hg:∀k:Int,0≤k→k < h.length→k≠i→gt h k=gt xs k):HS h i i:=by
 refine ⟨⟨hi,by omega⟩,fun k h0 h1 h2 h3=>?_,fun hv k h0 h1 e=>?_,fun hn=>absurd rfl hn⟩
 ·rw [hg k (by omega) h1 h2,hg _ (by omega) (by omega) h3]
  exact hp k h0 (by omega)
 ·rw [hg k (by omega) h1 (by omega),hg _ (by omega) (by omega) (by omega)]
  have a1:=hp k h0 (by omega)
  rw [e] at a1
  exact le_trans (hp i hv (by omega)) a1
def srt (l:List api_Timer):List api_Timer:=l.mergeSort fun x y=>!(lessB y x)
theorem srt_perm (l:List api_Timer):(srt l).Perm l:=List.mergeSort_perm ..
theorem srt_srt (l:List api_Timer):Srt (srt l):=by
 have:=List.pairwise_mergeSort (le:=fun x y=>!(lessB y x)) (fun a b c h1 h2=>by
  simp only [Bool.not_eq_true'] at *
  exact le_trans h1 h2) (fun a b=>by
  by_cases e:a=b
  ·subst e;rw [less_irrefl];rfl
  ·rcases less_total e with h|h
   ·have:lessB b a=false:=by
     rw [←Bool.not_eq_true];intro hh
     have:=less_trans h hh
     rw [less_irrefl] at this;cases this
    rw [this];rfl
   ·have:lessB a b=false:=by
     rw [←Bool.not_eq_true];intro hh
     have:=less_trans h hh
     rw [less_irrefl] at this;cases this
    rw [this];simp) l
 exact this.imp (by simp)
theorem ord_is {l:List api_Timer} (hl:l.length≤900):r08_Order l=some (srt l):=order_is hl (srt_perm l) (srt_srt l)
theorem ltO_eq (a b:api_Timer):ltO heap_order a b=lessB a b:=by
 unfold ltO Go.Proofs.ltOf
 show decide ((heap_order a b).getD 0 < 0)=_
 rw [order_eq]
 exact less_cmp
theorem ord_order:OrdO heap_order where
 all a b:=by rw [order_eq];simp
 swo:={
  irrefl:=fun x=>by rw [ltO_eq];exact less_irrefl x
  trans:=fun x y z h1 h2=>by rw [ltO_eq] at *;exact less_trans h1 h2
  ntrans:=fun x y z h1 h2=>by rw [ltO_eq] at *;exact le_trans h2 h1 }
 tot a b h1 h2:=by
  rw [ltO_eq] at h1 h2
  by_cases e:a=b
  ·exact e
  ·rcases less_total e with h|h
   ·rw [h1] at h;cases h
   ·rw [h2] at h;cases h
theorem sort_is {l:List api_Timer} (hl:l.length≤900):sortO heap_order l=some (srt l):=by
 unfold sortO
 rw [if_pos ⟨ord_order,by omega⟩]
 congr 1
 unfold srt
 congr 1
 funext x y
 rw [ltO_eq]
end H8
end Go.Proofs.YtmlcinmdkhmjhaaGreat
