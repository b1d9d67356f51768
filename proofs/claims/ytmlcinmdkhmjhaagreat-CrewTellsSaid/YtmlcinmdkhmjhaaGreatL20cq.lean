/- Helper lemmas for the claim's theorem: an abstract machine over the model, proved sound; no condition beyond each lemma's own. -/
import Derived.Test.YtmlcinmdkhmjhaaGreatL20cp
set_option linter.unusedVariables false
set_option linter.unusedSimpArgs false
set_option linter.unnecessarySimpa false
set_option linter.unusedSectionVars false
namespace Go.Proofs.YtmlcinmdkhmjhaaGreat
open Go Go.AM
set_option maxRecDepth 100000
set_option maxHeartbeats 1000000
set_option linter.unusedVariables false
set_option linter.unusedSimpArgs false
def lessB (a b:api_Timer):Bool:=r08_Less a b
theorem lessB_iff (a b:api_Timer):lessB a b=true↔(a.At < b.At∨(a.At=b.At∧a.Id < b.Id)):=by
 unfold lessB r08_Less;simp
theorem less_irrefl (a:api_Timer):lessB a a=false:=by
 rw [←Bool.not_eq_true,lessB_iff];omega
theorem less_trans {a b c:api_Timer} (h1:lessB a b=true) (h2:lessB b c=true):lessB a c=true:=by
 rw [lessB_iff] at *;omega
theorem less_total {a b:api_Timer} (h:a≠b):lessB a b=true∨lessB b a=true:=by
 rw [lessB_iff,lessB_iff]
 have:a.At≠b.At∨a.Id≠b.Id:=by
  by_cases h1:a.At=b.At
  ·right;intro h2;exact h (by cases a;cases b;simp_all)
  ·exact .inl h1
 omega
theorem le_trans {a b c:api_Timer} (h1:lessB b a=false) (h2:lessB c b=false):lessB c a=false:=by
 rw [←Bool.not_eq_true,lessB_iff] at *;omega
theorem cmp_eq (a b:Int):cmp_Compare_int64 a b=if a < b then -1 else if a > b then 1 else 0:=by
 unfold cmp_Compare_int64 cmp_isNaN_int64
 simp
theorem order_eq (a b:api_Timer):heap_order a b=some (if lessB a b=true then -1 else if lessB b a=true then 1 else 0):=by
 unfold heap_order cmp_Or_int
 rw [cmp_eq,cmp_eq]
 have h0:(0:Int)=((0:Nat):Int):=rfl
 have key:∀x y:Int,whileO (cmp_Or_int_s1 [x,y]) 0=some (if x≠0 then x else y):=by
  intro x y
  by_cases hx:x=0
  ·subst hx
   rw [whileO_inl (s':=1) (by rw [cmp_Or_int_s1,if_pos (by simp),if_pos (by simp)];rfl)]
   by_cases hy:y=0
   ·subst hy
    rw [whileO_inl (s':=2) (by rw [cmp_Or_int_s1,if_pos (by simp),if_pos (by simp)];rfl)]
    exact whileO_inr (by rw [cmp_Or_int_s1,if_neg (by simp)];rfl)
   ·have hg:gt [0,y] 1=y:=rfl
    refine whileO_inr ?_
    rw [cmp_Or_int_s1,if_pos (by simp),if_pos (by simp),hg,if_pos (by simpa using hy)]
    simp
  ·have hg:gt [x,y] 0=x:=rfl
   refine whileO_inr ?_
   rw [cmp_Or_int_s1,if_pos (by simp),if_pos (by simp),hg,if_pos (by simpa using hx)]
   simp [hx]
 rw [key]
 have h1:=lessB_iff a b
 have h2:=lessB_iff b a
 by_cases e1:a.At < b.At
 ·rw [if_pos (by rw [if_pos e1];simp),if_pos e1,if_pos (h1.2 (.inl e1))];rfl
 ·by_cases e2:a.At > b.At
  ·rw [if_pos (by rw [if_neg e1,if_pos e2];simp),if_neg e1,if_pos e2,if_neg (by rw [h1];omega),if_pos (h2.2 (.inl e2))];rfl
  ·rw [if_neg (by rw [if_neg e1,if_neg e2];simp)]
   by_cases e3:a.Id < b.Id
   ·rw [if_pos e3,if_pos (h1.2 (.inr ⟨by omega,e3⟩))];rfl
   ·by_cases e4:a.Id > b.Id
    ·rw [if_neg e3,if_pos e4,if_neg (show ¬lessB a b=true by rw [h1];omega),if_pos (h2.2 (.inr ⟨by omega,e4⟩))];rfl
    ·rw [if_neg e3,if_neg e4,if_neg (show ¬lessB a b=true by rw [h1];omega),if_neg (show ¬lessB b a=true by rw [h2];omega)];rfl
theorem par_eq {i:Int} (h0:0 < i) (h:i≤1000000):IntKind.i64.wrap (Int.tdiv (IntKind.i64.wrap (i - 1)) 4)=(i - 1) / 4:=by
 rw [w64_id (n:=i - 1) (by omega) (by omega),Int.tdiv_eq_ediv_of_nonneg (by omega),w64_id (by omega) (by omega)]
structure Ok (xs:List api_Timer) (k:Nat):Prop where
 may:r08_may (gt xs (k:Int))=true
 ord:0 < k→lessB (gt xs (k:Int)) (gt xs (((k:Int) - 1) / 4))=false
 one:∀j:Nat,j < k→(gt xs (j:Int)).Id≠(gt xs (k:Int)).Id
def Fine (xs:List api_Timer):Prop:=xs.length≤256∧∀k:Nat,k < xs.length→Ok xs k
theorem sub_nat {xs:List api_Timer} (k:Nat):sub xs 0 (k:Int)=xs.take k:=by simp [sub]
theorem s5_ok {xs:List api_Timer} {k:Nat} (hk:k < xs.length) (hl:xs.length≤256):∀(n i:Nat),i+n=k→(∀j:Nat,j < i→(gt xs (j:Int)).Id≠(gt xs (k:Int)).Id) →
 ((∀j:Nat,j < k→(gt xs (j:Int)).Id≠(gt xs (k:Int)).Id)∧whileO (r08_Check_s5 xs (k:Int)) (i:Int)=nextO ((k+1:Nat):Int)) ∨
 ((¬∀j:Nat,j < k→(gt xs (j:Int)).Id≠(gt xs (k:Int)).Id)∧whileO (r08_Check_s5 xs (k:Int)) (i:Int)=inrO (some 1))
 | 0,i,hi,ha=>by
  refine .inl ⟨fun j h=>ha j (by omega),whileO_inr ?_⟩
  rw [r08_Check_s5,sub_nat,if_neg (by simp;omega),w64_nat (by omega)];rfl
 | n+1,i,hi,ha=>by
  have hlt:(xs.take k).length=k:=by rw [List.length_take];omega
  have hg:gt (xs.take k) (i:Int)=gt xs (i:Int):=by
   rw [gt_nat (show i < (xs.take k).length by omega),gt_nat (show i < xs.length by omega),List.getElem_take]
  by_cases e:(gt xs (i:Int)).Id=(gt xs (k:Int)).Id
  ·refine .inr ⟨fun h=>h i (by omega) e,whileO_inr ?_⟩
   rw [r08_Check_s5,sub_nat,if_pos (by simp;omega),if_pos (by omega),hg,if_pos (by simp [e])];rfl
  ·have h1:r08_Check_s5 xs (k:Int) (i:Int)=nextO ((i+1:Nat):Int):=by
    rw [r08_Check_s5,sub_nat,if_pos (by simp;omega),if_pos (by omega),hg,if_neg (by simp [e]),w64_nat (by omega)]
   rw [whileO_inl h1]
   exact s5_ok hk hl n (i+1) (by omega) (fun j h=>by
    by_cases e2:j=i
    ·subst e2;exact e
    ·exact ha j (by omega))
theorem less_cmp {a b:api_Timer}:decide ((if lessB a b=true then (-1:Int) else if lessB b a=true then 1 else 0) < 0)=lessB a b:=by
 cases lessB a b with
 | true=>rfl
 | false=>simp;split<;>decide
theorem chk_ok {xs:List api_Timer} (hl:xs.length≤256):∀(n k:Nat) (m:List (Int×Bool)),k+n=xs.length→(∀j:Nat,j < k→Ok xs j)→(∀id:Int,(mget m id).getD false=true↔∃j:Nat,j < k∧(gt xs (j:Int)).Id=id) →
 ((∀j:Nat,j < xs.length→Ok xs j)∧whileO (r08_Check_s4 xs) (k:Int)=some 0∧whileO (heap_Check_s1 xs) ((k:Int),m)=some 0) ∨
 ((¬∀j:Nat,j < xs.length→Ok xs j)∧whileO (r08_Check_s4 xs) (k:Int)=some 1∧whileO (heap_Check_s1 xs) ((k:Int),m)=some 1)
 | 0,k,m,hk,ha,hm=>by
  refine .inl ⟨fun j h=>ha j (by omega),whileO_inr ?_,whileO_inr ?_⟩
  ·rw [r08_Check_s4,if_neg (by simp;omega)];rfl
  ·rw [heap_Check_s1,if_neg (by simp;omega)];rfl
 | n+1,k,m,hk,ha,hm=>by
  have hi:k < xs.length:=by omega
  have hb:0≤(k:Int)∧(k:Int) < xs.length:=by omega
  have hc:(decide ((k:Int) < (xs.length:Int)))=true:=by simp;omega
  by_cases hmay:¬r08_may (gt xs (k:Int))=true
  ·have hmay2:¬heap_may (gt xs (k:Int))=true:=hmay
   refine .inr ⟨fun h=>hmay (h k hi).may,whileO_inr ?_,whileO_inr ?_⟩
   ·rw [r08_Check_s4,if_pos hc,if_pos hb,if_pos (by simp [hmay])];rfl
   ·rw [heap_Check_s1,if_pos hc,if_pos hb,if_pos (by simp [hmay2])];rfl
  replace hmay:=Classical.not_not.1 hmay
  have hmay2:heap_may (gt xs (k:Int))=true:=hmay
  have hs5:=s5_ok hi hl k 0 (by omega) (fun j h=>by omega)
  have hs6:r08_Check_s6 xs (k:Int)=r08_Check_s5 xs (k:Int):=rfl
  have hw:IntKind.i64.wrap ((k:Int)+1)=((k+1:Nat):Int):=w64_nat (by omega)
  have hid:((mget m ((gt xs (k:Int)).Id)).getD false=true)↔¬∀j:Nat,j < k→(gt xs (j:Int)).Id≠(gt xs (k:Int)).Id:=by
   rw [hm]
   constructor
   ·rintro ⟨j,h1,h2⟩ h;exact h j h1 h2
   ·intro h
    apply Classical.byContradiction
    intro h2
    exact h fun j h3 h4=>h2 ⟨j,h3,h4⟩
  have go:Ok xs k→r08_Check_s4 xs (k:Int)=nextO ((k+1:Nat):Int)→heap_Check_s1 xs ((k:Int),m)=nextO (((k+1:Nat):Int),mput m ((gt xs (k:Int)).Id) true)→_:=fun hok h1 h2=>by
   have:=chk_ok hl n (k+1) (mput m ((gt xs (k:Int)).Id) true) (by omega) (fun j h=>by
    by_cases e:j=k
    ·subst e;exact hok
    ·exact ha j (by omega)) (fun id=>by
    rw [mget_mput]
    by_cases e:id=(gt xs (k:Int)).Id
    ·rw [if_pos e]
     exact ⟨fun _=>⟨k,by omega,e.symm⟩,fun _=>rfl⟩
    ·rw [if_neg e,hm]
     constructor
     ·rintro ⟨j,h8,h9⟩;exact ⟨j,by omega,h9⟩
     ·rintro ⟨j,h8,h9⟩
      refine ⟨j,?_,h9⟩
      by_cases e2:j=k
      ·rw [e2] at h9;exact absurd h9.symm e
      ·omega)
   rw [←whileO_inl h1,←whileO_inl h2] at this
   exact this
  by_cases h0:0 < k
  ·have hp:IntKind.i64.wrap (Int.tdiv (IntKind.i64.wrap ((k:Int) - 1)) 4)=((k:Int) - 1) / 4:=par_eq (by omega) (by omega)
   have hpb:0≤((k:Int) - 1) / 4∧((k:Int) - 1) / 4 < xs.length:=by omega
   cases hle:lessB (gt xs (k:Int)) (gt xs (((k:Int) - 1) / 4)) with
   | true =>
    have hle2:r08_Less (gt xs (k:Int)) (gt xs (((k:Int) - 1) / 4))=true:=hle
    have hno:¬∀j:Nat,j < xs.length→Ok xs j:=fun h=>by
     have:=(h k hi).ord h0
     rw [hle] at this;cases this
    refine .inr ⟨hno,whileO_inr ?_,whileO_inr ?_⟩
    ·rw [r08_Check_s4,if_pos hc,if_pos hb,if_neg (by simp [hmay]),if_pos (by simp;omega),hp,if_pos hpb,if_pos hle2];rfl
    ·rw [heap_Check_s1,if_pos hc,if_pos hb,if_neg (by simp [hmay2])]
     by_cases e:(mget m ((gt xs (k:Int)).Id)).getD false=true
     ·rw [if_pos e];rfl
     ·rw [if_neg e,if_pos (by simp;omega),hp,if_pos hpb,order_eq,Option.bind_some,less_cmp,if_pos hle];rfl
   | false =>
    have hle2:¬r08_Less (gt xs (k:Int)) (gt xs (((k:Int) - 1) / 4))=true:=by rw [show r08_Less (gt xs (k:Int)) (gt xs (((k:Int) - 1) / 4))=false from hle];simp
    have e1:r08_Check_s4 xs (k:Int)=whileO (r08_Check_s5 xs (k:Int)) 0:=by
     rw [r08_Check_s4,if_pos hc,if_pos hb,if_neg (by simp [hmay]),if_pos (by simp;omega),hp,if_pos hpb,if_neg hle2,if_pos (by omega)]
    rcases hs5 with ⟨hu,h5⟩|⟨hu,h5⟩
    ·refine go ⟨hmay,fun _=>hle,hu⟩ (e1.trans h5) ?_
     rw [heap_Check_s1,if_pos hc,if_pos hb,if_neg (by simp [hmay2]),if_neg (fun h=>hid.1 h hu),if_pos (by simp;omega),hp,if_pos hpb,order_eq,Option.bind_some,less_cmp,if_neg (by simp [hle]),hw]
    ·refine .inr ⟨fun h=>hu (h k hi).one,whileO_inr (e1.trans h5),whileO_inr ?_⟩
     rw [heap_Check_s1,if_pos hc,if_pos hb,if_neg (by simp [hmay2]),if_pos (hid.2 hu)];rfl
  ·have e1:r08_Check_s4 xs (k:Int)=whileO (r08_Check_s5 xs (k:Int)) 0:=by
    rw [r08_Check_s4,if_pos hc,if_pos hb,if_neg (by simp [hmay]),if_neg (by simp;omega),if_pos (by omega),hs6]
   rcases hs5 with ⟨hu,h5⟩|⟨hu,h5⟩
   ·refine go ⟨hmay,fun h=>absurd h h0,hu⟩ (e1.trans h5) ?_
    rw [heap_Check_s1,if_pos hc,if_pos hb,if_neg (by simp [hmay2]),if_neg (fun h=>hid.1 h hu),if_neg (by simp;omega),hw]
   ·exact absurd (fun j h=>by omega) hu
theorem check_ok (xs:List api_Timer):(Fine xs∧r08_Check xs=some 0∧heap_Check xs=some 0)∨(¬Fine xs∧r08_Check xs=some 1∧heap_Check xs=some 1):=by
 by_cases hl:xs.length≤256
 ·have hn:¬(decide ((xs.length:Int) > 256))=true:=by simp;omega
  have:=chk_ok hl xs.length 0 [] (by omega) (fun j h=>by omega) (fun id=>⟨fun h=>by simp [mget] at h,fun⟨j,h,_⟩=>by omega⟩)
  rcases this with ⟨a,b,c⟩|⟨a,b,c⟩
  ·exact .inl ⟨⟨hl,a⟩,by rw [r08_Check,if_neg hn];exact b,by rw [heap_Check,if_neg hn];exact c⟩
  ·exact .inr ⟨fun h=>a h.2,by rw [r08_Check,if_neg hn];exact b,by rw [heap_Check,if_neg hn];exact c⟩
 ·have hn:(decide ((xs.length:Int) > 256))=true:=by simp;omega
  exact .inr ⟨fun h=>hl h.1,by rw [r08_Check,if_pos hn],by rw [heap_Check,if_pos hn]⟩
end Go.Proofs.YtmlcinmdkhmjhaaGreat
