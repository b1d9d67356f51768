/- Helper lemmas for the claim's theorem: an abstract machine over the model, proved sound; no condition beyond each lemma's own. -/
import Derived.Test.YtkkimimkcchlnaaGreatL24tf
set_option linter.unusedVariables false
set_option linter.unusedSimpArgs false
set_option linter.unnecessarySimpa false
set_option linter.unusedSectionVars false
namespace Go.Proofs.YtkkimimkcchlnaaGreat
open Go Go.AM
set_option maxRecDepth 100000
set_option maxHeartbeats 1000000
set_option linter.unusedVariables false
set_option linter.unusedSimpArgs false
theorem many_loop (xs:List Int) (a:Int) (hl:xs.length≤9223372036854775806):∀(m i:Nat),i+m=xs.length→whileO (r17_many_s1 xs a) (((xs.take i).count a:Nat),(i:Int))=some ((xs.count a:Nat):Int)
 | 0,i,h=>by
  have:i=xs.length:=by omega
  subst this
  rw [List.take_length]
  exact whileO_inr (by rw [r17_many_s1,if_neg (by simp)];rfl)
 | m+1,i,h=>by
  have hi:i < xs.length:=by omega
  rw [←many_loop xs a hl m (i+1) (by omega)]
  refine whileO_inl ?_
  have hc:(xs.take i).count a≤i:=Nat.le_trans List.count_le_length (by rw [List.length_take];omega)
  rw [r17_many_s1,if_pos (by simpa using hi),if_pos (by omega),gt_nat hi,List.take_succ_eq_append_getElem hi,List.count_append,List.count_singleton]
  by_cases h1:(xs[i]==a)=true
  ·rw [if_pos h1,w64_nat (by omega),w64_nat (by omega),h1];rfl
  ·rw [if_neg h1,w64_nat (by omega)]
   rw [Bool.not_eq_true] at h1
   rw [h1];rfl
theorem many_eq {xs:List Int} (a:Int) (hl:xs.length≤9223372036854775806):r17_many xs a=some ((xs.count a:Nat):Int):=by
 have:=many_loop xs a hl xs.length 0 (by omega)
 simpa [r17_many] using this
def inFour (x:Int):Bool:=decide (0≤x)&&decide (x≤3)
theorem counted_loop (d:api_Idle) (hl:d.Is.length≤64) (ha:d.Is.all inFour=true):∀(m i:Nat),i+m=d.Is.length →
 whileO (idle_counted_s1 d) ((i:Int),((d.Is.take i).count 0:Nat),((d.Is.take i).count 1:Nat),((d.Is.take i).count 2:Nat),((d.Is.take i).count 3:Nat))=some (⟨(d.Is.count 0:Nat),(d.Is.count 1:Nat),(d.Is.count 2:Nat),(d.Is.count 3:Nat)⟩,true)
 | 0,i,h=>by
  have:i=d.Is.length:=by omega
  subst this
  rw [List.take_length]
  exact whileO_inr (by rw [idle_counted_s1,if_neg (by simp)];rfl)
 | m+1,i,h=>by
  have hi:i < d.Is.length:=by omega
  rw [←counted_loop d hl ha m (i+1) (by omega)]
  refine whileO_inl ?_
  have hx:=List.all_eq_true.1 ha _ (List.getElem_mem hi)
  simp only [inFour,Bool.and_eq_true,decide_eq_true_eq] at hx
  have hc:∀a:Int,(d.Is.take i).count a≤64:=fun a=>Nat.le_trans List.count_le_length (by rw [List.length_take];omega)
  rw [idle_counted_s1,if_pos (by simpa using hi),if_pos (by omega),gt_nat hi,if_neg (by simp;omega),if_pos (by omega),if_pos (by omega),w64_nat (by omega)]
  rw [List.take_succ_eq_append_getElem hi]
  simp only [List.count_append,List.count_singleton]
  generalize d.Is[i]=x at hx ⊢
  have h0:=hc 0;have h1:=hc 1;have h2:=hc 2;have h3:=hc 3
  have hq:x=0∨x=1∨x=2∨x=3:=by omega
  rcases hq with rfl|rfl|rfl|rfl
  ·simp [nextO,w64_nat (show (d.Is.take i).count 0≤9223372036854775806 by omega)]
  ·simp [nextO,w64_nat (show (d.Is.take i).count 1≤9223372036854775806 by omega)]
  ·simp [nextO,w64_nat (show (d.Is.take i).count 2≤9223372036854775806 by omega)]
  ·simp [nextO,w64_nat (show (d.Is.take i).count 3≤9223372036854775806 by omega)]
theorem counted_ok {d:api_Idle} (hl:d.Is.length≤64) (ha:d.Is.all inFour=true):idle_counted d=some (⟨(d.Is.count 0:Nat),(d.Is.count 1:Nat),(d.Is.count 2:Nat),(d.Is.count 3:Nat)⟩,true):=by
 have:=counted_loop d hl ha d.Is.length 0 (by omega)
 simpa [idle_counted] using this
theorem counted_any {d:api_Idle} (hl:d.Is.length≤9223372036854775806):∃a b,idle_counted d=some (a,b)∧(b=true→d.Is.all inFour=true):=by
 have key:∀(m i:Nat) (a b c e:Int),i+m=d.Is.length→(d.Is.take i).all inFour=true→∃x y,whileO (idle_counted_s1 d) ((i:Int),a,b,c,e)=some (x,y)∧(y=true→d.Is.all inFour=true):=by
  intro m
  induction m with
  | zero =>
   intro i a b c e h ht
   have:i=d.Is.length:=by omega
   subst this
   rw [List.take_length] at ht
   exact ⟨_,_,whileO_inr (by rw [idle_counted_s1,if_neg (by simp)];rfl),fun _=>ht⟩
  | succ m ih =>
   intro i a b c e h ht
   have hi:i < d.Is.length:=by omega
   by_cases hb:((decide (d.Is[i] < 0))||(decide (d.Is[i] > 3)))=true
   ·exact ⟨_,_,whileO_inr (by rw [idle_counted_s1,if_pos (by simpa using hi),if_pos (by omega),gt_nat hi,if_pos hb];rfl),fun e=>by cases e⟩
   ·have hb':=hb
    simp only [Bool.or_eq_true,decide_eq_true_eq,not_or] at hb'
    obtain ⟨x,y,h1,h2⟩:=ih (i+1) _ _ _ _ (by omega) (by rw [List.take_succ_eq_append_getElem hi,List.all_append,ht];simp [inFour];omega)
    refine ⟨x,y,?_,h2⟩
    rw [←h1]
    exact whileO_inl (by rw [idle_counted_s1,if_pos (by simpa using hi),if_pos (by omega),gt_nat hi,if_neg hb,if_pos (by omega),if_pos (by omega),w64_nat (by omega)];rfl)
 obtain ⟨x,y,h1,h2⟩:=key d.Is.length 0 0 0 0 0 (by omega) (by simp)
 exact ⟨x,y,h1,h2⟩
def sumR (g:Nat→Nat):Nat→Nat
 | 0=>0
 | n+1=>sumR g n+g n
theorem sumR_add (f g:Nat→Nat):∀n,sumR (fun i=>f i+g i) n=sumR f n+sumR g n
 | 0=>rfl
 | n+1=>by simp only [sumR,sumR_add f g n];omega
theorem sumR_congr {f g:Nat→Nat}:∀{n:Nat},(∀i,i < n→f i=g i)→sumR f n=sumR g n
 | 0,_=>rfl
 | n+1,h=>by simp only [sumR];rw [sumR_congr (n:=n) fun i hi=>h i (by omega),h n (by omega)]
theorem sumR_le {f g:Nat→Nat}:∀{n:Nat},(∀i,i < n→f i≤g i)→sumR f n≤sumR g n
 | 0,_=>Nat.le_refl _
 | n+1,h=>by
  have h1:=sumR_le (n:=n) fun i hi=>h i (by omega)
  have h2:=h n (by omega)
  simp only [sumR];omega
theorem sumR_eq {f g:Nat→Nat}:∀{n:Nat},(∀i,i < n→f i≤g i)→sumR f n=sumR g n→∀i,i < n→f i=g i
 | 0,_,_,i,hi=>by omega
 | n+1,h,e,i,hi=>by
  simp only [sumR] at e
  have h1:=sumR_le (n:=n) fun i hi=>h i (by omega)
  have h2:=h n (by omega)
  by_cases hn:i=n
  ·subst hn;omega
  ·exact sumR_eq (n:=n) (fun i hi=>h i (by omega)) (by omega) i (by omega)
theorem sumR_zero (n:Nat):sumR (fun _=>0) n=0:=by
 induction n with
 | zero=>rfl
 | succ n ih=>simp [sumR,ih]
theorem sumR_one (p:Nat→Bool) (x:Int):∀n:Nat,sumR (fun i=>if p i=true then (if (x==(i:Int))=true then 1 else 0) else 0) n=if (decide (0≤x∧x < (n:Int))&&p x.toNat)=true then 1 else 0
 | 0=>by simp [sumR];omega
 | n+1=>by
  rw [sumR,sumR_one p x n]
  by_cases hx:x=(n:Int)
  ·subst hx
   have:¬((0:Int)≤n∧(n:Int) < n):=by omega
   have h2:(0:Int)≤(n:Int)∧(n:Int) < ((n+1:Nat):Int):=by omega
   simp [this,show (n:Int) < (n:Int)+1 by omega]
  ·have h1:(x==(n:Int))=false:=by simpa using hx
   have h2:(0≤x∧x < ((n+1:Nat):Int))↔(0≤x∧x < (n:Int)):=by omega
   rw [h1]
   simp only [Bool.false_eq_true,if_false,ite_self,Nat.add_zero,h2]
theorem sumR_count (p:Nat→Bool) (n:Nat):∀L:List Int,sumR (fun i=>if p i=true then L.count (i:Int) else 0) n=L.countP (fun x=>decide (0≤x∧x < (n:Int))&&p x.toNat)
 | []=>by simpa using sumR_zero n
 | x::L=>by
  rw [List.countP_cons,←sumR_count p n L,←sumR_one p x n,←sumR_add]
  refine sumR_congr fun i hi=>?_
  rw [List.count_cons]
  cases p i<;>simp
theorem sumR_is (p:Nat→Bool) (xs:List Int) (q:Int→Bool) (h:∀i (hi:i < xs.length),p i=q xs[i]):∀n,n≤xs.length→sumR (fun i=>if p i=true then 1 else 0) n=(xs.take n).countP q
 | 0,_=>by simp [sumR]
 | n+1,hn=>by
  rw [sumR,sumR_is p xs q h n (by omega),List.take_succ_eq_append_getElem (by omega),List.countP_append,h n (by omega)]
  simp [List.countP_cons]
end Go.Proofs.YtkkimimkcchlnaaGreat
