/- Helper lemmas for the claim's theorem: an abstract machine over the model, proved sound; no condition beyond each lemma's own. -/
import Derived.Test.YtmlcinmdkhmjhaaGreatTD
import Derived.Test.YtmlcinmdkhmjhaaGreatAmG
set_option linter.unusedVariables false
set_option linter.unusedSimpArgs false
set_option linter.unnecessarySimpa false
set_option linter.unusedSectionVars false
namespace Go.Proofs.YtmlcinmdkhmjhaaGreat
open Go Go.AM
set_option maxRecDepth 100000
set_option maxHeartbeats 1000000
set_option linter.unusedVariables false
set_option linter.unusedSimpArgs false
def pok (p:List api_Instr):Prop:=p.length≤9223372036854775807∧∀x∈p,i64ok x.A
theorem within_pred {a m:Int} (ha:i64ok a) (hm:0≤m∧m≤1000000):code_within (IntKind.i64.wrap (a - 1)) m=(decide (1≤a)&&decide (a≤m)):=by
 obtain ⟨h1,h2⟩:=ha
 unfold code_within
 by_cases h:a=-9223372036854775808
 ·subst h
  have:IntKind.i64.wrap (-9223372036854775808 - 1)=9223372036854775807:=by decide
  rw [this]
  simp;omega
 ·rw [w64_id (by omega) (by omega)]
  rw [Bool.eq_iff_iff];simp;omega
theorem odd_may {x:api_Instr} (h:i64ok x.A):code_odd x=!r04_may x:=by
 unfold code_odd code_odd_j3 code_odd_j4 code_odd_j2 r04_may r04_in
 rw [within_pred h (by decide),within_pred h (by decide)]
 unfold code_within
 by_cases h1:x.Op=1
 ·rw [Bool.eq_iff_iff];simp [h1]<;>omega
 by_cases h2:x.Op=2
 ·rw [Bool.eq_iff_iff];simp [h2]<;>omega
 by_cases h3:x.Op=3
 ·rw [Bool.eq_iff_iff];simp [h3]
 by_cases h4:x.Op=4
 ·rw [Bool.eq_iff_iff];simp [h4]<;>omega
 by_cases h5:x.Op=5
 ·rw [Bool.eq_iff_iff];simp [h5]<;>omega
 by_cases h6:x.Op=6
 ·rw [Bool.eq_iff_iff];simp [h6]<;>omega
 by_cases h7:x.Op=7
 ·rw [Bool.eq_iff_iff];simp [h7]<;>omega
 by_cases h8:x.Op=8
 ·rw [Bool.eq_iff_iff];simp [h8]<;>omega
 by_cases h9:x.Op=9
 ·rw [Bool.eq_iff_iff];simp [h9]
 ·rw [Bool.eq_iff_iff];simp [h1,h2,h3,h4,h5,h6,h7,h8,h9]
def chkP (p:List api_Instr):Bool:=(decide (1≤p.length)&&decide (p.length≤32))&&p.all r04_may
theorem odd_any {p:List api_Instr} (h:∀x∈p,i64ok x.A):p.any code_odd=!p.all r04_may:=by
 induction p with
 | nil=>rfl
 | cons x r ih=>rw [List.any_cons,List.all_cons,odd_may (h x (by simp)),ih (fun y hy=>h y (by simp [hy])),Bool.not_and]
theorem codeCheck_eq {p:List api_Instr} (h:pok p):code_Check p=some (if chkP p then 0 else 1):=by
 unfold code_Check chkP
 by_cases hl:((decide ((p.length:Int) < 1))||(decide ((p.length:Int) > 32)))=true
 ·rw [if_pos hl,if_neg]
  simp only [Bool.or_eq_true,decide_eq_true_eq] at hl
  simp only [Bool.and_eq_true,decide_eq_true_eq];omega
 ·rw [if_neg hl]
  simp only [Bool.or_eq_true,decide_eq_true_eq] at hl
  unfold slices_ContainsFunc_api_Instr_api_Instr_odd232 slices_IndexFunc_api_Instr_api_Instr_odd232
  rw [whileO_index (step:=slices_IndexFunc_api_Instr_api_Instr_odd232_s1 p) code_odd p h.1 (fun v=>rfl)]
  simp only [Option.bind_some]
  rw [idxOf_any,odd_any h.2]
  have h1:decide (1≤p.length)=true:=by simp;omega
  have h2:decide (p.length≤32)=true:=by simp;omega
  rw [h1,h2]
  cases p.all r04_may<;>rfl
def reach:List api_Instr→List api_Instr
 | []=>[]
 | x::r=>if x.Op=9 then [x] else x::reach r
def u1 (x:api_Instr):Int:=if x.Op=1 then x.A else 1
def sumU:List api_Instr→Int
 | []=>0
 | x::r=>u1 x+sumU r
def un (p:List api_Instr):Int:=sumU (reach p)
theorem few_eq {l:List (List api_Instr)} (hl:l.length≤9223372036854775807):r04_Few l=some (if l.any (fun p=>decide ((p.length:Int) > 100)) then false else decide ((l.length:Int)≤100)):=by
 unfold r04_Few
 rw [whileO_seek (step:=r04_Few_s1 l) (fun p=>decide ((p.length:Int) > 100)) l (fun _=>some false) (some (decide ((l.length:Int)≤100))) hl (fun i hi=>by rw [r04_Few_s1,if_pos (by simpa using hi),if_pos (by omega)]) (by rw [r04_Few_s1,if_neg (by simp)]),seek_any]
 split<;>rfl
def spawnsFar (n:Int) (x:api_Instr):Bool:=(x.Op==2)&&decide (x.A≥n)
def badP (n:Int) (p:List api_Instr):Bool:=!chkP p||p.any (spawnsFar n)
def ckAll (l:List (List api_Instr)):Bool:=!((decide ((l.length:Int) < 1))||(decide ((l.length:Int) > 16)))&&!l.any (badP l.length)
def poks (l:List (List api_Instr)):Prop:=l.length≤1000000∧∀p∈l,p.length≤1000000∧pok p
theorem checkAll_inner {l:List (List api_Instr)} (h:poks l) {i:Nat} (hi:i < l.length):whileO (code_CheckAll_s14 l (i:Int)) 0=if l[i].any (spawnsFar l.length) then inrO (some 1) else nextO (IntKind.i64.wrap ((i:Int)+1)):=by
 have hp:=h.2 _ (List.getElem_mem hi)
 rw [whileO_seek (step:=code_CheckAll_s14 l (i:Int)) (spawnsFar l.length) l[i] (fun _=>inrO (some 1)) (nextO (IntKind.i64.wrap ((i:Int)+1))) (by omega)]
 ·rw [seek_any]
 ·intro j hj
  rw [code_CheckAll_s14,gt_nat hi,if_pos (by simpa using hj),if_pos (by omega)]
  have e1:decide ((j:Int)≥0)=true:=by simp
  rw [code_CheckAll_j13,e1];rfl
 ·rw [code_CheckAll_s14,gt_nat hi,if_neg (by simp),code_CheckAll_j13];rfl
theorem badP_if {α:Type} {n:Int} {p:List api_Instr} {a b:α}:(if ((if chkP p=true then (0:Int) else 1) != 0)=true then a else if p.any (spawnsFar n)=true then a else b)=if badP n p=true then a else b:=by
 unfold badP
 cases chkP p<;>cases p.any (spawnsFar n)<;>rfl
theorem checkAll_eq {l:List (List api_Instr)} (h:poks l):code_CheckAll l=some (if ckAll l then 0 else 1):=by
 unfold code_CheckAll ckAll
 by_cases hl:((decide ((l.length:Int) < 1))||(decide ((l.length:Int) > 16)))=true
 ·rw [if_pos hl,hl];rfl
 ·rw [if_neg hl]
  rw [whileO_seek (step:=code_CheckAll_s9 l) (badP l.length) l (fun _=>some 1) (some 0) (by have:=h.1;omega),seek_any]
  ·rw [Bool.not_eq_true] at hl
   rw [hl]
   cases l.any (badP l.length)<;>rfl
  ·intro i hi
   rw [code_CheckAll_s9,if_pos (by simpa using hi),if_pos (by omega),gt_nat hi,codeCheck_eq (h.2 _ (List.getElem_mem hi)).2,Option.bind_some,checkAll_inner h hi]
   exact badP_if
  ·rw [code_CheckAll_s9,if_neg (by simp)]
def addC (n k:Int):Int:=if 1099511627777 < n+k then 1099511627777 else n+k
def kidsOf (s:List api_Instr):List Int:=(s.filter (fun x=>x.Op==2)).map (·.A)
def kids (l:List (List api_Instr)) (i:Int):List Int:=kidsOf (reach (gt l i))
def foldD (f:Int→Option Int):List Int→Int→Option Int
 | [],n=>some n
 | j::r,n=>match f j with
  | none=>none
  | some k=>foldD f r (addC n k)
def D (l:List (List api_Instr)):Nat→Int→Option Int
 | 0,_=>none
 | m+1,i=>foldD (D l m) (kids l i) 1
theorem foldD_mono {f g:Int→Option Int} (h:∀j k,f j=some k→g j=some k):∀(r:List Int) (n v:Int),foldD f r n=some v→foldD g r n=some v
 | [],n,v,hv=>hv
 | j::r,n,v,hv=>by
  rw [foldD] at hv ⊢
  cases hf:f j with
  | none=>rw [hf] at hv;cases hv
  | some k =>
   rw [hf] at hv
   rw [h j k hf]
   exact foldD_mono h r _ v hv
theorem foldD_kid {f:Int→Option Int}:∀{r:List Int} {n v:Int},foldD f r n=some v→∀j∈r,∃k,f j=some k
 | [],_,_,_,j,hj=>by cases hj
 | a::r,n,v,hv,j,hj=>by
  rw [foldD] at hv
  cases hf:f a with
  | none=>rw [hf] at hv;cases hv
  | some k =>
   rw [hf] at hv
   rcases List.mem_cons.1 hj with rfl|hj
   ·exact ⟨k,hf⟩
   ·exact foldD_kid hv j hj
theorem D_step (l:List (List api_Instr)):∀(m:Nat) (i k:Int),D l m i=some k→D l (m+1) i=some k
 | 0,i,k,h=>by cases h
 | m+1,i,k,h=>foldD_mono (D_step l m) _ _ _ h
theorem D_le {l:List (List api_Instr)} {m n:Nat} (h:m≤n) {i k:Int} (hd:D l m i=some k):D l n i=some k:=by
 obtain ⟨d,rfl⟩:∃d,n=m+d:=⟨n - m,by omega⟩
 clear h
 induction d with
 | zero=>exact hd
 | succ d ih=>exact D_step l _ _ _ ih
inductive Path1 (l:List (List api_Instr)):Int→Int→Prop
 | one {i j:Int} (h:j∈kids l i):Path1 l i j
 | step {i j k:Int} (h:j∈kids l i) (t:Path1 l j k):Path1 l i k
theorem Path1.snoc {l:List (List api_Instr)} {i j k:Int} (h:Path1 l i j) (hk:k∈kids l j):Path1 l i k:=by
 induction h with
 | one h=>exact .step h (.one hk)
 | step h _ ih=>exact .step h (ih hk)
section
variable {κ β:Type} [DecidableEq κ]
theorem mget_mput (k:κ) (v:β) (j:κ):∀(m:List (κ×β)),mget (mput m k v) j=if j=k then some v else mget m j
 | []=>by simp only [mput,mget]
 | (x,u)::r=>by
  have ih:=mget_mput k v j r
  simp only [mput]
  by_cases e:k=x
  ·rw [if_pos e]
   simp only [mget]
   by_cases e2:j=k
   ·rw [if_pos e2,if_pos e2]
   ·rw [if_neg e2,if_neg e2,if_neg (fun h=>e2 (h.trans e.symm))]
  ·rw [if_neg e]
   simp only [mget,ih]
   by_cases e2:j=x
   ·rw [if_pos e2,if_neg (fun h=>e (h.symm.trans e2)),if_pos e2]
   ·rw [if_neg e2,if_neg e2]
end
def good (l:List (List api_Instr)) (K:List (Int×Int)):Prop:=∀j k,mget K j=some k→∃m,D l m j=some k
structure Pr (l:List (List api_Instr)):Prop where
 len:l.length≤16
 one:∀p∈l,p.length≤1000000
 kid:∀i j:Int,0≤i→i < l.length→j∈kids l i→0≤j∧j < l.length
theorem few_poks {l:List (List api_Instr)} (hl:l.length≤9223372036854775807) (ha:∀p∈l,∀x∈p,i64ok x.A):∃r,r04_Few l=some r∧(r=true→poks l∧(∀p∈l,p.length≤100)∧l.length≤100):=by
 rw [few_eq hl]
 refine ⟨_,rfl,fun h=>?_⟩
 split at h
 ·cases h
 ·rename_i hn
  rw [Bool.not_eq_true,List.any_eq_false] at hn
  simp only [decide_eq_true_eq] at h
  have h1:∀p∈l,p.length≤100:=fun p hp=>by
   have:=hn p hp
   simp at this;omega
  exact ⟨⟨by omega,fun p hp=>⟨by have:=h1 p hp;omega,by have:=h1 p hp;omega,ha p hp⟩⟩,h1,by omega⟩
theorem foldD_all {f:Int→Option Int}:∀{r:List Int} {n:Int},(∀j∈r,∃k,f j=some k)→∃v,foldD f r n=some v
 | [],n,_=>⟨n,rfl⟩
 | j::r,n,h=>by
  obtain ⟨k,hk⟩:=h j (by simp)
  rw [foldD,hk]
  exact foldD_all (fun i hi=>h i (by simp [hi]))
end Go.Proofs.YtmlcinmdkhmjhaaGreat
namespace Go.Proofs.YtmlcinmdkhmjhaaGreat
open Go Go.AM
set_option maxRecDepth 100000
set_option maxHeartbeats 1000000
set_option linter.unusedVariables false
set_option linter.unusedSimpArgs false
theorem rcodeCheck_eq {p:List api_Instr} (h:p.length≤9223372036854775807):r04_Check p=some (if chkP p then 0 else 1):=by
 unfold r04_Check chkP
 by_cases hl:((decide ((p.length:Int) < 1))||(decide ((p.length:Int) > 32)))=true
 ·rw [if_pos hl,if_neg]
  simp only [Bool.or_eq_true,decide_eq_true_eq] at hl
  simp only [Bool.and_eq_true,decide_eq_true_eq];omega
 ·rw [if_neg hl]
  simp only [Bool.or_eq_true,decide_eq_true_eq] at hl
  rw [whileO_seek (step:=r04_Check_s1 p) (fun x=>!r04_may x) p (fun _=>some 1) (some 0) h (fun i hi=>by rw [r04_Check_s1,if_pos (by simpa using hi),if_pos (by omega)]) (by rw [r04_Check_s1,if_neg (by simp)])]
  rw [seek_any]
  have h1:decide (1≤p.length)=true:=by simp;omega
  have h2:decide (p.length≤32)=true:=by simp;omega
  have h3:(p.any fun x=>!r04_may x)=!p.all r04_may:=by
   clear h h1 h2 hl
   induction p with
   | nil=>rfl
   | cons x r ih=>rw [List.any_cons,List.all_cons,ih,Bool.not_and]
  rw [h1,h2,h3]
  cases p.all r04_may<;>rfl
theorem rcheckAll_inner {l:List (List api_Instr)} (h:poks l) {i:Nat} (hi:i < l.length):whileO (r04_CheckAll_s4 l (i:Int)) 0=if l[i].any (spawnsFar l.length) then inrO (some 1) else nextO (IntKind.i64.wrap ((i:Int)+1)):=by
 have hp:=h.2 _ (List.getElem_mem hi)
 rw [whileO_seek (step:=r04_CheckAll_s4 l (i:Int)) (spawnsFar l.length) l[i] (fun _=>inrO (some 1)) (nextO (IntKind.i64.wrap ((i:Int)+1))) (by omega)]
 ·rw [seek_any]
 ·intro j hj
  rw [r04_CheckAll_s4,gt_nat hi,if_pos (by simpa using hj),if_pos (by omega)];rfl
 ·rw [r04_CheckAll_s4,gt_nat hi,if_neg (by simp)]
theorem rcheckAll_eq {l:List (List api_Instr)} (h:poks l):r04_CheckAll l=some (if ckAll l then 0 else 1):=by
 unfold r04_CheckAll ckAll
 by_cases hl:((decide ((l.length:Int) < 1))||(decide ((l.length:Int) > 16)))=true
 ·rw [if_pos hl,hl];rfl
 ·rw [if_neg hl]
  rw [whileO_seek (step:=r04_CheckAll_s3 l) (badP l.length) l (fun _=>some 1) (some 0) (by have:=h.1;omega),seek_any]
  ·rw [Bool.not_eq_true] at hl
   rw [hl]
   cases l.any (badP l.length)<;>rfl
  ·intro i hi
   rw [r04_CheckAll_s3,if_pos (by simpa using hi),if_pos (by omega),gt_nat hi,rcodeCheck_eq (h.2 _ (List.getElem_mem hi)).2.1,Option.bind_some,rcheckAll_inner h hi]
   exact badP_if
  ·rw [r04_CheckAll_s3,if_neg (by simp)]
def addB (n k:Int):Int:=if 2199023255552 < n+k then 2199023255552 else n+k
def minC (n:Int):Int:=if n < 1099511627777 then n else 1099511627777
def foldT (f:Int→Int):List Int→Int→Int
 | [],n=>n
 | j::r,n=>if n > 0 then (if f j=0 then foldT f r 0 else foldT f r (addB n (f j))) else foldT f r n
theorem foldT_zero (f:Int→Int):∀r,foldT f r 0=0
 | []=>rfl
 | j::r=>by rw [foldT,if_neg (by omega)];exact foldT_zero f r
theorem minC_add {n k:Int} (hn:1≤n) (hk:1≤k):addC (minC n) (minC k)=minC (addB n k):=by
 unfold addC minC addB
 repeat' split
 all_goals omega
theorem addB_bounds {n k:Int} (hn:1≤n) (hk:1≤k):1≤addB n k∧addB n k≤2199023255552:=by unfold addB;split<;>omega
def soundV (l:List (List api_Instr)) (j x:Int):Prop:=x=0∨((1≤x∧x≤2199023255552)∧∃m,D l m j=some (minC x))
theorem foldT_sound {l:List (List api_Instr)} {f:Int→Int}:∀{ks:List Int} {n:Int},(∀j∈ks,soundV l j (f j))→1≤n∧n≤2199023255552 →
 foldT f ks n=0∨((1≤foldT f ks n∧foldT f ks n≤2199023255552)∧∃m,foldD (D l m) ks (minC n)=some (minC (foldT f ks n)))
 | [],n,_,hn=>.inr ⟨hn,0,rfl⟩
 | j::r,n,hf,hn=>by
  rw [foldT,if_pos (by omega)]
  rcases hf j (by simp) with h0|⟨hb,m1,hm1⟩
  ·rw [if_pos h0];exact .inl (foldT_zero f r)
  ·rw [if_neg (by omega)]
   rcases foldT_sound (l:=l) (f:=f) (ks:=r) (n:=addB n (f j)) (fun i hi=>hf i (by simp [hi])) (addB_bounds hn.1 hb.1) with h1|⟨h1,m2,hm2⟩
   ·exact .inl h1
   ·refine .inr ⟨h1,max m1 m2,?_⟩
    rw [foldD,D_le (Nat.le_max_left m1 m2) hm1]
    show foldD (D l (max m1 m2)) r (addC (minC n) (minC (f j)))=_
    rw [minC_add hn.1 hb.1]
    exact foldD_mono (fun j k=>D_le (Nat.le_max_right m1 m2)) _ _ _ hm2
theorem foldT_ne {f:Int→Int}:∀{ks:List Int} {n:Int},(∀j∈ks,1≤f j)→1≤n→1≤foldT f ks n
 | [],n,_,hn=>hn
 | j::r,n,hf,hn=>by
  have hj:=hf j (by simp)
  rw [foldT,if_pos (by omega),if_neg (by omega)]
  exact foldT_ne (fun i hi=>hf i (by simp [hi])) (addB_bounds hn hj).1
theorem gt_stI {m:List Int} {i:Int} (j x:Int) (h0:0≤i∧i < m.length) (hj:0≤j):gt (st m i x) j=if j=i then x else gt m j:=by
 by_cases e:j=i
 ·subst e
  simp [gt,st,List.getD,List.getElem?_set,show j.toNat < m.length by omega]
 ·have:i.toNat≠j.toNat:=by omega
  simp [gt,st,List.getD,List.getElem?_set,this,e]
structure Tab (l:List (List api_Instr)) (p:Nat) (i:Int) (K:List Int):Prop where
 len:K.length=l.length
 sound:∀j:Int,0≤j→j < l.length→soundV l j (gt K j)
 comp:∀j:Int,0≤j→j < l.length→(∀v,D l p j=some v→gt K j≠0)∧(j < i→∀v,D l (p+1) j=some v→gt K j≠0)
theorem Tab.next {l:List (List api_Instr)} (hl:Pr l) {p:Nat} {i:Int} {K:List Int} (h:Tab l p i K) (hi:0≤i∧i < l.length):Tab l p (i+1) (st K i (foldT (gt K) (kids l i) 1)):=by
 have hlen:=h.len
 have hiK:0≤i∧i < K.length:=by omega
 have hkid:∀j∈kids l i,0≤j∧j < l.length:=fun j hj=>hl.kid i j hi.1 hi.2 hj
 refine ⟨by unfold st;rw [List.length_set];exact hlen,fun j hj0 hj=>?_,fun j hj0 hj=>?_⟩
 ·rw [gt_stI j _ hiK hj0]
  split
  ·rename_i e
   subst e
   rcases foldT_sound (l:=l) (f:=gt K) (ks:=kids l j) (n:=1) (fun q hq=>h.sound q (hkid q hq).1 (hkid q hq).2) (by omega) with h1|⟨h1,m,h2⟩
   ·exact .inl h1
   ·exact .inr ⟨h1,m+1,h2⟩
  ·exact h.sound j hj0 hj
 ·have hnew:∀v,D l (p+1) i=some v→foldT (gt K) (kids l i) 1≠0:=fun v hv=>by
   have:=foldT_ne (f:=gt K) (ks:=kids l i) (n:=1) (fun q hq=>by
    obtain ⟨k,hk⟩:=foldD_kid hv q hq
    have h1:=(h.comp q (hkid q hq).1 (hkid q hq).2).1 k hk
    rcases h.sound q (hkid q hq).1 (hkid q hq).2 with h2|⟨h2,_⟩<;>omega) (by omega)
   omega
  rw [gt_stI j _ hiK hj0]
  split
  ·rename_i e
   subst e
   exact ⟨fun v hv=>hnew v (D_step l p j v hv),fun _ v hv=>hnew v hv⟩
  ·rename_i e
   exact ⟨(h.comp j hj0 hj).1,fun hji v hv=>(h.comp j hj0 hj).2 (by omega) v hv⟩
theorem Tab.pass {l:List (List api_Instr)} {p:Nat} {K:List Int} (h:Tab l p (l.length:Int) K):Tab l (p+1) 0 K :=
 ⟨h.len,h.sound,fun j hj0 hj=>⟨(h.comp j hj0 hj).2 hj,fun hn=>by omega⟩⟩
end Go.Proofs.YtmlcinmdkhmjhaaGreat
