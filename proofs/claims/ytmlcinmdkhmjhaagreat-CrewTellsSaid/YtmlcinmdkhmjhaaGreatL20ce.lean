/- Helper lemmas for the claim's theorem: an abstract machine over the model, proved sound; no condition beyond each lemma's own. -/
import Derived.Test.YtmlcinmdkhmjhaaGreatL20cb
set_option linter.unusedVariables false
set_option linter.unusedSimpArgs false
set_option linter.unnecessarySimpa false
set_option linter.unusedSectionVars false
namespace Go.Proofs.YtmlcinmdkhmjhaaGreat
open Go Go.AM
set_option maxRecDepth 100000
set_option maxHeartbeats 1000000
set_option linter.unusedVariables false
set_option linter.unusedSimpArgs false
theorem foldD_ge0 {f:Int→Option Int} (hf:∀j k,f j=some k→0≤k):∀{r:List Int} {n v:Int},foldD f r n=some v→0≤n∧n≤1099511627777→n≤v∧v≤1099511627777
 | [],n,v,hv,hn=>by rw [foldD] at hv;injection hv with hv;omega
 | a::r,n,v,hv,hn=>by
  rw [foldD] at hv
  cases h:f a with
  | none=>rw [h] at hv;cases hv
  | some k =>
   rw [h] at hv
   have hk:=hf a k h
   have hb:0≤addC n k∧addC n k≤1099511627777∧n≤addC n k:=by unfold addC;split<;>omega
   have:=foldD_ge0 hf hv ⟨hb.1,hb.2.1⟩
   omega
def Fw (l:List (List api_Instr)):Nat→Int→Option Int
 | 0,_=>none
 | m+1,i=>(foldD (Fw l m) (kids l i) 0).map fun s=>addC (un (gt l i)+1) s
theorem Fw_step (l:List (List api_Instr)):∀(m:Nat) (i k:Int),Fw l m i=some k→Fw l (m+1) i=some k
 | 0,i,k,h=>by cases h
 | m+1,i,k,h=>by
  rw [Fw] at h ⊢
  rw [Option.map_eq_some_iff] at h
  obtain ⟨s,h1,rfl⟩:=h
  rw [foldD_mono (Fw_step l m) _ _ _ h1];rfl
theorem Fw_le {l:List (List api_Instr)} {m n:Nat} (h:m≤n) {i k:Int} (hd:Fw l m i=some k):Fw l n i=some k:=by
 obtain ⟨d,rfl⟩:∃d,n=m+d:=⟨n - m,by omega⟩
 clear h
 induction d with
 | zero=>exact hd
 | succ d ih=>exact Fw_step l _ _ _ ih
def Un (l:List (List api_Instr)):Prop:=∀i:Int,0≤un (gt l i)∧un (gt l i)≤3200
theorem Fw_nonneg {l:List (List api_Instr)} (hu:Un l):∀(m:Nat) (i k:Int),Fw l m i=some k→0≤k
 | 0,i,k,h=>by cases h
 | m+1,i,k,h=>by
  rw [Fw,Option.map_eq_some_iff] at h
  obtain ⟨s,h1,rfl⟩:=h
  have h2:=foldD_ge0 (Fw_nonneg hu m) h1 (by omega)
  have h3:=hu i
  unfold addC;split<;>omega
end Go.Proofs.YtmlcinmdkhmjhaaGreat
namespace Go.Proofs.YtmlcinmdkhmjhaaGreat
open Go Go.AM
set_option maxRecDepth 100000
set_option maxHeartbeats 1000000
set_option linter.unusedVariables false
set_option linter.unusedSimpArgs false
theorem foldD_shift {g:Int→Option Int} (hg:∀j k,g j=some k→0≤k) {a:Int} (ha:0≤a):∀{r:List Int} {s v:Int},0≤s→foldD g r s=some v→foldD g r (addC a s)=some (addC a v)
 | [],s,v,hs,h=>by rw [foldD] at h ⊢;injection h with h;rw [h]
 | j::r,s,v,hs,h=>by
  rw [foldD] at h ⊢
  cases hj:g j with
  | none=>rw [hj] at h;cases h
  | some k =>
   rw [hj] at h
   have hk:=hg j k hj
   have e:addC (addC a s) k=addC a (addC s k):=by unfold addC;repeat' split<;>omega
   show foldD g r (addC (addC a s) k)=some (addC a v)
   rw [e]
   exact foldD_shift hg ha (by unfold addC;split<;>omega) h
def foldS (f:Int→Int):List Int→Int→Int
 | [],n=>n
 | j::r,n=>if f j=0 then 0 else foldS f r (addB n (f j))
def soundW (l:List (List api_Instr)) (j x:Int):Prop:=x=0∨((1≤x∧x≤2199023255552)∧∃m,Fw l m j=some (minC x))
theorem foldS_sound {l:List (List api_Instr)} {f:Int→Int}:∀{ks:List Int} {n:Int},(∀j∈ks,soundW l j (f j))→1≤n∧n≤2199023255552 →
 foldS f ks n=0∨((1≤foldS f ks n∧foldS f ks n≤2199023255552)∧∃m,foldD (Fw l m) ks (minC n)=some (minC (foldS f ks n)))
 | [],n,_,hn=>.inr ⟨hn,0,rfl⟩
 | j::r,n,hf,hn=>by
  rw [foldS]
  rcases hf j (by simp) with h0|⟨hb,m1,hm1⟩
  ·rw [if_pos h0];exact .inl rfl
  ·rw [if_neg (by omega)]
   rcases foldS_sound (l:=l) (f:=f) (ks:=r) (n:=addB n (f j)) (fun i hi=>hf i (by simp [hi])) (addB_bounds hn.1 hb.1) with h1|⟨h1,m2,hm2⟩
   ·exact .inl h1
   ·refine .inr ⟨h1,max m1 m2,?_⟩
    rw [foldD,Fw_le (Nat.le_max_left m1 m2) hm1]
    show foldD (Fw l (max m1 m2)) r (addC (minC n) (minC (f j)))=_
    rw [minC_add hn.1 hb.1]
    exact foldD_mono (fun j k=>Fw_le (Nat.le_max_right m1 m2)) _ _ _ hm2
theorem foldS_ne {f:Int→Int}:∀{ks:List Int} {n:Int},(∀j∈ks,1≤f j)→1≤n→1≤foldS f ks n
 | [],n,_,hn=>hn
 | j::r,n,hf,hn=>by
  have hj:=hf j (by simp)
  rw [foldS,if_neg (by omega)]
  exact foldS_ne (fun i hi=>hf i (by simp [hi])) (addB_bounds hn hj).1
structure TabW (l:List (List api_Instr)) (p:Nat) (i:Int) (K:List Int):Prop where
 len:K.length=l.length
 sound:∀j:Int,0≤j→j < l.length→soundW l j (gt K j)
 comp:∀j:Int,0≤j→j < l.length→(∀v,Fw l p j=some v→gt K j≠0)∧(j < i→∀v,Fw l (p+1) j=some v→gt K j≠0)
theorem Fw_made {l:List (List api_Instr)} (hu:Un l) {i w:Int} {m:Nat} (h:foldD (Fw l m) (kids l i) (minC (un (gt l i)+1))=some w):Fw l (m+1) i=some w:=by
 have hb:=hu i
 have e:minC (un (gt l i)+1)=addC (un (gt l i)+1) 0:=by unfold minC addC;repeat' split<;>omega
 obtain ⟨v,hv⟩:=foldD_all (f:=Fw l m) (r:=kids l i) (n:=0) (fun j hj=>foldD_kid h j hj)
 have h2:=foldD_shift (Fw_nonneg hu m) (a:=un (gt l i)+1) (by omega) (by omega) hv
 rw [←e,h] at h2
 rw [Fw,hv]
 exact h2.symm
theorem TabW.next {l:List (List api_Instr)} (hl:Pr l) (hu:Un l) {p:Nat} {i:Int} {K:List Int} (h:TabW l p i K) (hi:0≤i∧i < l.length):TabW l p (i+1) (st K i (foldS (gt K) (kids l i) (un (gt l i)+1))):=by
 have hlen:=h.len
 have hiK:0≤i∧i < K.length:=by omega
 have hb:=hu i
 have hkid:∀j∈kids l i,0≤j∧j < l.length:=fun j hj=>hl.kid i j hi.1 hi.2 hj
 refine ⟨by unfold st;rw [List.length_set];exact hlen,fun j hj0 hj=>?_,fun j hj0 hj=>?_⟩
 ·rw [gt_stI j _ hiK hj0]
  split
  ·rename_i e
   subst e
   rcases foldS_sound (l:=l) (f:=gt K) (ks:=kids l j) (n:=un (gt l j)+1) (fun q hq=>h.sound q (hkid q hq).1 (hkid q hq).2) (by omega) with h1|⟨h1,m,h2⟩
   ·exact .inl h1
   ·exact .inr ⟨h1,m+1,Fw_made hu h2⟩
  ·exact h.sound j hj0 hj
 ·have hnew:∀v,Fw l (p+1) i=some v→foldS (gt K) (kids l i) (un (gt l i)+1)≠0:=fun v hv=>by
   rw [Fw,Option.map_eq_some_iff] at hv
   obtain ⟨w,hw,_⟩:=hv
   have:=foldS_ne (f:=gt K) (ks:=kids l i) (n:=un (gt l i)+1) (fun q hq=>by
    obtain ⟨k,hk⟩:=foldD_kid hw q hq
    have h1:=(h.comp q (hkid q hq).1 (hkid q hq).2).1 k hk
    rcases h.sound q (hkid q hq).1 (hkid q hq).2 with h2|⟨h2,_⟩<;>omega) (by omega)
   omega
  rw [gt_stI j _ hiK hj0]
  split
  ·rename_i e
   subst e
   exact ⟨fun v hv=>hnew v (Fw_step l p j v hv),fun _ v hv=>hnew v hv⟩
  ·rename_i e
   exact ⟨(h.comp j hj0 hj).1,fun hji v hv=>(h.comp j hj0 hj).2 (by omega) v hv⟩
theorem TabW.pass {l:List (List api_Instr)} {p:Nat} {K:List Int} (h:TabW l p (l.length:Int) K):TabW l (p+1) 0 K :=
 ⟨h.len,h.sound,fun j hj0 hj=>⟨(h.comp j hj0 hj).2 hj,fun hn=>by omega⟩⟩
end Go.Proofs.YtmlcinmdkhmjhaaGreat
namespace Go.Proofs.YtmlcinmdkhmjhaaGreat
open Go Go.AM
set_option maxRecDepth 100000
set_option maxHeartbeats 1000000
set_option linter.unusedVariables false
set_option linter.unusedSimpArgs false
def kept (t:api_Task):Bool:=decide (t.Keeps.a0≥-1)&&(decide (t.Keeps.a1≥-1)&&(decide (t.Keeps.a2≥-1)&&decide (t.Keeps.a3≥-1)))
def chk (t:api_Task):Bool:=(((((((decide (t.Id≥0)&&life_below t.Tenant 16)&&life_below t.Prog 16)&&life_below t.Pc 33)&&life_below t.Unit 100)&&life_state t.State)&&decide (t.Ran≥0))&&decide (t.Ran≤1099511627776))&&kept t
def chkE (t:api_Task):Int:=if chk t then 0 else 1
theorem min4 (a b c d:Int):slices_Min_int64_int64 [a,b,c,d]=some (let x:=if b < a then b else a;let y:=if c < x then c else x;if d < y then d else y):=by
 unfold slices_Min_int64_int64
 rw [if_neg (by simp),if_pos (by simp)]
 rw [whileO_inl (s':=(if b < a then b else a,2)) (by rfl)]
 rw [whileO_inl (s':=(if c < (if b < a then b else a) then c else (if b < a then b else a),3)) (by rfl)]
 rw [whileO_inl (s':=(if d < (if c < (if b < a then b else a) then c else (if b < a then b else a)) then d else (if c < (if b < a then b else a) then c else (if b < a then b else a)),4)) (by rfl)]
 rw [whileO_inr (by rfl)]
theorem check_eq (t:api_Task):life_Check t=some (chkE t):=by
 unfold life_Check chkE chk
 rw [min4]
 generalize (((((((decide (t.Id≥0)&&life_below t.Tenant 16)&&life_below t.Prog 16)&&life_below t.Pc 33)&&life_below t.Unit 100)&&life_state t.State)&&decide (t.Ran≥0))&&decide (t.Ran≤1099511627776))=b
 cases b with
 | false=>simp
 | true =>
  simp only [Bool.not_true,Bool.false_eq_true,if_false,Option.bind_some,Bool.true_and]
  by_cases hk:kept t=true
  ·rw [if_pos hk]
   simp only [kept,Bool.and_eq_true,decide_eq_true_eq] at hk
   rw [if_neg]
   simp only [decide_eq_true_eq]
   split<;>split<;>split<;>omega
  ·rw [if_neg hk]
   simp only [kept,Bool.and_eq_true,decide_eq_true_eq] at hk
   rw [if_pos]
   simp only [decide_eq_true_eq]
   split<;>split<;>split<;>omega
theorem rst_eq:r12_state=life_state:=rfl
theorem rcheck_eq (t:api_Task):r12_Check t=some (chkE t):=by
 have hloop:whileO (r12_Check_s1 t) 0=some (if kept t then 0 else 1):=by
  by_cases h0:t.Keeps.a0 < -1
  ·rw [whileO_inr (k:=1) (by simp [r12_Check_s1,h0])]
   rw [if_neg];simp [kept];omega
  rw [whileO_inl (s':=1) (by simp [r12_Check_s1,h0,nextO];rfl)]
  by_cases h1:t.Keeps.a1 < -1
  ·rw [whileO_inr (k:=1) (by simp [r12_Check_s1,h1])]
   rw [if_neg];simp [kept];omega
  rw [whileO_inl (s':=2) (by simp [r12_Check_s1,h1,nextO];rfl)]
  by_cases h2:t.Keeps.a2 < -1
  ·rw [whileO_inr (k:=1) (by simp [r12_Check_s1,h2])]
   rw [if_neg];simp [kept];omega
  rw [whileO_inl (s':=3) (by simp [r12_Check_s1,h2,nextO];rfl)]
  by_cases h3:t.Keeps.a3 < -1
  ·rw [whileO_inr (k:=1) (by simp [r12_Check_s1,h3])]
   rw [if_neg];simp [kept];omega
  rw [whileO_inl (s':=4) (by simp [r12_Check_s1,h3,nextO];rfl)]
  rw [whileO_inr (k:=0) (by simp [r12_Check_s1])]
  rw [if_pos];simp [kept];omega
 unfold r12_Check chkE
 rw [hloop,rst_eq]
 by_cases h:(((((((decide (t.Id≥0)&&life_below t.Tenant 16)&&life_below t.Prog 16)&&life_below t.Pc 33)&&life_below t.Unit 100)&&life_state t.State)&&decide (t.Ran≥0))&&decide (t.Ran≤1099511627776))=true
 ·rw [if_neg]
  ·simp [chk,h]
  ·simp [life_below] at h ⊢
   simp [h];omega
 ·rw [if_pos]
  ·simp [chk,h]
  ·simp [life_below] at h ⊢
   by_cases hs:life_state t.State=true
   ·simp [hs] at h ⊢;omega
   ·simp [hs]
theorem dice_same (d:api_Dice):dice_Check d=r03_Check d:=rfl
theorem loop_bad {step:Int→Option (Int ⊕ Int)} (n:Nat) (bad:Nat→Bool) (hn:n≤9223372036854775807)
 (hs:∀i:Nat,i < n→step i=if bad i=true then inrO (some 1) else nextO (IntKind.i64.wrap ((i:Int)+1))) (he:step (n:Int)=inrO (some 0)) :
 whileO step 0=some (if (List.range n).any bad=true then 1 else 0):=by
 rw [whileO_seek (step:=step) bad (List.range n) (fun _=>some 1) (some 0) (by simpa using hn),seek_any]
 ·split<;>rfl
 ·intro i hi
  rw [List.length_range] at hi
  rw [hs i hi,gt_nat (by simpa using hi),List.getElem_range]
 ·rw [List.length_range];exact he
def badSlot (p:api_Places) (i:Nat):Bool:=(decide (gt p.Gen (i:Int) < 0)||decide (gt p.Gen (i:Int) > 1099511627776))||(gt p.Live (i:Int)&&(gt p.Gen (i:Int)==1099511627776))
def ckSlot (p:api_Places):Bool:=!(((decide ((p.Gen.length:Int) < 1))||(decide ((p.Gen.length:Int) > 256)))||((p.Live.length:Int) != (p.Gen.length:Int)))&&!(List.range p.Gen.length).any (badSlot p)
theorem slot_eq (p:api_Places):slot_Check p=some (if ckSlot p then 0 else 1):=by
 unfold slot_Check ckSlot
 by_cases h:(((decide ((p.Gen.length:Int) < 1))||(decide ((p.Gen.length:Int) > 256)))||((p.Live.length:Int) != (p.Gen.length:Int)))=true
 ·rw [if_pos h,h];rfl
 ·rw [if_neg h]
  rw [Bool.not_eq_true] at h
  have h':=h
  simp only [Bool.or_eq_false_iff,decide_eq_false_iff_not,bne_eq_false_iff_eq] at h'
  rw [loop_bad p.Gen.length (badSlot p) (by omega),h]
  ·cases (List.range p.Gen.length).any (badSlot p)<;>rfl
  ·intro i hi
   rw [slot_Check_s3,if_pos (by simpa using hi),if_pos (by omega),if_pos (by omega)]
   unfold badSlot
   by_cases hl:gt p.Live (i:Int)=true
   ·rw [if_pos hl,slot_Check_j4,hl]
    by_cases h1:gt p.Gen (i:Int) < 0
    ·simp [h1]
    ·by_cases h2:gt p.Gen (i:Int) > 1099511627775
     ·have:(gt p.Gen (i:Int) > 1099511627776)∨gt p.Gen (i:Int)=1099511627776:=by omega
      rcases this with h3|h3
      ·simp [h2,h3]
      ·simp [h3]
     ·have h3:¬gt p.Gen (i:Int) > 1099511627776:=by omega
      have h4:¬gt p.Gen (i:Int)=1099511627776:=by omega
      simp [h1,h2,h3,h4]
   ·rw [if_neg hl,slot_Check_j4]
    simp [hl]
  ·rw [slot_Check_s3,if_neg (by simp)]
theorem rslot_eq (p:api_Places):r05_Check p=some (if ckSlot p then 0 else 1):=by
 unfold r05_Check ckSlot
 by_cases h:(((decide ((p.Gen.length:Int) < 1))||(decide ((p.Gen.length:Int) > 256)))||((p.Live.length:Int) != (p.Gen.length:Int)))=true
 ·rw [if_pos h,h];rfl
 ·rw [if_neg h]
  rw [Bool.not_eq_true] at h
  have h':=h
  simp only [Bool.or_eq_false_iff,decide_eq_false_iff_not,bne_eq_false_iff_eq] at h'
  rw [loop_bad p.Gen.length (badSlot p) (by omega),h]
  ·cases (List.range p.Gen.length).any (badSlot p)<;>rfl
  ·intro i hi
   rw [r05_Check_s1,if_pos (by simpa using hi),if_pos (by omega)]
   unfold badSlot
   by_cases h1:((decide ((gt p.Gen (i:Int)) < 0))||(decide ((gt p.Gen (i:Int)) > 1099511627776)))=true
   ·rw [if_pos h1,h1];rfl
   ·rw [if_neg h1,if_pos (by omega)]
    rw [Bool.not_eq_true] at h1
    rw [h1,Bool.false_or]
  ·rw [r05_Check_s1,if_neg (by simp)]
theorem ckSlot_is {p:api_Places} (h:ckSlot p=true):1≤p.Gen.length∧p.Gen.length≤256∧p.Live.length=p.Gen.length∧∀i:Nat,i < p.Gen.length→0≤gt p.Gen (i:Int)∧gt p.Gen (i:Int)≤1099511627776:=by
 unfold ckSlot at h
 simp only [Bool.and_eq_true,Bool.not_eq_true',Bool.or_eq_false_iff,decide_eq_false_iff_not,bne_eq_false_iff_eq,List.any_eq_false,List.mem_range] at h
 refine ⟨by omega,by omega,by omega,fun i hi=>?_⟩
 have h2:=h.2 i hi
 unfold badSlot at h2
 simp only [Bool.or_eq_true,decide_eq_true_eq,not_or] at h2
 omega
theorem and255 {a:Int} (h:0≤a∧a≤9223372036854775807):IntKind.i64.wrap (BitVec.ofInt IntKind.i64.bits a &&& BitVec.ofInt IntKind.i64.bits 255).toNat=Int.tmod a 256:=by
 obtain ⟨n,rfl⟩:∃n:Nat,a=(n:Int):=⟨a.toNat,by omega⟩
 have e1:(BitVec.ofInt IntKind.i64.bits (n:Int)).toNat=n:=by
  show (BitVec.ofInt 64 (n:Int)).toNat=n
  rw [BitVec.toNat_ofInt];omega
 have e2:(BitVec.ofInt IntKind.i64.bits (255:Int)).toNat=2 ^ 8 - 1:=rfl
 rw [BitVec.toNat_and,e1,e2,Nat.and_two_pow_sub_one_eq_mod]
 have hm:n % 2 ^ 8 < 256:=Nat.mod_lt _ (by decide)
 rw [w64_id (by omega) (by omega)]
 show ((n % 256:Nat):Int)=_
 rw [Int.tmod_eq_emod_of_nonneg (by omega)]
 omega
theorem find_same (p:api_Places) {id:Int} (h:i64ok id):slot_Find p id=r05_Find p id:=by
 unfold slot_Find r05_Find
 rw [slot_eq,rslot_eq]
 simp only [Option.bind_some]
 by_cases h1:((if ckSlot p=true then (0:Int) else 1) != 0||decide (id < 0))=true
 ·rw [if_pos h1,if_pos h1]
 ·rw [if_neg h1,if_neg h1]
  rw [Bool.or_eq_true,not_or,decide_eq_true_eq] at h1
  rw [and255 ⟨by omega,h.2⟩]
end Go.Proofs.YtmlcinmdkhmjhaaGreat
