/- Helper lemmas for the claim's theorem: an abstract machine over the model, proved sound; no condition beyond each lemma's own. -/
import Derived.Test.YtkkimimkcchlnaaGreatTD
import Derived.Test.YtkkimimkcchlnaaGreatAmG
set_option linter.unusedVariables false
set_option linter.unusedSimpArgs false
set_option linter.unnecessarySimpa false
set_option linter.unusedSectionVars false
namespace Go.Proofs.YtkkimimkcchlnaaGreat
open Go Go.AM
set_option maxRecDepth 100000
set_option maxHeartbeats 1000000
set_option linter.unusedVariables false
set_option linter.unusedSimpArgs false
def pok (p:List api_Instr):Prop:=p.length≤9223372036854775807∧∀x∈p,i64ok x.A
theorem within_pred {a m:Int} (ha:i64ok a) (hm:0≤m∧m≤1000000):code_within (IntKind.i64.wrap (a - 1)) m=(decide (1≤a)&&decide (a≤m)):=by
 obtain ⟨h1,h2⟩:=ha
 unfold code_within
 by_cases h:a=-9223372036854775808
 ·subst h
  have:IntKind.i64.wrap (-9223372036854775808 - 1)=9223372036854775807:=by decide
  rw [this]
  simp;omega
 ·rw [w64_id (by omega) (by omega)]
  rw [Bool.eq_iff_iff];simp;omega
theorem odd_may {x:api_Instr} (h:i64ok x.A):code_odd x=!r04_may x:=by
 unfold code_odd code_odd_j3 code_odd_j4 code_odd_j2 r04_may r04_in
 rw [within_pred h (by decide),within_pred h (by decide)]
 unfold code_within
 by_cases h1:x.Op=1
 ·rw [Bool.eq_iff_iff];simp [h1]<;>omega
 by_cases h2:x.Op=2
 ·rw [Bool.eq_iff_iff];simp [h2]<;>omega
 by_cases h3:x.Op=3
 ·rw [Bool.eq_iff_iff];simp [h3]
 by_cases h4:x.Op=4
 ·rw [Bool.eq_iff_iff];simp [h4]<;>omega
 by_cases h5:x.Op=5
 ·rw [Bool.eq_iff_iff];simp [h5]<;>omega
 by_cases h6:x.Op=6
 ·rw [Bool.eq_iff_iff];simp [h6]<;>omega
 by_cases h7:x.Op=7
 ·rw [Bool.eq_iff_iff];simp [h7]<;>omega
 by_cases h8:x.Op=8
 ·rw [Bool.eq_iff_iff];simp [h8]<;>omega
 by_cases h9:x.Op=9
 ·rw [Bool.eq_iff_iff];simp [h9]
 ·rw [Bool.eq_iff_iff];simp [h1,h2,h3,h4,h5,h6,h7,h8,h9]
def chkP (p:List api_Instr):Bool:=(decide (1≤p.length)&&decide (p.length≤32))&&p.all r04_may
theorem odd_any {p:List api_Instr} (h:∀x∈p,i64ok x.A):p.any code_odd=!p.all r04_may:=by
 induction p with
 | nil=>rfl
 | cons x r ih=>rw [List.any_cons,List.all_cons,odd_may (h x (by simp)),ih (fun y hy=>h y (by simp [hy])),Bool.not_and]
theorem codeCheck_eq {p:List api_Instr} (h:pok p):code_Check p=some (if chkP p then 0 else 1):=by
 unfold code_Check chkP
 by_cases hl:((decide ((p.length:Int) < 1))||(decide ((p.length:Int) > 32)))=true
 ·rw [if_pos hl,if_neg]
  simp only [Bool.or_eq_true,decide_eq_true_eq] at hl
  simp only [Bool.and_eq_true,decide_eq_true_eq];omega
 ·rw [if_neg hl]
  simp only [Bool.or_eq_true,decide_eq_true_eq] at hl
  unfold slices_ContainsFunc_api_Instr_api_Instr_odd103 slices_IndexFunc_api_Instr_api_Instr_odd103
  rw [whileO_index (step:=slices_IndexFunc_api_Instr_api_Instr_odd103_s1 p) code_odd p h.1 (fun v=>rfl)]
  simp only [Option.bind_some]
  rw [idxOf_any,odd_any h.2]
  have h1:decide (1≤p.length)=true:=by simp;omega
  have h2:decide (p.length≤32)=true:=by simp;omega
  rw [h1,h2]
  cases p.all r04_may<;>rfl
theorem may_work {x:api_Instr} (h:r04_may x=true) (h1:x.Op=1):1≤x.A∧x.A≤100:=by
 unfold r04_may r04_in at h
 simp [h1] at h;omega
theorem chkP_parts {p:List api_Instr} (h:chkP p=true):1≤p.length∧p.length≤32∧∀x∈p,r04_may x=true:=by
 unfold chkP at h
 simp only [Bool.and_eq_true,decide_eq_true_eq,List.all_eq_true] at h
 exact ⟨h.1.1,h.1.2,h.2⟩
def reach:List api_Instr→List api_Instr
 | []=>[]
 | x::r=>if x.Op=9 then [x] else x::reach r
def u1 (x:api_Instr):Int:=if x.Op=1 then x.A else 1
def sumU:List api_Instr→Int
 | []=>0
 | x::r=>u1 x+sumU r
def un (p:List api_Instr):Int:=sumU (reach p)
def isX (x:api_Instr):Bool:=x.Op==9
theorem reach_idx:∀(p:List api_Instr),reach p=match p.findIdx? isX with|some i=>p.take (i+1)|none=>p
 | []=>rfl
 | x::r=>by
  rw [reach,List.findIdx?_cons,reach_idx r]
  by_cases h:x.Op=9
  ·rw [if_pos h];simp [isX,h]
  ·rw [if_neg h]
   have h1:isX x=false:=by simp [isX,h]
   rw [h1]
   simp only [Bool.false_eq_true,if_false]
   cases List.findIdx? isX r<;>simp
theorem sub_take (p:List api_Instr) (n:Int):sub p 0 n=p.take n.toNat:=by simp [sub]
theorem sub_drop (p:List api_Instr) (n:Int):sub p n (p.length:Int)=p.drop n.toNat:=by unfold sub;rw [List.take_of_length_le (by simp)]
theorem reached_eq {p:List api_Instr} (h:p.length≤1000000):code_reached p=some (reach p):=by
 unfold code_reached slices_IndexFunc_api_Instr_api_Instr_1102
 rw [whileO_index (step:=slices_IndexFunc_api_Instr_api_Instr_1102_s1 p) isX p (by omega) (fun v=>rfl),Option.bind_some,reach_idx]
 unfold idxOf
 cases hf:p.findIdx? isX with
 | none=>rfl
 | some i =>
  obtain ⟨hi,-,-⟩:=List.findIdx?_eq_some_iff_getElem.1 hf
  simp only
  rw [if_pos (by simp),w64_id (by omega) (by omega),if_pos (by omega),sub_take]
  congr 2
theorem reach_mem {p:List api_Instr}:∀{x:api_Instr},x∈reach p→x∈p:=by
 induction p with
 | nil=>intro x h;exact h
 | cons y r ih =>
  intro x h
  rw [reach] at h
  split at h
  ·simp at h;simp [h]
  ·rcases List.mem_cons.1 h with h|h
   ·simp [h]
   ·simp [ih h]
theorem reach_len (p:List api_Instr):(reach p).length≤p.length:=by
 induction p with
 | nil=>exact Nat.le_refl _
 | cons x r ih =>
  rw [reach]
  split
  ·simp
  ·simpa using ih
theorem u1_bounds {x:api_Instr} (h:r04_may x=true):1≤u1 x∧u1 x≤100:=by
 unfold u1
 split
 ·exact may_work h (by assumption)
 ·omega
theorem sumU_bounds:∀{l:List api_Instr},(∀x∈l,r04_may x=true)→(l.length:Int)≤sumU l∧sumU l≤100*l.length
 | [],_=>by simp [sumU]
 | x::r,h=>by
  have:=sumU_bounds (l:=r) (fun y hy=>h y (by simp [hy]))
  have:=u1_bounds (h x (by simp))
  simp only [sumU,List.length_cons];omega
theorem units_loop (l:List api_Instr) (hl:l.length≤1000) (hm:∀x∈l,r04_may x=true):∀(m i:Nat) (n:Int),i+m=l.length→0≤n→n≤100*i→whileO (code_Units_s1 l) (n,(i:Int))=some (n+sumU (l.drop i),0)
 | 0,i,n,h,_,_=>by
  have:i=l.length:=by omega
  subst this
  rw [whileO_inr (k:=(n,0)),List.drop_length]
  ·simp [sumU]
  ·rw [code_Units_s1,if_neg (by simp)];rfl
 | m+1,i,n,h,h0,h1=>by
  have hi:i < l.length:=by omega
  have hb:=u1_bounds (hm _ (List.getElem_mem hi))
  rw [List.drop_eq_getElem_cons hi,sumU,whileO_inl (s':=(n+u1 l[i],((i+1:Nat):Int))),units_loop l hl hm m (i+1) _ (by omega) (by omega) (by omega),Int.add_assoc]
  rw [code_Units_s1,if_pos (by simpa using hi),if_pos (by omega),gt_nat hi,w64_nat (by omega)]
  unfold u1 at hb ⊢
  by_cases hx:l[i].Op=1
  ·rw [if_pos (by simp [hx])]
   rw [if_pos hx] at hb ⊢
   rw [w64_id (n:=l[i].A - 1) (by omega) (by omega),w64_id (n:=n+(l[i].A - 1)) (by omega) (by omega),show n+(l[i].A - 1)+1=n+l[i].A by omega,w64_id (by omega) (by omega)];rfl
  ·rw [if_neg (by simp [hx])]
   rw [if_neg hx] at hb ⊢
   rw [w64_id (by omega) (by omega)];rfl
theorem units_eq {p:List api_Instr} (hp:pok p):code_Units p=some (if chkP p then (un p,0) else (0,1)):=by
 unfold code_Units
 rw [codeCheck_eq hp,Option.bind_some]
 cases hk:chkP p with
 | false=>rfl
 | true =>
  obtain ⟨h1,h2,h3⟩:=chkP_parts hk
  simp only [if_true]
  rw [if_neg (by decide),reached_eq (by omega),Option.bind_some]
  have hr:=reach_len p
  have:=units_loop (reach p) (by omega) (fun x hx=>h3 x (reach_mem hx)) (reach p).length 0 0 (by omega) (by omega) (by omega)
  simpa [un] using this
theorem un_bounds {p:List api_Instr} (h:∀x∈p,r04_may x=true) (hl:p.length≤32):0≤un p∧un p≤3200:=by
 have:=sumU_bounds (l:=reach p) (fun x hx=>h x (reach_mem hx))
 have:=reach_len p
 unfold un;omega
theorem few_eq {l:List (List api_Instr)} (hl:l.length≤9223372036854775807):r04_Few l=some (if l.any (fun p=>decide ((p.length:Int) > 100)) then false else decide ((l.length:Int)≤100)):=by
 unfold r04_Few
 rw [whileO_seek (step:=r04_Few_s1 l) (fun p=>decide ((p.length:Int) > 100)) l (fun _=>some false) (some (decide ((l.length:Int)≤100))) hl (fun i hi=>by rw [r04_Few_s1,if_pos (by simpa using hi),if_pos (by omega)]) (by rw [r04_Few_s1,if_neg (by simp)]),seek_any]
 split<;>rfl
def spawnsFar (n:Int) (x:api_Instr):Bool:=(x.Op==2)&&decide (x.A≥n)
def badP (n:Int) (p:List api_Instr):Bool:=!chkP p||p.any (spawnsFar n)
def ckAll (l:List (List api_Instr)):Bool:=!((decide ((l.length:Int) < 1))||(decide ((l.length:Int) > 16)))&&!l.any (badP l.length)
def poks (l:List (List api_Instr)):Prop:=l.length≤1000000∧∀p∈l,p.length≤1000000∧pok p
theorem checkAll_inner {l:List (List api_Instr)} (h:poks l) {i:Nat} (hi:i < l.length):whileO (code_CheckAll_s14 l (i:Int)) 0=if l[i].any (spawnsFar l.length) then inrO (some 1) else nextO (IntKind.i64.wrap ((i:Int)+1)):=by
 have hp:=h.2 _ (List.getElem_mem hi)
 rw [whileO_seek (step:=code_CheckAll_s14 l (i:Int)) (spawnsFar l.length) l[i] (fun _=>inrO (some 1)) (nextO (IntKind.i64.wrap ((i:Int)+1))) (by omega)]
 ·rw [seek_any]
 ·intro j hj
  rw [code_CheckAll_s14,gt_nat hi,if_pos (by simpa using hj),if_pos (by omega)]
  have e1:decide ((j:Int)≥0)=true:=by simp
  rw [code_CheckAll_j13,e1];rfl
 ·rw [code_CheckAll_s14,gt_nat hi,if_neg (by simp),code_CheckAll_j13];rfl
theorem badP_if {α:Type} {n:Int} {p:List api_Instr} {a b:α}:(if ((if chkP p=true then (0:Int) else 1) != 0)=true then a else if p.any (spawnsFar n)=true then a else b)=if badP n p=true then a else b:=by
 unfold badP
 cases chkP p<;>cases p.any (spawnsFar n)<;>rfl
theorem checkAll_eq {l:List (List api_Instr)} (h:poks l):code_CheckAll l=some (if ckAll l then 0 else 1):=by
 unfold code_CheckAll ckAll
 by_cases hl:((decide ((l.length:Int) < 1))||(decide ((l.length:Int) > 16)))=true
 ·rw [if_pos hl,hl];rfl
 ·rw [if_neg hl]
  rw [whileO_seek (step:=code_CheckAll_s9 l) (badP l.length) l (fun _=>some 1) (some 0) (by have:=h.1;omega),seek_any]
  ·rw [Bool.not_eq_true] at hl
   rw [hl]
   cases l.any (badP l.length)<;>rfl
  ·intro i hi
   rw [code_CheckAll_s9,if_pos (by simpa using hi),if_pos (by omega),gt_nat hi,codeCheck_eq (h.2 _ (List.getElem_mem hi)).2,Option.bind_some,checkAll_inner h hi]
   exact badP_if
  ·rw [code_CheckAll_s9,if_neg (by simp)]
def addC (n k:Int):Int:=if 1099511627777 < n+k then 1099511627777 else n+k
def kidsOf (s:List api_Instr):List Int:=(s.filter (fun x=>x.Op==2)).map (·.A)
def kids (l:List (List api_Instr)) (i:Int):List Int:=kidsOf (reach (gt l i))
def foldD (f:Int→Option Int):List Int→Int→Option Int
 | [],n=>some n
 | j::r,n=>match f j with
  | none=>none
  | some k=>foldD f r (addC n k)
def D (l:List (List api_Instr)):Nat→Int→Option Int
 | 0,_=>none
 | m+1,i=>foldD (D l m) (kids l i) 1
theorem addC_bounds {n k:Int} (hn:1≤n) (hk:1≤k):1≤addC n k∧addC n k≤1099511627777:=by
 unfold addC;split<;>omega
theorem foldD_mono {f g:Int→Option Int} (h:∀j k,f j=some k→g j=some k):∀(r:List Int) (n v:Int),foldD f r n=some v→foldD g r n=some v
 | [],n,v,hv=>hv
 | j::r,n,v,hv=>by
  rw [foldD] at hv ⊢
  cases hf:f j with
  | none=>rw [hf] at hv;cases hv
  | some k =>
   rw [hf] at hv
   rw [h j k hf]
   exact foldD_mono h r _ v hv
theorem foldD_append (f:Int→Option Int):∀(r s:List Int) (n v:Int),foldD f r n=some v→foldD f (r++s) n=foldD f s v
 | [],s,n,v,hv=>by
  rw [foldD] at hv;injection hv with hv;subst hv;rfl
 | j::r,s,n,v,hv=>by
  rw [foldD] at hv
  rw [List.cons_append,foldD]
  cases hf:f j with
  | none=>rw [hf] at hv;cases hv
  | some k=>rw [hf] at hv;exact foldD_append f r s _ v hv
theorem foldD_kid {f:Int→Option Int}:∀{r:List Int} {n v:Int},foldD f r n=some v→∀j∈r,∃k,f j=some k
 | [],_,_,_,j,hj=>by cases hj
 | a::r,n,v,hv,j,hj=>by
  rw [foldD] at hv
  cases hf:f a with
  | none=>rw [hf] at hv;cases hv
  | some k =>
   rw [hf] at hv
   rcases List.mem_cons.1 hj with rfl|hj
   ·exact ⟨k,hf⟩
   ·exact foldD_kid hv j hj
theorem foldD_bounds {f:Int→Option Int} (hf:∀j k,f j=some k→1≤k):∀{r:List Int} {n v:Int},foldD f r n=some v→1≤n∧n≤1099511627777→1≤v∧v≤1099511627777
 | [],n,v,hv,hn=>by rw [foldD] at hv;injection hv with hv;subst hv;exact hn
 | a::r,n,v,hv,hn=>by
  rw [foldD] at hv
  cases h:f a with
  | none=>rw [h] at hv;cases hv
  | some k=>rw [h] at hv;exact foldD_bounds hf hv (addC_bounds hn.1 (hf a k h))
theorem D_bounds (l:List (List api_Instr)):∀(m:Nat) (i k:Int),D l m i=some k→1≤k∧k≤1099511627777
 | 0,i,k,h=>by cases h
 | m+1,i,k,h=>foldD_bounds (fun j k hk=>(D_bounds l m j k hk).1) h (by omega)
theorem D_step (l:List (List api_Instr)):∀(m:Nat) (i k:Int),D l m i=some k→D l (m+1) i=some k
 | 0,i,k,h=>by cases h
 | m+1,i,k,h=>foldD_mono (D_step l m) _ _ _ h
theorem D_le {l:List (List api_Instr)} {m n:Nat} (h:m≤n) {i k:Int} (hd:D l m i=some k):D l n i=some k:=by
 obtain ⟨d,rfl⟩:∃d,n=m+d:=⟨n - m,by omega⟩
 clear h
 induction d with
 | zero=>exact hd
 | succ d ih=>exact D_step l _ _ _ ih
theorem D_uniq {l:List (List api_Instr)} {m n:Nat} {i a b:Int} (h1:D l m i=some a) (h2:D l n i=some b):a=b:=by
 have g1:=D_le (Nat.le_max_left m n) h1
 have g2:=D_le (Nat.le_max_right m n) h2
 rw [g1] at g2;injection g2
inductive Path1 (l:List (List api_Instr)):Int→Int→Prop
 | one {i j:Int} (h:j∈kids l i):Path1 l i j
 | step {i j k:Int} (h:j∈kids l i) (t:Path1 l j k):Path1 l i k
theorem Path1.snoc {l:List (List api_Instr)} {i j k:Int} (h:Path1 l i j) (hk:k∈kids l j):Path1 l i k:=by
 induction h with
 | one h=>exact .step h (.one hk)
 | step h _ ih=>exact .step h (ih hk)
theorem D_kid {l:List (List api_Instr)} {m:Nat} {i v:Int} (h:D l m i=some v) {j:Int} (hj:j∈kids l i):∃m' k,m' < m∧D l m' j=some k:=by
 cases m with
 | zero=>cases h
 | succ m =>
  obtain ⟨k,hk⟩:=foldD_kid h j hj
  exact ⟨m,k,by omega,hk⟩
theorem D_path {l:List (List api_Instr)} {i k:Int} (hp:Path1 l i k):∀{m:Nat} {v:Int},D l m i=some v→∃m' v',m' < m∧D l m' k=some v':=by
 induction hp with
 | one h=>intro m v hv;exact D_kid hv h
 | step h _ ih =>
  intro m v hv
  obtain ⟨m1,v1,h1,h2⟩:=D_kid hv h
  obtain ⟨m2,v2,h3,h4⟩:=ih h2
  exact ⟨m2,v2,by omega,h4⟩
theorem D_cyc {l:List (List api_Instr)} {i:Int} (hp:Path1 l i i):∀m,D l m i=none:=by
 have key:∀n m,m≤n→D l m i=none:=by
  intro n
  induction n with
  | zero=>intro m h;have:m=0:=by omega
          subst this;rfl
  | succ n ih =>
   intro m h
   cases hd:D l m i with
   | none=>rfl
   | some v =>
    obtain ⟨m',v',h1,h2⟩:=D_path hp hd
    rw [ih m' (by omega)] at h2;cases h2
 exact fun m=>key m m (Nat.le_refl m)
theorem nodup_len:∀(n:Nat) (p:List Int),p.Nodup→(∀u∈p,0≤u∧u < n)→p.length≤n
 | 0,p,_,h=>by
  cases p with
  | nil=>simp
  | cons x r=>have:=h x (by simp);omega
 | n+1,p,hn,h=>by
  by_cases hm:(n:Int)∈p
  ·have h1:=nodup_len n (p.erase (n:Int)) (hn.erase _) (fun u hu=>by
    rw [hn.mem_erase_iff] at hu
    have:=h u hu.2
    have:=hu.1
    omega)
   rw [List.length_erase_of_mem hm] at h1
   omega
  ·have h1:=nodup_len n p hn (fun u hu=>by
    have:=h u hu
    have:u≠(n:Int):=fun e=>hm (e▸hu)
    omega)
   omega
section
variable {κ β:Type} [DecidableEq κ]
theorem mget_mput (k:κ) (v:β) (j:κ):∀(m:List (κ×β)),mget (mput m k v) j=if j=k then some v else mget m j
 | []=>by simp only [mput,mget]
 | (x,u)::r=>by
  have ih:=mget_mput k v j r
  simp only [mput]
  by_cases e:k=x
  ·rw [if_pos e]
   simp only [mget]
   by_cases e2:j=k
   ·rw [if_pos e2,if_pos e2]
   ·rw [if_neg e2,if_neg e2,if_neg (fun h=>e2 (h.trans e.symm))]
  ·rw [if_neg e]
   simp only [mget,ih]
   by_cases e2:j=x
   ·rw [if_pos e2,if_neg (fun h=>e (h.symm.trans e2)),if_pos e2]
   ·rw [if_neg e2,if_neg e2]
def keysN (m:List (κ×β)):Prop:=(m.map (·.1)).Nodup
theorem mput_keys (k:κ) (v:β):∀(m:List (κ×β)) (x:κ),x∈(mput m k v).map (·.1)→x=k∨x∈m.map (·.1)
 | [],x,h=>by simpa [mput] using h
 | (y,u)::r,x,h=>by
  simp only [mput] at h
  split at h
  ·rename_i e
   simp only [List.map_cons,List.mem_cons] at h ⊢
   rcases h with h|h
   ·exact .inl h
   ·exact .inr (.inr h)
  ·simp only [List.map_cons,List.mem_cons] at h ⊢
   rcases h with h|h
   ·exact .inr (.inl h)
   ·rcases mput_keys k v r x h with h|h
    ·exact .inl h
    ·exact .inr (.inr h)
theorem keysN_mput (k:κ) (v:β):∀(m:List (κ×β)),keysN m→keysN (mput m k v)
 | [],_=>by simp [mput,keysN]
 | (y,u)::r,h=>by
  unfold keysN at h ⊢
  rw [List.map_cons,List.nodup_cons] at h
  simp only [mput]
  split
  ·rename_i e
   rw [List.map_cons,List.nodup_cons]
   exact ⟨by rw [e];exact h.1,h.2⟩
  ·rename_i e
   rw [List.map_cons,List.nodup_cons]
   refine ⟨fun hm=>?_,keysN_mput k v r h.2⟩
   rcases mput_keys k v r y hm with h1|h1
   ·exact e h1.symm
   ·exact h.1 h1
theorem mget_none (k:κ):∀(m:List (κ×β)),k ∉ m.map (·.1)→mget m k=none
 | [],_=>rfl
 | (y,u)::r,h=>by
  simp only [List.map_cons,List.mem_cons,not_or] at h
  simp only [mget]
  rw [if_neg h.1];exact mget_none k r h.2
theorem mget_mdel (k j:κ):∀(m:List (κ×β)),keysN m→mget (mdel m k) j=if j=k then none else mget m j
 | [],_=>by simp [mdel,mget]
 | (y,u)::r,h=>by
  unfold keysN at h
  rw [List.map_cons,List.nodup_cons] at h
  simp only [mdel]
  by_cases e:k=y
  ·rw [if_pos e]
   by_cases e2:j=k
   ·rw [if_pos e2,e2,e];exact mget_none y r h.1
   ·rw [if_neg e2]
    simp only [mget]
    rw [if_neg (fun h=>e2 (h.trans e.symm))]
  ·rw [if_neg e]
   simp only [mget,mget_mdel k j r h.2]
   by_cases e2:j=y
   ·rw [if_pos e2,if_neg (fun h=>e (h.symm.trans e2)),if_pos e2]
   ·rw [if_neg e2,if_neg e2]
theorem mdel_sub (k:κ):∀(m:List (κ×β)) (x:κ),x∈(mdel m k).map (·.1)→x∈m.map (·.1)
 | [],x,h=>by simp [mdel] at h
 | (y,u)::r,x,h=>by
  simp only [mdel] at h
  split at h
  ·simp only [List.map_cons,List.mem_cons];exact .inr h
  ·simp only [List.map_cons,List.mem_cons] at h ⊢
   rcases h with h|h
   ·exact .inl h
   ·exact .inr (mdel_sub k r x h)
theorem keysN_mdel (k:κ):∀(m:List (κ×β)),keysN m→keysN (mdel m k)
 | [],_=>by simp [mdel,keysN]
 | (y,u)::r,h=>by
  unfold keysN at h ⊢
  rw [List.map_cons,List.nodup_cons] at h
  simp only [mdel]
  split
  ·exact h.2
  ·rw [List.map_cons,List.nodup_cons]
   exact ⟨fun hm=>h.1 (mdel_sub k r y hm),keysN_mdel k r h.2⟩
end
def good (l:List (List api_Instr)) (K:List (Int×Int)):Prop:=∀j k,mget K j=some k→∃m,D l m j=some k
def und (U:List (Int×Bool)) (path:List Int):Prop:=(∀j,(mget U j).getD false=decide (j∈path))∧keysN U
theorem und_put {U:List (Int×Bool)} {path:List Int} (h:und U path) (i:Int):und (mput U i true) (i::path):=by
 refine ⟨fun j=>?_,keysN_mput i true U h.2⟩
 rw [mget_mput]
 by_cases e:j=i
 ·simp [e]
 ·rw [if_neg e,h.1 j];simp [e]
theorem und_del {U:List (Int×Bool)} {path:List Int} {i:Int} (h:und U (i::path)) (hi:i ∉ path):und (mdel U i) path:=by
 refine ⟨fun j=>?_,keysN_mdel i U h.2⟩
 rw [mget_mdel _ _ _ h.2]
 by_cases e:j=i
 ·rw [if_pos e,e];simp [hi]
 ·rw [if_neg e,h.1 j];simp [e]
theorem kidsOf_take {s:List api_Instr} {q:Nat} (h:q < s.length):kidsOf (s.take (q+1))=if (s[q].Op==2)=true then kidsOf (s.take q)++[s[q].A] else kidsOf (s.take q):=by
 unfold kidsOf
 rw [List.take_succ_eq_append_getElem h,List.filter_append,List.map_append]
 split
 ·rename_i e;rw [List.filter_cons_of_pos (by simpa using e)];rfl
 ·rename_i e;rw [List.filter_cons_of_neg (by simpa using e)];simp
structure Pr (l:List (List api_Instr)):Prop where
 len:l.length≤16
 one:∀p∈l,p.length≤1000000
 kid:∀i j:Int,0≤i→i < l.length→j∈kids l i→0≤j∧j < l.length
def okR (l:List (List api_Instr)) (i:Int) (path:List Int) (r:Option (Int×Int×List (Int×Int)×List (Int×Bool))):Prop :=
 (∃k K' U',r=some (k,0,K',U')∧(∃m,D l m i=some k)∧good l K'∧und U' path)∨(∃k K' U',r=some (k,9,K',U')∧∀m,D l m i=none)
theorem count_loop {l:List (List api_Instr)} (hl:Pr l) {rec:Int→List (List api_Instr)→List (Int×Int)→List (Int×Bool)→Option (Int×Int×List (Int×Int)×List (Int×Bool))} {i:Int} (hi:0≤i∧i < l.length) {path:List Int}
 (ih:∀j K U,j∈kids l i→good l K→und U (i::path)→okR l j (i::path) (rec j l K U)) (hp:i ∉ path) {s:List api_Instr} (hs:s=reach (gt l i)) (hsl:s.length≤1000000) :
 ∀(r q:Nat) (acc:Int) (K:List (Int×Int)) (U:List (Int×Bool)),q+r=s.length→good l K→und U (i::path)→(∃m,foldD (D l m) (kidsOf (s.take q)) 1=some acc)→1≤acc∧acc≤1099511627777 →
  okR l i path (whileO (code_Tasks_1_b_s2 i l rec s) (acc,(q:Int),K,U))
 | 0,q,acc,K,U,h,hK,hU,⟨m,hm⟩,ha=>by
  have:q=s.length:=by omega
  subst this
  rw [List.take_length] at hm
  have hD:D l (m+1) i=some acc:=by rw [D,kids,←hs];exact hm
  refine .inl ⟨acc,mput K i acc,mdel U i,?_,⟨m+1,hD⟩,?_,und_del hU hp⟩
  ·refine whileO_inr ?_
   rw [code_Tasks_1_b_s2,if_neg (by simp)];rfl
  ·intro j k hj
   rw [mget_mput] at hj
   split at hj
   ·rename_i e
    injection hj with hj;subst hj;subst e
    exact ⟨m+1,hD⟩
   ·exact hK j k hj
 | r+1,q,acc,K,U,h,hK,hU,⟨m,hm⟩,ha=>by
  have hq:q < s.length:=by omega
  have hkt:=kidsOf_take hq
  cases ho:(s[q].Op==2) with
  | false =>
   rw [ho,if_neg (by simp)] at hkt
   have hstep:code_Tasks_1_b_s2 i l rec s (acc,(q:Int),K,U)=some (.inl (acc,((q+1:Nat):Int),K,U)):=by
    rw [code_Tasks_1_b_s2,if_pos (by simpa using hq),if_pos (by omega),gt_nat hq,if_pos (by simpa using ho),w64_nat (by omega)];rfl
   rw [whileO_inl hstep]
   exact count_loop hl hi ih hp hs hsl r (q+1) acc K U (by omega) hK hU ⟨m,by rw [hkt];exact hm⟩ ha
  | true =>
   rw [ho,if_pos rfl] at hkt
   have hkid:s[q].A∈kids l i:=by
    unfold kids kidsOf
    rw [←hs,List.mem_map]
    exact ⟨s[q],List.mem_filter.2 ⟨List.getElem_mem hq,by simpa using ho⟩,rfl⟩
   rcases ih s[q].A K U hkid hK hU with ⟨k,K',U',h1,⟨m2,h2⟩,h3,h4⟩|⟨k,K',U',h1,h2⟩
   ·have hb:=D_bounds l m2 _ k h2
    have hstep:code_Tasks_1_b_s2 i l rec s (acc,(q:Int),K,U)=some (.inl (addC acc k,((q+1:Nat):Int),K',U')):=by
     rw [code_Tasks_1_b_s2,if_pos (by simpa using hq),if_pos (by omega),gt_nat hq,if_neg (by simpa using ho),h1]
     simp only [Option.bind_some]
     rw [if_neg (by simp),w64_nat (by omega),w64_id (n:=acc+k) (by omega) (by omega)];rfl
    rw [whileO_inl hstep]
    refine count_loop hl hi ih hp hs hsl r (q+1) _ K' U' (by omega) h3 h4 ⟨max m m2,?_⟩ (addC_bounds ha.1 hb.1)
    have g1:=foldD_mono (fun j k=>D_le (Nat.le_max_left m m2)) _ _ _ hm
    rw [hkt,foldD_append _ _ _ _ _ g1,foldD,D_le (Nat.le_max_right m m2) h2];rfl
   ·refine .inr ⟨0,K',U',?_,fun m=>?_⟩
    ·refine whileO_inr ?_
     rw [code_Tasks_1_b_s2,if_pos (by simpa using hq),if_pos (by omega),gt_nat hq,if_neg (by simpa using ho),h1]
     rfl
    ·cases hd:D l m i with
     | none=>rfl
     | some v =>
      obtain ⟨m',k',_,g⟩:=D_kid hd hkid
      rw [h2 m'] at g;cases g
theorem count_ok {l:List (List api_Instr)} (hl:Pr l):∀(n:Nat) (i:Int) (path:List Int) (K:List (Int×Int)) (U:List (Int×Bool)),good l K→und U path→(∀u∈path,Path1 l u i)→path.Nodup→(∀u∈path,0≤u∧u < l.length)→(0≤i∧i < l.length)→l.length+2≤n+path.length →
 okR l i path (code_Tasks_1 n i l K U)
 | 0,i,path,K,U,hK,hU,hp,hn,hr,hi,hf=>by
  have:=nodup_len l.length path hn hr
  omega
 | n+1,i,path,K,U,hK,hU,hp,hn,hr,hi,hf=>by
  show okR l i path (code_Tasks_1_b (code_Tasks_1 n) i l K U)
  unfold code_Tasks_1_b
  rw [hU.1 i]
  by_cases hip:i∈path
  ·rw [if_pos (by simpa using hip)]
   exact .inr ⟨_,_,_,rfl,D_cyc (hp i hip)⟩
  ·rw [if_neg (by simpa using hip)]
   cases hk:mget K i with
   | some k =>
    rw [if_pos (show (some k).isSome=true from rfl)]
    exact .inl ⟨k,K,U,rfl,hK i k hk,hK,hU⟩
   | none =>
    rw [if_neg (by simp),if_pos hi]
    have hm:gt l i∈l:=by
     obtain ⟨q,rfl⟩:∃q:Nat,i=(q:Int):=⟨i.toNat,by omega⟩
     have hq:q < l.length:=by omega
     rw [gt_nat hq];exact List.getElem_mem hq
    have hlen:=hl.one _ hm
    rw [reached_eq hlen,Option.bind_some]
    have hrl:=reach_len (gt l i)
    refine count_loop hl hi (fun j K U hj hK hU=>?_) hip rfl (by omega) (reach (gt l i)).length 0 1 K (mput U i true) (by omega) hK (und_put hU i) ⟨0,rfl⟩ (by omega)
    refine count_ok hl n j (i::path) K U hK hU (fun u hu=>?_) (List.nodup_cons.2 ⟨hip,hn⟩) (fun u hu=>?_) (hl.kid i j hi.1 hi.2 hj) (by simp;omega)
    ·rcases List.mem_cons.1 hu with rfl|hu
     ·exact .one hj
     ·exact (hp u hu).snoc hj
    ·rcases List.mem_cons.1 hu with rfl|hu
     ·exact hi
     ·exact hr u hu
theorem may_spawn {x:api_Instr} (h:r04_may x=true) (h2:x.Op=2):0≤x.A:=by
 unfold r04_may r04_in at h
 rw [h2] at h
 simp at h;omega
theorem ckAll_pr {l:List (List api_Instr)} (h:ckAll l=true):Pr l∧∀p∈l,chkP p=true:=by
 unfold ckAll at h
 simp only [Bool.and_eq_true,Bool.not_eq_true',List.any_eq_false] at h
 obtain ⟨h1,h2⟩:=h
 have h1':1≤l.length∧l.length≤16:=by simp at h1;omega
 have hc:∀p∈l,chkP p=true∧p.any (spawnsFar l.length)=false:=fun p hp=>by
  have:=h2 p hp
  unfold badP at this
  simpa using this
 refine ⟨⟨h1'.2,fun p hp=>?_,fun i j h0 hi hj=>?_⟩,fun p hp=>(hc p hp).1⟩
 ·have:=(chkP_parts (hc p hp).1).2.1;omega
 ·obtain ⟨q,rfl⟩:∃q:Nat,i=(q:Int):=⟨i.toNat,by omega⟩
  have hq:q < l.length:=by omega
  unfold kids kidsOf at hj
  rw [gt_nat hq,List.mem_map] at hj
  obtain ⟨x,hx,rfl⟩:=hj
  obtain ⟨hx1,hx2⟩:=List.mem_filter.1 hx
  have hxm:=reach_mem hx1
  obtain ⟨c1,c2⟩:=hc _ (List.getElem_mem hq)
  have hmay:=(chkP_parts c1).2.2 x hxm
  rw [List.any_eq_false] at c2
  have c3:=c2 x hxm
  have h2:x.Op=2:=by simpa using hx2
  refine ⟨may_spawn hmay h2,?_⟩
  unfold spawnsFar at c3
  simp [h2] at c3;omega
theorem tasks_bad {l:List (List api_Instr)} {i:Int} (h:poks l) (hb:ckAll l=false∨¬(0≤i∧i < l.length)):code_Tasks l i=some (0,1):=by
 unfold code_Tasks code_within
 rw [checkAll_eq h,Option.bind_some]
 rcases hb with hb|hb
 ·rw [hb,if_pos (by simp)]
 ·rw [if_pos (by simp;omega)]
theorem tasks_ok {l:List (List api_Instr)} {i:Int} (h:poks l) (hc:ckAll l=true) (hi:0≤i∧i < l.length) :
 (∃m k,D l m i=some k∧code_Tasks l i=some (if k > 1099511627776 then (0,4) else (k,0)))∨((∀m,D l m i=none)∧code_Tasks l i=some (0,9)):=by
 have hl:=(ckAll_pr hc).1
 unfold code_Tasks code_within
 rw [checkAll_eq h,Option.bind_some,hc,if_neg (by simp;omega)]
 rcases count_ok hl 1000 i [] [] [] (fun j k hj=>by cases hj) ⟨fun j=>by simp [mget],by simp [keysN]⟩ (fun u hu=>by cases hu) List.nodup_nil (fun u hu=>by cases hu) hi (by have:=hl.len;simp;omega) with ⟨k,K',U',h1,⟨m,h2⟩,_,_⟩|⟨k,K',U',h1,h2⟩
 ·refine .inl ⟨m,k,h2,?_⟩
  rw [h1]
  simp only [Option.bind_some]
  rw [if_neg (by simp)]
  by_cases hk:k > 1099511627776
  ·rw [if_pos (by simpa using hk),if_pos hk]
  ·rw [if_neg (by simpa using hk),if_neg hk]
 ·refine .inr ⟨h2,?_⟩
  rw [h1];rfl
theorem reach_append:∀(p q:List api_Instr),reach (p++q)=if p.any isX=true then reach p else p++reach q
 | [],q=>by simp
 | x::r,q=>by
  have ih:=reach_append r q
  rw [List.cons_append,reach,reach,List.any_cons]
  by_cases h:x.Op=9
  ·have h1:isX x=true:=by simp [isX,h]
   rw [if_pos h,if_pos h,h1];rfl
  ·have h1:isX x=false:=by simp [isX,h]
   rw [if_neg h,if_neg h,h1,ih,Bool.false_or]
   split<;>rfl
theorem reach_noexit:∀(p:List api_Instr),p.any isX=false→reach p=p
 | [],_=>rfl
 | x::r,h=>by
  rw [List.any_cons,Bool.or_eq_false_iff] at h
  have h1:¬x.Op=9:=by have:=h.1;simpa [isX] using this
  rw [reach,if_neg h1,reach_noexit r h.2]
theorem few_poks {l:List (List api_Instr)} (hl:l.length≤9223372036854775807) (ha:∀p∈l,∀x∈p,i64ok x.A):∃r,r04_Few l=some r∧(r=true→poks l∧(∀p∈l,p.length≤100)∧l.length≤100):=by
 rw [few_eq hl]
 refine ⟨_,rfl,fun h=>?_⟩
 split at h
 ·cases h
 ·rename_i hn
  rw [Bool.not_eq_true,List.any_eq_false] at hn
  simp only [decide_eq_true_eq] at h
  have h1:∀p∈l,p.length≤100:=fun p hp=>by
   have:=hn p hp
   simp at this;omega
  exact ⟨⟨by omega,fun p hp=>⟨by have:=h1 p hp;omega,by have:=h1 p hp;omega,ha p hp⟩⟩,h1,by omega⟩
theorem foldD_all {f:Int→Option Int}:∀{r:List Int} {n:Int},(∀j∈r,∃k,f j=some k)→∃v,foldD f r n=some v
 | [],n,_=>⟨n,rfl⟩
 | j::r,n,h=>by
  obtain ⟨k,hk⟩:=h j (by simp)
  rw [foldD,hk]
  exact foldD_all (fun i hi=>h i (by simp [hi]))
theorem D_depth {l:List (List api_Instr)} (hl:Pr l):∀(m:Nat) (i v:Int) (path:List Int),D l m i=some v→(∀u∈path,Path1 l u i)→path.Nodup→(∀u∈path,0≤u∧u < l.length)→(0≤i∧i < l.length)→∃w,D l (l.length - path.length) i=some w
 | 0,i,v,path,h,_,_,_,_=>by cases h
 | m+1,i,v,path,h,hp,hn,hr,hi=>by
  have hip:i ∉ path:=fun hm=>by
   have:=D_cyc (hp i hm) (m+1)
   rw [h] at this;cases this
  have hn':(i::path).Nodup:=List.nodup_cons.2 ⟨hip,hn⟩
  have hr':∀u∈i::path,0≤u∧u < l.length:=fun u hu=>by
   rcases List.mem_cons.1 hu with rfl|hu
   ·exact hi
   ·exact hr u hu
  have hlen:=nodup_len l.length (i::path) hn' hr'
  rw [List.length_cons] at hlen
  obtain ⟨q,hq⟩:∃q,l.length - path.length=q+1:=⟨l.length - path.length - 1,by omega⟩
  rw [hq,D]
  refine foldD_all fun j hj=>?_
  obtain ⟨k,hk⟩:=foldD_kid h j hj
  have:=D_depth hl m j k (i::path) hk (fun u hu=>by
   rcases List.mem_cons.1 hu with rfl|hu
   ·exact .one hj
   ·exact (hp u hu).snoc hj) hn' hr' (hl.kid i j hi.1 hi.2 hj)
  rw [List.length_cons,show l.length - (path.length+1)=q by omega] at this
  exact this
theorem D_full {l:List (List api_Instr)} (hl:Pr l) {m:Nat} {i v:Int} (h:D l m i=some v) (hi:0≤i∧i < l.length):∃w,D l l.length i=some w:=by
 have:=D_depth hl m i v [] h (fun u hu=>by cases hu) List.nodup_nil (fun u hu=>by cases hu) hi
 simpa using this
end Go.Proofs.YtkkimimkcchlnaaGreat
