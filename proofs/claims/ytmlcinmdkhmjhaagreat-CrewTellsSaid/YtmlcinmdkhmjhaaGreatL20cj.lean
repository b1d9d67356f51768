/- Helper lemmas for the claim's theorem: an abstract machine over the model, proved sound; no condition beyond each lemma's own. -/
import Derived.Test.YtmlcinmdkhmjhaaGreatL20ch
set_option linter.unusedVariables false
set_option linter.unusedSimpArgs false
set_option linter.unnecessarySimpa false
set_option linter.unusedSectionVars false
namespace Go.Proofs.YtmlcinmdkhmjhaaGreat
open Go Go.AM
set_option maxRecDepth 100000
set_option maxHeartbeats 1000000
set_option linter.unusedVariables false
set_option linter.unusedSimpArgs false
def nextJ (l:List api_Join) (k:Int):Option Int:=(l.find? (fun x=>x.Who==k)).map (·.On)
def it (f:Int→Option Int):Nat→Option Int→Option Int
 | 0,o=>o
 | n+1,o=>it f n (o.bind f)
theorem it_add (f:Int→Option Int):∀(m n:Nat) (o:Option Int),it f (m+n) o=it f n (it f m o)
 | 0,n,o=>by rw [Nat.zero_add];rfl
 | m+1,n,o=>by rw [show m+1+n=m+n+1 by omega,it,it,it_add f m n]
theorem it_none (f:Int→Option Int):∀n:Nat,it f n none=none
 | 0=>rfl
 | n+1=>by rw [it];exact it_none f n
def hit (f:Int→Option Int) (k:Int):Nat→Option Int→Bool
 | 0,_=>false
 | _+1,none=>false
 | n+1,some a=>a==k||hit f k n (f a)
theorem hit_iff {f:Int→Option Int} {k:Int}:∀{n:Nat} {o:Option Int},hit f k n o=true↔∃j,j < n∧it f j o=some k
 | 0,o=>by simp [hit]
 | n+1,none=>by simp [hit,it_none]
 | n+1,some a=>by
  rw [hit,Bool.or_eq_true,hit_iff,beq_iff_eq]
  constructor
  ·rintro (rfl|⟨j,h1,h2⟩)
   ·exact ⟨0,by omega,rfl⟩
   ·exact ⟨j+1,by omega,h2⟩
  ·rintro ⟨j,h1,h2⟩
   cases j with
   | zero=>left;rw [it] at h2;injection h2
   | succ j=>exact .inr ⟨j,by omega,h2⟩
theorem nodup_sub:∀{L K:List Int},L.Nodup→(∀x∈L,x∈K)→L.length≤K.length
 | [],K,_,_=>by simp
 | x::L,K,hn,hs=>by
  rw [List.nodup_cons] at hn
  have hx:=hs x (by simp)
  have h1:=nodup_sub (L:=L) (K:=K.erase x) hn.2 (fun y hy=>by
   have hne:y≠x:=fun e=>hn.1 (e▸hy)
   exact (List.mem_erase_of_ne hne).2 (hs y (by simp [hy])))
  rw [List.length_erase_of_mem hx] at h1
  have h2:=List.length_pos_of_mem hx
  simp only [List.length_cons];omega
theorem hit_more {f:Int→Option Int} {keys:List Int} (hk:∀x,f x≠none→x∈keys) {k:Int} {n:Nat} (hn:keys.length≤n):hit f k (n+1) (f k)=hit f k n (f k):=by
 rw [Bool.eq_iff_iff,hit_iff,hit_iff]
 constructor
 ·rintro ⟨j,hj,h⟩
  apply Classical.byContradiction
  intro hno
  have hjn:j=n:=by
   apply Classical.byContradiction
   intro hne
   exact hno ⟨j,by omega,h⟩
  subst hjn
  have hd:∀t,it f (t+1) (some k)=it f t (f k):=fun t=>rfl
  have hlast:it f (j+1) (some k)=some k:=h
  have hsome:∀t,t≤j→∃v,it f t (some k)=some v:=fun t ht=>by
   cases hv:it f t (some k) with
   | some v=>exact ⟨v,rfl⟩
   | none =>
    rw [show j+1=t+(j+1 - t) by omega,it_add,hv,it_none] at hlast
    cases hlast
  let v:Nat→Int:=fun t=>(it f t (some k)).getD 0
  have hv:∀t,t≤j→it f t (some k)=some (v t):=fun t ht=>by
   obtain ⟨x,hx⟩:=hsome t ht
   show _=some ((it f t (some k)).getD 0)
   rw [hx];rfl
  have hinj:∀a b,a < b→b≤j→v a≠v b:=fun a b hab hb e=>by
   have h1:it f (a+(j+1 - b)) (some k)=some k:=by
    rw [it_add,hv a (by omega),e,←hv b hb,←it_add,show b+(j+1 - b)=j+1 by omega];exact hlast
   refine hno ⟨a+(j - b),by omega,?_⟩
   rw [←hd,show a+(j - b)+1=a+(j+1 - b) by omega];exact h1
  have hnd:((List.range (j+1)).map v).Nodup:=by
   rw [List.nodup_iff_pairwise_ne,List.pairwise_map]
   refine List.Pairwise.imp_of_mem ?_ (List.pairwise_lt_range (n:=j+1))
   intro a b ha hb hab
   exact hinj a b hab (by have:=List.mem_range.1 hb;omega)
  have hsub:=nodup_sub (K:=keys) hnd (fun x hx=>by
   obtain ⟨t,ht,rfl⟩:=List.mem_map.1 hx
   have ht:t≤j:=by have:=List.mem_range.1 ht;omega
   refine hk _ (fun hf=>?_)
   have h1:it f (t+1) (some k)=none:=by rw [it_add,hv t ht];show (some (v t)).bind f=none;exact hf
   by_cases htj:t=j
   ·subst htj;rw [hlast] at h1;cases h1
   ·obtain ⟨y,hy⟩:=hsome (t+1) (by omega)
    rw [hy] at h1;cases h1)
  rw [List.length_map,List.length_range] at hsub
  omega
 ·rintro ⟨j,hj,h⟩
  exact ⟨j,by omega,h⟩
theorem nextJ_key {l:List api_Join} {x:Int} (h:nextJ l x≠none):x∈l.map (·.Who):=by
 unfold nextJ at h
 cases hf:l.find? (fun y=>y.Who==x) with
 | none=>rw [hf] at h;exact absurd rfl h
 | some y =>
  have h1:=List.find?_some hf
  have h2:=List.mem_of_find?_eq_some hf
  rw [beq_iff_eq] at h1
  exact List.mem_map.2 ⟨y,h2,h1⟩
theorem nextJ_snoc (l:List api_Join) (x:api_Join) (k:Int):nextJ (l++[x]) k=(nextJ l k).or (if (x.Who==k)=true then some x.On else none):=by
 unfold nextJ
 rw [List.find?_append]
 cases l.find? (fun y=>y.Who==k) with
 | some y=>rfl
 | none =>
  simp only [Option.none_or,Option.map_none,List.find?_cons,List.find?_nil]
  cases x.Who==k<;>rfl
theorem nextJ_seen (l:List api_Join) (k:Int):(nextJ l k).isSome=l.any (fun x=>x.Who==k):=by
 unfold nextJ
 rw [Option.isSome_map,Bool.eq_iff_iff,List.find?_isSome,List.any_eq_true]
def badJ (l:List api_Join) (i:Nat):Bool:=((decide ((gt l (i:Int)).On < 0))||decide ((gt l (i:Int)).Who < 0))||(List.range i).any (fun j=>(gt l (j:Int)).Who==(gt l (i:Int)).Who)
def cyc (l:List api_Join):Bool:=l.any (fun x=>hit (nextJ l) x.Who l.length (nextJ l x.Who))
def ckJ (l:List api_Join):Bool:=!decide ((l.length:Int) > 256)&&(!(List.range l.length).any (badJ l)&&!cyc l)
theorem mput_len (k v:Int):∀m:List (Int×Int),mget m k=none→(mput m k v).length=m.length+1
 | [],_=>rfl
 | (a,b)::r,h=>by
  unfold mget at h
  unfold mput
  split at h
  ·cases h
  ·rename_i e
   rw [if_neg e]
   simp only [List.length_cons]
   rw [mput_len k v r h]
theorem mget_key {k:Int}:∀{m:List (Int×Int)},(mget m k).isSome=true↔k∈m.map (·.1)
 | []=>by simp [mget]
 | (a,b)::r=>by
  unfold mget
  split
  ·rename_i e;simp [e]
  ·rename_i e
   rw [mget_key (m:=r)]
   simp [e]
theorem way_loop {M:List (Int×Int)} {f:Int→Option Int} (hM:∀k,mget M k=f k) (k:Int) (hl:M.length≤1000):∀(m i:Nat) (o:Option Int),i+m=M.length→whileO (joins_Check_s13 M k) (o.getD 0,o.isSome,(i:Int))=some (hit f k m o)
 | 0,i,o,h=>by
  have:i=M.length:=by omega
  subst this
  exact whileO_inr (by rw [joins_Check_s13,if_neg (by simp),joins_Check_j12,if_neg (by simp)];rfl)
 | m+1,i,none,h=>by
  have hi:i < M.length:=by omega
  exact whileO_inr (by rw [joins_Check_s13,if_pos (by simpa using hi),if_pos (by simp),joins_Check_j12,if_neg (by simp)];rfl)
 | m+1,i,some a,h=>by
  have hi:i < M.length:=by omega
  rw [hit]
  cases ha:a==k with
  | true=>exact whileO_inr (by rw [joins_Check_s13,if_pos (by simpa using hi),if_neg (by simp)];simp only [Option.getD_some];rw [if_pos ha,joins_Check_j12,if_pos rfl];rfl)
  | false =>
   rw [Bool.false_or,←way_loop hM k hl m (i+1) (f a) (by omega)]
   exact whileO_inl (by rw [joins_Check_s13,if_pos (by simpa using hi),if_neg (by simp)];simp only [Option.getD_some];rw [if_neg (by rw [ha];simp),hM a,w64_nat (by omega)];rfl)
theorem joins_loop (l:List api_Join) (hl:l.length≤9223372036854775806):∀(m i:Nat) (M:List (Int×Int)),i+m=l.length→(∀k,mget M k=nextJ (l.take i) k)→M.length=i →
 whileO (joins_Check_s10 l) ((i:Int),M)=some (if (decide ((l.length:Int) > 256)||(((List.range l.length).drop i).any (badJ l)||cyc l))=true then 1 else 0)
 | 0,i,M,h,hM,hlen=>by
  have:i=l.length:=by omega
  subst this
  rw [List.take_length] at hM
  rw [List.drop_eq_nil_of_le (by simp),List.any_nil,Bool.false_or]
  have hst:joins_Check_s10 l ((l.length:Int),M)=inrO (some (if (decide ((l.length:Int) > 256)||cyc l)=true then 1 else 0)):=by
   rw [joins_Check_s10,if_neg (by simp)]
   by_cases h2:(l.length:Int) > 256
   ·rw [if_pos (by simp;omega)]
    simp [h2]
   ·rw [if_neg (by simp;omega)]
    have hw:∀k,whileO (joins_Check_s13 M k) ((mget M k).getD 0,(mget M k).isSome,0)=some (hit (nextJ l) k l.length (nextJ l k)):=fun k=>by
     have:=way_loop hM k (by omega) M.length 0 (nextJ l k) (by omega)
     rw [hM k,←hlen]
     exact this
    have ha:anyO (fun k _=>whileO (joins_Check_s13 M k) ((mget M k).getD 0,(mget M k).isSome,0)) M=some (cyc l):=by
     unfold anyO
     rw [if_pos (fun p hp=>by simp only [hw];simp)]
     congr 1
     unfold cyc
     rw [Bool.eq_iff_iff,List.any_eq_true,List.any_eq_true]
     constructor
     ·rintro ⟨p,hp,h⟩
      simp only [hw,Option.getD_some] at h
      have h1:p.1∈M.map (·.1):=List.mem_map.2 ⟨p,hp,rfl⟩
      rw [←mget_key,hM] at h1
      have h2:=nextJ_key (l:=l) (x:=p.1) (fun e=>by rw [e] at h1;cases h1)
      obtain ⟨x,hx,hxe⟩:=List.mem_map.1 h2
      exact ⟨x,hx,by rw [hxe];exact h⟩
     ·rintro ⟨x,hx,h⟩
      have h1:(mget M x.Who).isSome=true:=by rw [hM,nextJ_seen,List.any_eq_true];exact ⟨x,hx,by simp⟩
      rw [mget_key] at h1
      obtain ⟨p,hp,hpe⟩:=List.mem_map.1 h1
      exact ⟨p,hp,by simp only [hw,hpe,Option.getD_some];exact h⟩
    rw [ha]
    have e:decide ((l.length:Int) > 256)=false:=by simpa using h2
    rw [e,Bool.false_or]
    simp only [Option.bind_some]
    cases cyc l<;>rfl
  exact whileO_inr hst
 | m+1,i,M,h,hM,hlen=>by
  have hi:i < l.length:=by omega
  rw [drop_range hi,List.any_cons]
  have hseen:(mget M (gt l (i:Int)).Who).isSome=(List.range i).any (fun j=>(gt l (j:Int)).Who==(gt l (i:Int)).Who):=by
   rw [hM,nextJ_seen,take_any (fun x:api_Join=>x.Who==(gt l (i:Int)).Who) (by omega)]
  have hbad:(((mget M ((gt l (i:Int)).Who)).isSome)||(decide ((if ((gt l (i:Int)).Who) < ((gt l (i:Int)).On) then (gt l (i:Int)).Who else (gt l (i:Int)).On) < 0)))=badJ l i:=by
   rw [hseen]
   unfold badJ
   have:decide ((if ((gt l (i:Int)).Who) < ((gt l (i:Int)).On) then (gt l (i:Int)).Who else (gt l (i:Int)).On) < 0)=((decide ((gt l (i:Int)).On < 0))||decide ((gt l (i:Int)).Who < 0)):=by
    rw [Bool.eq_iff_iff,Bool.or_eq_true,decide_eq_true_eq,decide_eq_true_eq,decide_eq_true_eq]
    split<;>omega
   rw [this,Bool.or_comm]
  cases hb:badJ l i with
  | true =>
   rw [whileO_inr (k:=1) (by rw [joins_Check_s10,if_pos (by simpa using hi),if_pos (by omega),if_pos (by rw [hbad];exact hb)];rfl)]
   simp
  | false =>
   rw [whileO_inl (by rw [joins_Check_s10,if_pos (by simpa using hi),if_pos (by omega),if_neg (by rw [hbad,hb];simp),w64_nat (by omega)];rfl)]
   have hns:mget M (gt l (i:Int)).Who=none:=by
    unfold badJ at hb
    rw [Bool.or_eq_false_iff] at hb
    rw [hb.2] at hseen
    cases hg:mget M (gt l (i:Int)).Who with
    | none=>rfl
    | some y=>rw [hg] at hseen;cases hseen
   rw [joins_loop l hl m (i+1) _ (by omega) (fun k=>?_) (by rw [mput_len _ _ _ hns];omega)]
   ·rfl
   ·rw [mget_mput,List.take_succ_eq_append_getElem hi,nextJ_snoc,←hM,←gt_nat hi]
    by_cases e:k=(gt l (i:Int)).Who
    ·subst e
     rw [if_pos rfl,hns];simp
    ·rw [if_neg e,if_neg (by simpa using Ne.symm e)]
     simp
theorem joins_eq {l:List api_Join} (hl:l.length≤9223372036854775806):joins_Check l=some (if ckJ l then 0 else 1):=by
 have:=joins_loop l hl l.length 0 [] (by omega) (fun k=>by simp [mget,nextJ]) rfl
 unfold joins_Check ckJ
 rw [List.drop_zero,show ((0:Nat):Int)=0 from rfl] at this
 rw [this]
 cases decide ((l.length:Int) > 256)<;>cases (List.range l.length).any (badJ l)<;>cases cyc l<;>rfl
end Go.Proofs.YtmlcinmdkhmjhaaGreat
namespace Go.Proofs.YtmlcinmdkhmjhaaGreat
open Go Go.AM
set_option maxRecDepth 100000
set_option maxHeartbeats 1000000
set_option linter.unusedVariables false
set_option linter.unusedSimpArgs false
theorem seek_find {α β:Type} (p:α→Bool) (found:Nat→β) (rest:β) (g:α→β):∀(xs:List α) (i:Nat),(∀k (hk:k < xs.length),found (i+k)=g xs[k])→seek p found rest i xs=match xs.find? p with|some x=>g x|none=>rest
 | [],i,_=>rfl
 | x::xs,i,h=>by
  rw [seek,List.find?_cons]
  cases hp:p x with
  | true=>exact h 0 (by simp)
  | false =>
   simp only [Bool.false_eq_true,if_false]
   exact seek_find p found rest g xs (i+1) (fun k hk=>by have:=h (k+1) (by simpa using hk);rw [show i+1+k=i+(k+1) by omega,this];rfl)
theorem ron_eq {l:List api_Join} (k:Int) (hl:l.length≤1000000):r11_on l k=some ((nextJ l k).getD (-1)):=by
 unfold r11_on
 rw [whileO_seek (step:=r11_on_s1 l k) (fun x=>x.Who==k) l (fun i=>some (gt l (i:Int)).On) (some (-1)) (by omega),seek_find _ _ _ (fun x=>some x.On) l 0 (fun i hi=>by rw [Nat.zero_add,gt_nat hi])]
 ·unfold nextJ
  cases l.find? (fun x=>x.Who==k)<;>rfl
 ·intro i hi
  rw [r11_on_s1,if_pos (by simpa using hi),if_pos (by omega)]
 ·rw [r11_on_s1,if_neg (by simp)]
def wayL (f:Int→Option Int):Nat→Option Int→List Int
 | 0,_=>[]
 | _+1,none=>[]
 | n+1,some a=>a::wayL f n (f a)
theorem wayL_hit (f:Int→Option Int) (k:Int):∀(n:Nat) (o:Option Int),(wayL f n o).any (·==k)=hit f k n o
 | 0,_=>rfl
 | n+1,none=>rfl
 | n+1,some a=>by rw [wayL,List.any_cons,hit,wayL_hit f k n]
theorem wayL_len (f:Int→Option Int):∀(n:Nat) (o:Option Int),(wayL f n o).length≤n
 | 0,_=>by simp [wayL]
 | n+1,none=>by simp [wayL]
 | n+1,some a=>by simpa [wayL] using wayL_len f n (f a)
theorem rway_loop {l:List api_Join} (hl:l.length≤256) (hp:∀k a,nextJ l k=some a→0≤a):∀(m i:Nat) (w:Int) (out:List Int),i+m=l.length+1→out.length≤i→whileO (r11_Way_s1 l) (w,out,(i:Int))=some (out++wayL (nextJ l) m (nextJ l w))
 | 0,i,w,out,h,ho=>by
  refine whileO_inr ?_
  rw [r11_Way_s1,w64_id (n:=(l.length:Int)+1) (by omega) (by omega),if_neg (by simp;omega)]
  simp [wayL]
 | m+1,i,w,out,h,ho=>by
  have hlt:decide ((i:Int) < (l.length:Int)+1)=true:=by simp;omega
  cases hn:nextJ l w with
  | none =>
   refine whileO_inr ?_
   rw [r11_Way_s1,w64_id (n:=(l.length:Int)+1) (by omega) (by omega),if_pos hlt,ron_eq w (by omega),hn,Option.bind_some,if_pos (by simp)]
   simp [wayL]
  | some a =>
   have ha:=hp w a hn
   have:=rway_loop hl hp m (i+1) a (out++[a]) (by omega) (by simp;omega)
   rw [wayL]
   rw [show out++a::wayL (nextJ l) m (nextJ l a)=(out++[a])++wayL (nextJ l) m (nextJ l a) by simp,←this]
   refine whileO_inl ?_
   rw [r11_Way_s1,w64_id (n:=(l.length:Int)+1) (by omega) (by omega),if_pos hlt,ron_eq w (by omega),hn,Option.bind_some,Option.getD_some,if_neg (by simp;omega),if_pos (show few _ by unfold few;simp;omega),w64_nat (by omega)];rfl
theorem nextJ_pos {l:List api_Join} (h:∀x∈l,0≤x.On):∀k a,nextJ l k=some a→0≤a:=fun k a ha=>by
 unfold nextJ at ha
 rw [Option.map_eq_some_iff] at ha
 obtain ⟨x,hx,rfl⟩:=ha
 exact h x (List.mem_of_find?_eq_some hx)
theorem nextJ_mem {l:List api_Join} {k a:Int} (h:nextJ l k=some a):∃x∈l,x.Who=k∧x.On=a:=by
 unfold nextJ at h
 rw [Option.map_eq_some_iff] at h
 obtain ⟨x,hx,rfl⟩:=h
 have:=List.find?_some hx
 exact ⟨x,List.mem_of_find?_eq_some hx,by simpa using this,rfl⟩
def badR (l:List api_Join) (i:Nat):Bool:=(decide ((gt l (i:Int)).On < 0)||decide ((gt l (i:Int)).Who < 0))||decide ((nextJ (l.take i) (gt l (i:Int)).Who).getD (-1)≥0)
theorem bad_same (l:List api_Join):(List.range l.length).any (badR l)=(List.range l.length).any (badJ l):=by
 have hs:∀i,i < l.length→(List.range i).any (fun j=>(gt l (j:Int)).Who==(gt l (i:Int)).Who)=(nextJ (l.take i) (gt l (i:Int)).Who).isSome:=fun i hi=>by
  rw [nextJ_seen,take_any (fun x:api_Join=>x.Who==(gt l (i:Int)).Who) (by omega)]
 rw [Bool.eq_iff_iff,List.any_eq_true,List.any_eq_true]
 constructor
 ·rintro ⟨i,hi,hb⟩
  refine ⟨i,hi,?_⟩
  have hi:i < l.length:=by simpa using hi
  unfold badR at hb
  unfold badJ
  rw [Bool.or_eq_true] at hb ⊢
  rcases hb with hb|hb
  ·exact .inl hb
  ·right
   rw [hs i hi]
   cases h:nextJ (l.take i) (gt l (i:Int)).Who with
   | none=>rw [h] at hb;simp at hb
   | some a=>rfl
 ·rintro ⟨i,hi,hb⟩
  have hi:i < l.length:=by simpa using hi
  unfold badJ at hb
  rw [Bool.or_eq_true] at hb
  rcases hb with hb|hb
  ·exact ⟨i,by simpa using hi,by unfold badR;rw [hb,Bool.true_or]⟩
  ·rw [hs i hi] at hb
   cases h:nextJ (l.take i) (gt l (i:Int)).Who with
   | none=>rw [h] at hb;cases hb
   | some a =>
    by_cases ha:a≥0
    ·exact ⟨i,by simpa using hi,by unfold badR;rw [h];simp;omega⟩
    ·obtain ⟨x,hx,h1,h2⟩:=nextJ_mem h
     obtain ⟨j,hj,rfl⟩:=List.mem_iff_getElem.1 hx
     have hj':j < l.length:=by rw [List.length_take] at hj;omega
     refine ⟨j,by simpa using hj',?_⟩
     unfold badR
     rw [List.getElem_take] at h2
     rw [gt_nat hj',h2]
     have:decide (a < 0)=true:=by simp;omega
     rw [this];rfl
theorem rjoins_eq {l:List api_Join}:r11_Check l=some (if ckJ l then 0 else 1):=by
 unfold r11_Check ckJ
 by_cases h:decide ((l.length:Int) > 256)=true
 ·rw [if_pos h,h];rfl
 ·rw [if_neg h]
  rw [Bool.not_eq_true] at h
  have h':=h
  rw [decide_eq_false_iff_not] at h'
  rw [whileO_seek (step:=r11_Check_s2 l) (badR l) (List.range l.length) (fun _=>some 1) (whileO (r11_Check_s3 l) 0) (by simp;omega),seek_any,bad_same,h]
  ·cases hb:(List.range l.length).any (badJ l) with
   | true=>rfl
   | false =>
    have hon:∀x∈l,0≤x.On:=fun x hx=>by
     obtain ⟨i,hi,rfl⟩:=List.mem_iff_getElem.1 hx
     rw [List.any_eq_false] at hb
     have:=hb i (by simpa using hi)
     unfold badJ at this
     rw [gt_nat hi] at this
     simp only [Bool.or_eq_true,decide_eq_true_eq,not_or] at this
     omega
    have hkeys:(l.map (·.Who)).length≤l.length:=by simp
    simp only [Bool.false_eq_true,if_false,Bool.not_false,Bool.true_and]
    rw [loop_bad l.length (fun i=>hit (nextJ l) (gt l (i:Int)).Who l.length (nextJ l (gt l (i:Int)).Who)) (by omega)]
    ·rw [←take_any (xs:=l) (fun x=>hit (nextJ l) x.Who l.length (nextJ l x.Who)) (Nat.le_refl _),List.take_length]
     unfold cyc
     cases l.any (fun x=>hit (nextJ l) x.Who l.length (nextJ l x.Who))<;>rfl
    ·intro i hi
     rw [r11_Check_s3,if_pos (by simpa using hi),if_pos (by omega)]
     have hw:r11_Way l (gt l (i:Int)).Who=some (wayL (nextJ l) (l.length+1) (nextJ l (gt l (i:Int)).Who)):=by
      have:=rway_loop (by omega) (nextJ_pos hon) (l.length+1) 0 (gt l (i:Int)).Who [] (by omega) (by simp)
      simpa [r11_Way] using this
     rw [hw,Option.bind_some,rhas_eq (by have:=wayL_len (nextJ l) (l.length+1) (nextJ l (gt l (i:Int)).Who);omega),Option.bind_some,wayL_hit,hit_more (fun x hx=>nextJ_key hx) hkeys]
    ·rw [r11_Check_s3,if_neg (by simp)]
  ·intro i hi
   rw [List.length_range] at hi
   rw [gt_nat (by simpa using hi),List.getElem_range,r11_Check_s2,if_pos (by simpa using hi),if_pos (by omega)]
   unfold badR
   cases h1:decide ((gt l (i:Int)).On < 0) with
   | true=>rfl
   | false =>
    cases h2:decide ((gt l (i:Int)).Who < 0) with
    | true=>rfl
    | false =>
     simp only [Bool.false_eq_true,if_false,Bool.false_or]
     rw [if_pos (by omega),show sub l 0 (i:Int)=l.take i by simp [sub],ron_eq _ (by rw [List.length_take];omega),Option.bind_some]
  ·rw [List.length_range,r11_Check_s2,if_neg (by simp)]
end Go.Proofs.YtmlcinmdkhmjhaaGreat
