/- Helper lemmas for the claim's theorem: an abstract machine over the model, proved sound; no condition beyond each lemma's own. -/
import Derived.Test.YtkkimimkcchlnaaGreatL24ti
set_option linter.unusedVariables false
set_option linter.unusedSimpArgs false
set_option linter.unnecessarySimpa false
set_option linter.unusedSectionVars false
namespace Go.Proofs.YtkkimimkcchlnaaGreat
open Go Go.AM
set_option maxRecDepth 100000
set_option maxHeartbeats 1000000
set_option linter.unusedVariables false
set_option linter.unusedSimpArgs false
theorem seek_find {α β:Type} (p:α→Bool) (found:Nat→β) (rest:β) (g:α→β):∀(xs:List α) (i:Nat),(∀k (hk:k < xs.length),found (i+k)=g xs[k])→seek p found rest i xs=match xs.find? p with|some x=>g x|none=>rest
 | [],i,_=>rfl
 | x::xs,i,h=>by
  rw [seek,List.find?_cons]
  cases hp:p x with
  | true=>exact h 0 (by simp)
  | false =>
   simp only [Bool.false_eq_true,if_false]
   exact seek_find p found rest g xs (i+1) (fun k hk=>by have:=h (k+1) (by simpa using hk);rw [show i+1+k=i+(k+1) by omega,this];rfl)
theorem ron_eq {l:List api_Join} (k:Int) (hl:l.length≤1000000):r11_on l k=some ((nextJ l k).getD (-1)):=by
 unfold r11_on
 rw [whileO_seek (step:=r11_on_s1 l k) (fun x=>x.Who==k) l (fun i=>some (gt l (i:Int)).On) (some (-1)) (by omega),seek_find _ _ _ (fun x=>some x.On) l 0 (fun i hi=>by rw [Nat.zero_add,gt_nat hi])]
 ·unfold nextJ
  cases l.find? (fun x=>x.Who==k)<;>rfl
 ·intro i hi
  rw [r11_on_s1,if_pos (by simpa using hi),if_pos (by omega)]
 ·rw [r11_on_s1,if_neg (by simp)]
def wayL (f:Int→Option Int):Nat→Option Int→List Int
 | 0,_=>[]
 | _+1,none=>[]
 | n+1,some a=>a::wayL f n (f a)
theorem wayL_hit (f:Int→Option Int) (k:Int):∀(n:Nat) (o:Option Int),(wayL f n o).any (·==k)=hit f k n o
 | 0,_=>rfl
 | n+1,none=>rfl
 | n+1,some a=>by rw [wayL,List.any_cons,hit,wayL_hit f k n]
theorem wayL_len (f:Int→Option Int):∀(n:Nat) (o:Option Int),(wayL f n o).length≤n
 | 0,_=>by simp [wayL]
 | n+1,none=>by simp [wayL]
 | n+1,some a=>by simpa [wayL] using wayL_len f n (f a)
theorem rway_loop {l:List api_Join} (hl:l.length≤256) (hp:∀k a,nextJ l k=some a→0≤a):∀(m i:Nat) (w:Int) (out:List Int),i+m=l.length+1→out.length≤i→whileO (r11_Way_s1 l) (w,out,(i:Int))=some (out++wayL (nextJ l) m (nextJ l w))
 | 0,i,w,out,h,ho=>by
  refine whileO_inr ?_
  rw [r11_Way_s1,w64_id (n:=(l.length:Int)+1) (by omega) (by omega),if_neg (by simp;omega)]
  simp [wayL]
 | m+1,i,w,out,h,ho=>by
  have hlt:decide ((i:Int) < (l.length:Int)+1)=true:=by simp;omega
  cases hn:nextJ l w with
  | none =>
   refine whileO_inr ?_
   rw [r11_Way_s1,w64_id (n:=(l.length:Int)+1) (by omega) (by omega),if_pos hlt,ron_eq w (by omega),hn,Option.bind_some,if_pos (by simp)]
   simp [wayL]
  | some a =>
   have ha:=hp w a hn
   have:=rway_loop hl hp m (i+1) a (out++[a]) (by omega) (by simp;omega)
   rw [wayL]
   rw [show out++a::wayL (nextJ l) m (nextJ l a)=(out++[a])++wayL (nextJ l) m (nextJ l a) by simp,←this]
   refine whileO_inl ?_
   rw [r11_Way_s1,w64_id (n:=(l.length:Int)+1) (by omega) (by omega),if_pos hlt,ron_eq w (by omega),hn,Option.bind_some,Option.getD_some,if_neg (by simp;omega),if_pos (show few _ by unfold few;simp;omega),w64_nat (by omega)];rfl
theorem nextJ_pos {l:List api_Join} (h:∀x∈l,0≤x.On):∀k a,nextJ l k=some a→0≤a:=fun k a ha=>by
 unfold nextJ at ha
 rw [Option.map_eq_some_iff] at ha
 obtain ⟨x,hx,rfl⟩:=ha
 exact h x (List.mem_of_find?_eq_some hx)
theorem nextJ_mem {l:List api_Join} {k a:Int} (h:nextJ l k=some a):∃x∈l,x.Who=k∧x.On=a:=by
 unfold nextJ at h
 rw [Option.map_eq_some_iff] at h
 obtain ⟨x,hx,rfl⟩:=h
 have:=List.find?_some hx
 exact ⟨x,List.mem_of_find?_eq_some hx,by simpa using this,rfl⟩
def badR (l:List api_Join) (i:Nat):Bool:=(decide ((gt l (i:Int)).On < 0)||decide ((gt l (i:Int)).Who < 0))||decide ((nextJ (l.take i) (gt l (i:Int)).Who).getD (-1)≥0)
theorem bad_same (l:List api_Join):(List.range l.length).any (badR l)=(List.range l.length).any (badJ l):=by
 have hs:∀i,i < l.length→(List.range i).any (fun j=>(gt l (j:Int)).Who==(gt l (i:Int)).Who)=(nextJ (l.take i) (gt l (i:Int)).Who).isSome:=fun i hi=>by
  rw [nextJ_seen,take_any (fun x:api_Join=>x.Who==(gt l (i:Int)).Who) (by omega)]
 rw [Bool.eq_iff_iff,List.any_eq_true,List.any_eq_true]
 constructor
 ·rintro ⟨i,hi,hb⟩
  refine ⟨i,hi,?_⟩
  have hi:i < l.length:=by simpa using hi
  unfold badR at hb
  unfold badJ
  rw [Bool.or_eq_true] at hb ⊢
  rcases hb with hb|hb
  ·exact .inl hb
  ·right
   rw [hs i hi]
   cases h:nextJ (l.take i) (gt l (i:Int)).Who with
   | none=>rw [h] at hb;simp at hb
   | some a=>rfl
 ·rintro ⟨i,hi,hb⟩
  have hi:i < l.length:=by simpa using hi
  unfold badJ at hb
  rw [Bool.or_eq_true] at hb
  rcases hb with hb|hb
  ·exact ⟨i,by simpa using hi,by unfold badR;rw [hb,Bool.true_or]⟩
  ·rw [hs i hi] at hb
   cases h:nextJ (l.take i) (gt l (i:Int)).Who with
   | none=>rw [h] at hb;cases hb
   | some a =>
    by_cases ha:a≥0
    ·exact ⟨i,by simpa using hi,by unfold badR;rw [h];simp;omega⟩
    ·obtain ⟨x,hx,h1,h2⟩:=nextJ_mem h
     obtain ⟨j,hj,rfl⟩:=List.mem_iff_getElem.1 hx
     have hj':j < l.length:=by rw [List.length_take] at hj;omega
     refine ⟨j,by simpa using hj',?_⟩
     unfold badR
     rw [List.getElem_take] at h2
     rw [gt_nat hj',h2]
     have:decide (a < 0)=true:=by simp;omega
     rw [this];rfl
theorem rjoins_eq {l:List api_Join}:r11_Check l=some (if ckJ l then 0 else 1):=by
 unfold r11_Check ckJ
 by_cases h:decide ((l.length:Int) > 256)=true
 ·rw [if_pos h,h];rfl
 ·rw [if_neg h]
  rw [Bool.not_eq_true] at h
  have h':=h
  rw [decide_eq_false_iff_not] at h'
  rw [whileO_seek (step:=r11_Check_s2 l) (badR l) (List.range l.length) (fun _=>some 1) (whileO (r11_Check_s3 l) 0) (by simp;omega),seek_any,bad_same,h]
  ·cases hb:(List.range l.length).any (badJ l) with
   | true=>rfl
   | false =>
    have hon:∀x∈l,0≤x.On:=fun x hx=>by
     obtain ⟨i,hi,rfl⟩:=List.mem_iff_getElem.1 hx
     rw [List.any_eq_false] at hb
     have:=hb i (by simpa using hi)
     unfold badJ at this
     rw [gt_nat hi] at this
     simp only [Bool.or_eq_true,decide_eq_true_eq,not_or] at this
     omega
    have hkeys:(l.map (·.Who)).length≤l.length:=by simp
    simp only [Bool.false_eq_true,if_false,Bool.not_false,Bool.true_and]
    rw [loop_bad l.length (fun i=>hit (nextJ l) (gt l (i:Int)).Who l.length (nextJ l (gt l (i:Int)).Who)) (by omega)]
    ·rw [←take_any (xs:=l) (fun x=>hit (nextJ l) x.Who l.length (nextJ l x.Who)) (Nat.le_refl _),List.take_length]
     unfold cyc
     cases l.any (fun x=>hit (nextJ l) x.Who l.length (nextJ l x.Who))<;>rfl
    ·intro i hi
     rw [r11_Check_s3,if_pos (by simpa using hi),if_pos (by omega)]
     have hw:r11_Way l (gt l (i:Int)).Who=some (wayL (nextJ l) (l.length+1) (nextJ l (gt l (i:Int)).Who)):=by
      have:=rway_loop (by omega) (nextJ_pos hon) (l.length+1) 0 (gt l (i:Int)).Who [] (by omega) (by simp)
      simpa [r11_Way] using this
     rw [hw,Option.bind_some,rhas_eq (by have:=wayL_len (nextJ l) (l.length+1) (nextJ l (gt l (i:Int)).Who);omega),Option.bind_some,wayL_hit,hit_more (fun x hx=>nextJ_key hx) hkeys]
    ·rw [r11_Check_s3,if_neg (by simp)]
  ·intro i hi
   rw [List.length_range] at hi
   rw [gt_nat (by simpa using hi),List.getElem_range,r11_Check_s2,if_pos (by simpa using hi),if_pos (by omega)]
   unfold badR
   cases h1:decide ((gt l (i:Int)).On < 0) with
   | true=>rfl
   | false =>
    cases h2:decide ((gt l (i:Int)).Who < 0) with
    | true=>rfl
    | false =>
     simp only [Bool.false_eq_true,if_false,Bool.false_or]
     rw [if_pos (by omega),show sub l 0 (i:Int)=l.take i by simp [sub],ron_eq _ (by rw [List.length_take];omega),Option.bind_some]
  ·rw [List.length_range,r11_Check_s2,if_neg (by simp)]
end Go.Proofs.YtkkimimkcchlnaaGreat
