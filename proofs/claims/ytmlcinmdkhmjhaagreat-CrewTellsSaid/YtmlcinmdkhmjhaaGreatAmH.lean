/- Helper lemmas for the claim's theorem: an abstract machine over the model, proved sound; no condition beyond each lemma's own. -/
import Derived.Test.YtmlcinmdkhmjhaaGreatAmG
import Derived.Maps.RangeRun
set_option linter.unusedVariables false
set_option linter.unusedSimpArgs false
set_option linter.unnecessarySimpa false
set_option linter.unusedSectionVars false
namespace Go.AM
open Go Go.RowKit
variable {r:Bool} {P:Program} {E:Env} {gl:List (Nat×List V)}
open Classical in
noncomputable def anyO {κ β:Type} (f:κ→β→Option Bool) (m:List (κ×β)):Option Bool :=
 if ∀p∈m,f p.1 p.2≠none then some (m.any fun p=>(f p.1 p.2).getD false) else none
theorem anyO_some {κ β:Type} {f:κ→β→Option Bool} {m:List (κ×β)} {b:Bool} (h:anyO f m=some b):(∀p∈m,f p.1 p.2≠none)∧b=m.any fun p=>(f p.1 p.2).getD false:=by
 unfold anyO at h
 split at h
 ·rename_i hc
  injection h with h
  exact ⟨hc,h.symm⟩
 ·cases h
theorem anyO_get {κ β:Type} {f:κ→β→Option Bool} {m:List (κ×β)} {b:Bool} (h:anyO f m=some b) {i:Nat} (hi:i < m.length) {k:κ} {v:β} (hkv:m[i]=(k,v)):∃c,f k v=some c∧(c=true→b=true):=by
 obtain ⟨h1,h2⟩:=anyO_some h
 have hm:(k,v)∈m:=hkv▸List.getElem_mem hi
 obtain ⟨c,hc⟩:=Option.ne_none_iff_exists'.1 (h1 _ hm)
 refine ⟨c,hc,fun e=>?_⟩
 rw [h2,List.any_eq_true]
 exact ⟨(k,v),hm,by simp only at hc;rw [hc,e];rfl⟩
theorem anyO_none {κ β:Type} {f:κ→β→Option Bool} {m:List (κ×β)} {b:Bool} (h:anyO f m=some b) (ha:∀i (hi:i < m.length),f m[i].1 m[i].2=some false):b=false:=by
 obtain ⟨h1,h2⟩:=anyO_some h
 rw [h2,←Bool.not_eq_true,List.any_eq_true]
 rintro ⟨p,hp,hf⟩
 obtain ⟨i,hi,rfl⟩:=List.mem_iff_getElem.1 hp
 rw [ha i hi] at hf
 cases hf
theorem ifT_out {K:Type} {b:Bool} {A B ρ:K} (h:(if b=true then A else B)=ρ) (hb:b=true):A=ρ:=by rw [if_pos hb] at h;exact h
theorem ifF_out {K:Type} {b:Bool} {A B ρ:K} (h:(if b=true then A else B)=ρ) (hb:b=false):B=ρ:=by rw [if_neg (by rw [hb];simp)] at h;exact h
def bornAt (ms:Array MapEntry) (i:Nat):Nat:=(ms[i]?.map (·.born)).getD 0
theorem bornAt_lt {ms:Array MapEntry} {i:Nat} (h:i < ms.size):bornAt ms i=ms[i].born:=by unfold bornAt;rw [Array.getElem?_eq_getElem h];rfl
theorem bornAt_inj {ms:Array MapEntry} {clock:Nat} (h:Stamps ms clock) {i j:Nat} (hi:i < ms.size) (hj:j < ms.size) (e:bornAt ms i=bornAt ms j):i=j:=by
 rw [bornAt_lt hi,bornAt_lt hj] at e
 have hp:=List.pairwise_iff_getElem.1 h.2
 have hi':i < ms.toList.length:=by simpa using hi
 have hj':j < ms.toList.length:=by simpa using hj
 have e1:ms.toList[i].born=ms.toList[j].born:=by rw [Array.getElem_toList,Array.getElem_toList];exact e
 by_cases h1:i < j
 ·exact absurd e1 (hp i j hi' hj' h1)
 ·by_cases h2:j < i
  ·exact absurd e1.symm (hp j i hj' hi' h2)
  ·omega
theorem Safe.loopM {c:Code} {Q:Exit→St→Prop} {σ:St} {κ β:Type} {m:List (κ×β)} {f:κ→β→Option Bool} {ms:Array MapEntry} {clock:Nat} {b:Bool} (_hb:anyO f m=some b) (hl:ms.size=m.length) (hst:Stamps ms clock) (τ:Array Nat→St) (hc:Gets gl σ (τ #[]))
 (round:∀seen:Array Nat,(∀i (hi:i < m.length),seen.contains (bornAt ms i)=true→f m[i].1 m[i].2=some false) →
  Safe r P gl c (thenQ (fun σ'=>∃i,∃hi:i < m.length,∃k v,m[i]=(k,v)∧seen.contains (bornAt ms i)=false∧f k v=some false∧Gets gl σ' (τ (seen.push (bornAt ms i)))) Q) (τ seen)):Safe r P gl (.loop c) Q σ:=by
 refine Safe.loop (fun(seen:Array Nat) σ=>(∀i (hi:i < m.length),seen.contains (bornAt ms i)=true→f m[i].1 m[i].2=some false)∧Gets gl σ (τ seen))
  (fun seen=>((List.range m.length).filter fun i=>!seen.contains (bornAt ms i)).length) #[] ⟨fun i hi h=>by simp at h,hc⟩ ?_
 rintro seen σ ⟨hF,hg⟩
 refine Safe.gets hg ?_
 intro w0 pr0 ow a ao w B pr hsim
 refine (round seen hF w0 pr0 ow a ao w B pr hsim).mono fun e a' w' ⟨σ',B',pr',hq,hs'⟩=>⟨σ',B',pr',?_,hs'⟩
 cases e with
 | normal =>
  obtain ⟨i,hi,k,v,hkv,hns,hf,hG⟩:=hq
  refine ⟨seen.push (bornAt ms i),⟨fun j hj hs=>?_,hG⟩,?_⟩
  ·by_cases e:j=i
   ·subst e;rw [hkv];exact hf
   ·refine hF j hj ?_
    simp only [Array.contains_eq_mem,Array.mem_push,decide_eq_true_eq] at hs ⊢
    rcases hs with h|h
    ·exact h
    ·exact absurd (bornAt_inj hst (by omega) (by omega) h) e
  ·have he:((List.range m.length).filter fun j=>!(seen.push (bornAt ms i)).contains (bornAt ms j))=((List.range m.length).filter fun j=>!seen.contains (bornAt ms j)).filter fun j=>!(bornAt ms j==bornAt ms i):=by
    rw [List.filter_filter]
    congr 1
    funext j
    simp only [Array.contains_eq_mem,Array.mem_push]
    by_cases h1:bornAt ms j=bornAt ms i
    ·simp [h1]
    ·simp [h1]
   rw [he,List.length_filter_lt_length_iff_exists]
   exact ⟨i,List.mem_filter.2 ⟨List.mem_range.2 hi,by simpa using hns⟩,by simp⟩
 | _=>exact hq
theorem One.same (w:World) (b:Nat):One w w b:=⟨rfl,rfl,rfl,Nat.le_refl _,rfl,fun _ _=>rfl⟩
theorem SafeOps.rangeM (hE:E.good P=true) {l rest:List Oper} {op:Oper} {Q:Exit→St→Prop} {n d t:Nat} {x:Operand} {k e sz bt:Nat} {z:List V} {tm:List (Nat×V)} {ob:List (Id×Obj)} {out:List (Nat×List (Nat×V))} {pa o:Id} {es:List (V×V)}
 (hg:gd l tm op=some true) (hop:op.op=.range t x) (hd:op.dst=some d) (hn:Nat.blt d n=true) (ht:ety E t=some ⟨.map k e,sz,bt,z⟩) (hx:ev tm x=.mapr o) (ho:oget ob o=some (.map es)) (hf:oget ob (pa++[d])=none)
 (h:∀ms clock,ms.size=es.length→Stamps ms clock→SafeOps r P gl l rest Q ⟨n,(d,.itr (pa++[d]))::tm,(pa++[d],.iter (some o) es ms clock clock #[])::(o,.gmap es ms clock)::ob,out,pa⟩):SafeOps r P gl l (op::rest) Q ⟨n,tm,ob,out,pa⟩ :=
 SafeOps.done hg fun w0 pr0 ow a ao w B pr hsim K hK=>by
  have hxc:=ev_rc hsim.tms x
  rw [hx] at hxc
  obtain ⟨bd,ms,clock,hB,hnp,hlt,e1,e2,e3,est⟩:=hsim.mapAt ho hxc
  have hlen:ms.size=es.length:=by
   have:=(e3.unzip).1.length
   simpa using this.symm
  have hne:(pa++[d])≠o:=fun e=>by rw [e] at hf;rw [hf] at ho;cases ho
  have h1:=hsim.upd ho (x':=.gmap es ms clock) (by simp) (by simp) hB hnp (.same w bd.b) ⟨hnp,hlt,e2,e3,est⟩
  have hfr:∀o' y,oget [(pa++[d],Go.AM.Obj.iter (some o) es ms clock clock #[])] o'=some y→oget ((o,Go.AM.Obj.gmap es ms clock)::ob) o'=none:=fun o' y hy=>by
   simp only [oget] at hy
   split at hy
   ·rename_i e
    have e:=idEq_iff.1 e
    subst e
    simp only [oget]
    split
    ·rename_i e2
     exact absurd (idEq_iff.1 e2).symm hne
    ·exact hf
   ·cases hy
  have hBo:AM.upd B (pa++[d]) ⟨w.heap.size,0,0,0⟩ o=some bd:=by
   unfold AM.upd
   split
   ·rename_i e
    exact absurd e.symm hne
   ·exact hB
  have hal:=alloc_new w (.mapIter (some bd.b) clock #[] clock)
  have hE2:=Ext.new (w:=w) h1.pra (.mapIter (some bd.b) clock #[] clock) (id:=pa++[d]) (B:=B) (s:=0) (lim:=0) (x:=.iter (some o) es ms clock clock #[]) (by simp) ⟨rfl,fun hp=>by have:=h1.pra _ hp;simp only at this;omega,by rw [alloc_size];exact Nat.lt_succ_self _,.inl ⟨bd.b,hal,bd,hBo,rfl⟩⟩
  have h2:=h1.grow hE2 hfr
  unfold Oper.wp execOp
  rw [hop]
  have hrun:=run_range_map (P:=P) w t k e bd.b ms clock (ty_map (Env.ok hE ht)) e2
  simp only [e1,hrun,Sem.run_bind,Result.andThen_ok,Sem.run_pure,Oper.upon]
  rw [hd]
  refine hK _ _ (h ms clock hlen est w0 pr0 ow (a.put (some d) _) ao _ _ _ { h2 with tms:=h2.tms.put (show d < n by simpa using hn) (v:=.itr (pa++[d])) ?_ })
  refine .itr (bd:=⟨w.heap.size,0,0,0⟩) ?_ rfl
  unfold AM.upd
  simp [idEq_iff]
theorem Sim.iterAt {w0:World} {pr0 ow:Nat→Prop} {σ:St} {a:Act} {ao:List (Array Value)} {w:World} {B:BM} {pr:Nat→Prop} (h:Sim gl w0 pr0 ow σ a ao w B pr) {id o:Id} {es:List (V×V)} {ms:Array MapEntry} {clock since c0:Nat} {seen:Array Nat}
 (hi:oget σ.ob id=some (.iter (some o) es ms clock since seen)) (ho:oget σ.ob o=some (.gmap es ms clock)) {c:Value} (hc:RC w B pr (.itr id) c) :
 ∃bd bo,B id=some bd∧B o=some bo∧¬pr bd.b∧bd.base=0∧bd.b < w.heap.size∧c=.pointer (some ⟨bd.b,0,none⟩)∧w.heap[bd.b]?=some (.mapIter (some bo.b) since seen clock)∧w.heap[bo.b]?=some (.map ms clock)∧RCm w pr es ms.toList∧Stamps ms clock:=by
 cases hc with
 | base h=>cases h
 | itr hB h0 =>
  rcases h.obs _ _ ho with ⟨g1,_⟩|⟨_,⟨bo,hBo,⟨q1,q2,q3,q4,q5⟩,_⟩|⟨_,_,_,e⟩⟩
  ·cases g1
  ·rcases h.obs _ _ hi with ⟨g1,_⟩|⟨_,⟨bd,hBi,⟨p1,p2,p3,p4⟩,_⟩|⟨_,_,_,e⟩⟩
   ·cases g1
   ·rw [hB] at hBi;injection hBi with hBi;subst hBi
    rcases p4 with ⟨bm,p4,bd',p5,p6⟩|⟨e,_⟩
    ·rw [hBo] at p5;injection p5 with p5;subst p5;subst p6
     exact ⟨_,_,hB,hBo,p2,p1,p3,rfl,p4,q3,q4,q5⟩
    ·cases e
   ·cases e
  ·cases e
theorem leftOf_mem {ms:Array MapEntry} {seen:Array Nat} {e:MapEntry} (h:e∈(Go.leftOf ms seen).toList):∃i,∃hi:i < ms.size,ms[i]=e∧seen.contains (bornAt ms i)=false:=by
 unfold Go.leftOf at h
 rw [Array.mem_toList_iff,Array.mem_filter] at h
 obtain ⟨i,hi,rfl⟩:=Array.mem_iff_getElem.1 h.1
 exact ⟨i,hi,rfl,by rw [bornAt_lt hi];simpa using h.2⟩
theorem leftOf_none {ms:Array MapEntry} {seen:Array Nat} (h:(Go.leftOf ms seen).size=0):∀i,i < ms.size→seen.contains (bornAt ms i)=true:=fun i hi=>by
 unfold Go.leftOf at h
 have:=Array.eq_empty_of_size_eq_zero h
 rw [Array.filter_eq_empty_iff] at this
 have:=this ms[i] (Array.getElem_mem hi)
 rw [bornAt_lt hi];simpa using this
theorem RCm.get {w:World} {pr:Nat→Prop}:∀{es:List (V×V)} {ms:List MapEntry},RCm w pr es ms→∀{i:Nat} {e:MapEntry},ms[i]?=some e→∃p,es[i]?=some p∧RC0 w pr p.1 e.key∧RC0 w pr p.2 e.val
 | [],[],_,i,e,h=>by simp at h
 | [],_::_,h,_,_,_=>h.elim
 | (_,_)::_,[],h,_,_,_=>h.elim
 | (k,v)::r,x::s,h,0,e,he=>by
  simp at he;subst he
  exact ⟨(k,v),rfl,h.1,h.2.1⟩
 | (k,v)::r,x::s,h,i+1,e,he=>by
  obtain ⟨p,h1,h2⟩:=RCm.get h.2.2 (i:=i) (e:=e) (by simpa using he)
  exact ⟨p,by simpa using h1,h2⟩
theorem SafeOps.nextM {κ β:Type} (fk:κ→V) (fv:β→V) {m:List (κ×β)} {l rest:List Oper} {op:Oper} {Q:Exit→St→Prop} {n d:Nat} {x:Operand} {tm:List (Nat×V)} {ob:List (Id×Obj)} {out:List (Nat×List (Nat×V))} {pa id o:Id} {ms:Array MapEntry} {clock:Nat} {seen:Array Nat}
 (hg:gd l tm op=some true) (hop:op.op=.next x false) (hd:op.dst=some d) (hn:Nat.blt d n=true) (hx:ev tm x=.itr id) (hi:oget ob id=some (.iter (some o) (mps fk fv m) ms clock clock seen)) (ho:oget ob o=some (.gmap (mps fk fv m) ms clock))
 (hA:∀i (hi:i < m.length) k v,m[i]=(k,v)→seen.contains (bornAt ms i)=false→SafeOps r P gl l rest Q ⟨n,(d,.tup [.bool true,fk k,fv v])::tm,(id,.iter (some o) (mps fk fv m) ms clock clock (seen.push (bornAt ms i)))::ob,out,pa⟩)
 (hB:(∀i,i < m.length→seen.contains (bornAt ms i)=true)→SafeOps r P gl l rest Q ⟨n,(d,.tup [.bool false])::tm,ob,out,pa⟩):SafeOps r P gl l (op::rest) Q ⟨n,tm,ob,out,pa⟩ :=
 SafeOps.done hg fun w0 pr0 ow a ao w B pr hsim K hK=>by
  have hxc:=ev_rc hsim.tms x
  rw [hx] at hxc
  obtain ⟨bd,bo,q1,q2,q3,q4,q5,q6,q7,q8,q9,q10⟩:=hsim.iterAt (c0:=0) hi ho hxc
  have hlen:ms.size=m.length:=by
   have:=(q9.unzip).1.length
   simpa [mps] using this.symm
  unfold Oper.wp execOp
  rw [hop]
  rcases run_next_at (P:=P) w op.type bd.b bo.b clock clock seen ms clock q7 q8 (fun x hx=>q10.1 x hx) (Nat.le_refl _) with ⟨h0,hrun⟩|⟨e,he,w1,hw1,hrun⟩
  ·simp only [q6,hrun,Sem.run_bind,Result.andThen_ok,Sem.run_pure,Oper.upon]
   rw [hd]
   refine hK _ _ (hB (fun i hi=>leftOf_none h0 i (by omega)) w0 pr0 ow (a.put (some d) _) ao _ _ _ { hsim with tms:=hsim.tms.put (show d < n by simpa using hn) (v:=.tup [.bool false]) (.tup (.cons (.base (.bool _)) .nil)) })
  ·obtain ⟨i,him,rfl,hns⟩:=leftOf_mem he
   have him2:i < m.length:=by omega
   have hsim1:Sim gl w0 pr0 ow ⟨n,tm,ob,out,pa⟩ a ao w1 B pr:=by
    rcases hw1 with rfl|rfl
    ·exact hsim
    ·exact hsim.drew (w.drawn+1) (Nat.le_succ _)
   have hh1:w1.heap=w.heap:=by rcases hw1 with rfl|rfl<;>rfl
   obtain ⟨hone,hget⟩:=One.put (w:=w1) (b:=bd.b) (o':=.mapIter (some bo.b) clock (seen.push ms[i].born) clock) (by rw [hh1];exact q7)
   have hsim2:=hsim1.upd (x':=.iter (some o) (mps fk fv m) ms clock clock (seen.push (bornAt ms i))) hi (by simp) (by simp) q1 q3 hone ⟨q4,q3,by rw [hone.size,hh1];exact q5,.inl ⟨bo.b,by rw [bornAt_lt him];exact hget,bo,q2,rfl⟩⟩
   obtain ⟨p,p1,p2,p3⟩:=RCm.get q9 (i:=i) (e:=ms[i]) (by simp [him])
   obtain ⟨⟨k,v⟩,hkv⟩:∃kv,m[i]=kv:=⟨_,rfl⟩
   have hp:p=(fk k,fv v):=by
    have:(mps fk fv m)[i]?=some (fk k,fv v):=by simp [mps,him2,hkv]
    rw [this] at p1
    exact (Option.some.inj p1).symm
   subst hp
   have hlk:Like pr w ({ w1 with heap:=w1.heap.setIfInBounds bd.b (.mapIter (some bo.b) clock (seen.push ms[i].born) clock) }:World):=fun b hb=>(hone.block b (fun e=>q3 (e▸hb))).trans (by rw [hh1])
   simp only [q6,hrun,Sem.run_bind,Result.andThen_ok,Sem.run_pure,Oper.upon]
   rw [hd]
   refine hK _ _ (hA i him2 k v hkv hns w0 pr0 ow (a.put (some d) _) ao _ _ _ { hsim2 with tms:=hsim2.tms.put (show d < n by simpa using hn) (v:=.tup [.bool true,fk k,fv v]) (.tup (.cons (.base (.bool _)) (.cons (.base (p2.move hlk (fun _ h=>h))) (.cons (.base (p3.move hlk (fun _ h=>h))) .nil)))) })
theorem SafeOps.entryM {κ β:Type} (fk:κ→V) (fv:β→V) {m:List (κ×β)} {l rest:List Oper} {op:Oper} {Q:Exit→St→Prop} {n d:Nat} {x:Operand} {tm:List (Nat×V)} {ob:List (Id×Obj)} {out:List (Nat×List (Nat×V))} {pa id o:Id} {ms:Array MapEntry} {clock i:Nat} {seen:Array Nat} {k:κ} {v:β}
 (hg:gd l tm op=some true) (hop:op.op=.entry x) (hd:op.dst=some d) (hn:Nat.blt d n=true) (hx:ev tm x=.itr id) (hi:oget ob id=some (.iter (some o) (mps fk fv m) ms clock clock (seen.push (bornAt ms i)))) (ho:oget ob o=some (.gmap (mps fk fv m) ms clock)) (him:i < m.length) (hkv:m[i]=(k,v))
 (h:SafeOps r P gl l rest Q ⟨n,(d,.tup [fk k,fv v])::tm,ob,out,pa⟩):SafeOps r P gl l (op::rest) Q ⟨n,tm,ob,out,pa⟩ :=
 SafeOps.done hg fun w0 pr0 ow a ao w B pr hsim K hK=>by
  have hxc:=ev_rc hsim.tms x
  rw [hx] at hxc
  obtain ⟨bd,bo,q1,q2,q3,q4,q5,q6,q7,q8,q9,q10⟩:=hsim.iterAt (c0:=0) hi ho hxc
  have hlen:ms.size=m.length:=by
   have:=(q9.unzip).1.length
   simpa [mps] using this.symm
  have him':i < ms.size:=by omega
  rw [bornAt_lt him'] at q7
  have hrun:=run_entry_at (P:=P) w bd.b bo.b clock seen ms clock ms[i] q7 q8 (by simp) (by
   have:=q10.2
   exact List.pairwise_map.2 this)
  obtain ⟨p,p1,p2,p3⟩:=RCm.get q9 (i:=i) (e:=ms[i]) (by simp [him'])
  have hp:p=(fk k,fv v):=by
   have:(mps fk fv m)[i]?=some (fk k,fv v):=by simp [mps,him,hkv]
   rw [this] at p1
   exact (Option.some.inj p1).symm
  subst hp
  unfold Oper.wp execOp
  rw [hop]
  simp only [q6,hrun,Sem.run_bind,Result.andThen_ok,Sem.run_pure,Oper.upon]
  rw [hd]
  exact hK _ _ (h w0 pr0 ow (a.put (some d) _) ao _ _ _ { hsim with tms:=hsim.tms.put (show d < n by simpa using hn) (v:=.tup [fk k,fv v]) (.tup (.cons (.base p2) (.cons (.base p3) .nil))) })
theorem Safe.ungm {c:Code} {Q:Exit→St→Prop} {n:Nat} {tm:List (Nat×V)} {ob:List (Id×Obj)} {out:List (Nat×List (Nat×V))} {pa o:Id} {es:List (V×V)} {ms:Array MapEntry} {clock:Nat} (o':Id) (ho':o=o') (ho:oget ob o=some (.gmap es ms clock))
 (h:Safe r P gl c Q ⟨n,tm,(o,.map es)::ob,out,pa⟩):Safe r P gl c Q ⟨n,tm,ob,out,pa⟩:=fun w0 pr0 ow a ao w B pr hsim=>by
 rcases hsim.obs _ _ ho with ⟨g1,_⟩|⟨_,⟨bo,hBo,⟨q1,q2,q3,q4,q5⟩,_⟩|⟨_,_,_,e⟩⟩
 ·cases g1
 ·exact h _ _ _ _ _ _ _ _ (hsim.upd ho (x':=.map es) (by simp) (by simp) hBo q1 (.same w bo.b) ⟨q1,q2,ms,clock,q3,q4,q5⟩)
 ·cases e
end Go.AM
