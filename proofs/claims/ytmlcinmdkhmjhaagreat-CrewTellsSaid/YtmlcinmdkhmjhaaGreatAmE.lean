/- Helper lemmas for the claim's theorem: an abstract machine over the model, proved sound; no condition beyond each lemma's own. -/
import Derived.Test.YtmlcinmdkhmjhaaGreatAmD
import Derived.DataReads
set_option linter.unusedVariables false
set_option linter.unusedSimpArgs false
set_option linter.unnecessarySimpa false
set_option linter.unusedSectionVars false
namespace Go.AM
open Go Go.RowKit
variable {r:Bool} {P:Program} {E:Env} {gl:List (Nat×List V)}
theorem ev_eqv {tm tm':List (Nat×V)} (h:∀t,tget tm' t=tget tm t) (x:Operand):ev tm' x=ev tm x:=by
 cases x with
 | tmp t=>exact h t
 | _=>rfl
theorem gd_mv {l:List Oper} {tm tm':List (Nat×V)} {o:Oper} (h:∀g w d,o.guard=some (g,w)→dstAt l g=some d→tget tm' d=tget tm d):gd l tm' o=gd l tm o:=by
 unfold gd
 split
 ·rfl
 ·rename_i g w hg
  split
  ·rename_i d hd
   rw [h g w d hg hd]
  ·rfl
theorem fresh_eqv {ob ob':List (Id×Obj)} (h:∀o,oget ob o=oget ob' o):∀nw,fresh ob nw=fresh ob' nw
 | []=>rfl
 | (k,x)::r=>by
  simp only [fresh]
  rw [h k,fresh_eqv h r]
def ObLeZ (Z:List Id) (ob ob':List (Id×Obj)):Prop:=∀o x,Z.any (idEq o)=false→oget ob o=some x→oget ob' o=some x
theorem ObLeZ.refl (Z:List Id) (ob:List (Id×Obj)):ObLeZ Z ob ob:=fun _ _ _ h=>h
theorem ObLe.z {ob ob':List (Id×Obj)} (h:ObLe ob ob') (Z:List Id):ObLeZ Z ob ob':=fun o x _ hx=>h o x hx
theorem ObLeZ.trans {Z:List Id} {a b c:List (Id×Obj)} (h:ObLeZ Z a b) (k:ObLeZ Z b c):ObLeZ Z a c:=fun o x hz hx=>k o x hz (h o x hz hx)
theorem ObLeZ.put {Z:List Id} {ob:List (Id×Obj)} {o:Id} {z:Obj} (hz:Z.any (idEq o)=true):ObLeZ Z ob ((o,z)::ob):=fun o' x h hx=>by
 simp only [oget]
 cases he:idEq o o' with
 | true=>rw [idEq_iff.1 he] at hz;rw [hz] at h;cases h
 | false=>exact hx
inductive DOp (r:Bool) (P:Program) (E:Env) (gl:List (Nat×List V)) (Z:List Id) (l:List Oper) (sp:Bool) (o:Oper) (K:St→Prop):St→Prop
 | other {σ:St} (hs:sp=true) (h:SafeOps r P gl l [o] (fun e τ=>e=.normal∧K τ) σ):DOp r P E gl Z l sp o K σ
 | store {n t:Nat} {x y:Operand} {d:Ty} {tm:List (Nat×V)} {ob:List (Id×Obj)} {out:List (Nat×List (Nat×V))} {pa:Id} {us:List V} {q:Id} {z:Obj}
  (hg:gd l tm o=some true) (hop:o.op=.store t x y) (hd:o.dst=none) (ht:ety E t=some d) (hu:(ev tm y).cells?=some us) (hs:Nat.beq us.length d.size=true) (h1:V.ones us=true) (hst:StoreAt ob (ev tm x) us q z) (hz:Z.any (idEq q)=true)
  (h:K ⟨n,tm,(q,z)::ob,out,pa⟩):DOp r P E gl Z l sp o K ⟨n,tm,ob,out,pa⟩
 | append {n t tx e sz bt sz' bt' e' d m:Nat} {x y:Operand} {z z':List V} {de:Ty} {tm:List (Nat×V)} {ob kl:List (Id×Obj)} {out:List (Nat×List (Nat×V))} {pa:Id} {olds rows rs:List (List V)}
  (hg:gd l tm o=some true) (hop:o.op=.call ⟨.builtin .append,#[x,y],#[t,tx]⟩) (hd:o.dst=some d) (hn:Nat.blt d n=true)
  (ht:ety E t=some ⟨.sli e,sz,bt,z⟩) (htx:ety E tx=some ⟨.sli e',sz',bt',z'⟩) (he:ety E e=some de) (hf:oget ob (pa++[d])=none)
  (hx:AppD ob (ev tm x) de.size olds kl) (hy:RowsOf ob (ev tm y) de.size rows) (h1:∀r∈rows,V.ones r=true) (hrs:olds++rows=rs) (hm:rs.length=m) (h48:m*de.bytes≤140737488355328) (h63:m≤9223372036854775807) (hz:∀p∈kl,Z.any (idEq p.1)=true)
  (h:K ⟨n,(d,.ref (pa++[d]) 0 m)::tm,(pa++[d],.rows de.size rs false)::(kl++ob),out,pa⟩):DOp r P E gl Z l sp o K ⟨n,tm,ob,out,pa⟩
 | skip {n d:Nat} {tm:List (Nat×V)} {ob:List (Id×Obj)} {out:List (Nat×List (Nat×V))} {pa:Id} (hg:gd l tm o=some false) (hd:o.dst=some d) (hn:Nat.blt d n=true)
  (h:K ⟨n,(d,.tup [])::tm,ob,out,pa⟩):DOp r P E gl Z l sp o K ⟨n,tm,ob,out,pa⟩
 | quiet {n d:Nat} {tm:List (Nat×V)} {ob nw:List (Id×Obj)} {out:List (Nat×List (Nat×V))} {pa:Id} {v:V} (hg:gd l tm o=some true) (hd:o.dst=some d) (hn:Nat.blt d n=true)
  (hq:QEv P E gl tm ob (pa++[d]) o.op v nw) (hf:fresh ob nw=true) (h:K ⟨n,(d,v)::tm,nw++ob,out,pa⟩):DOp r P E gl Z l sp o K ⟨n,tm,ob,out,pa⟩
theorem tget_cons {tm tm':List (Nat×V)} {d:Nat} {v:V} (h:∀t,tget tm t=tget tm' t) (t:Nat):tget ((d,v)::tm) t=tget ((d,v)::tm') t:=by
 simp only [tget]
 split
 ·rfl
 ·exact h t
theorem oget_app {ob ob':List (Id×Obj)} (h:∀o,oget ob o=oget ob' o):∀(nw:List (Id×Obj)) (o:Id),oget (nw++ob) o=oget (nw++ob') o
 | [],o=>h o
 | (k,x)::r,o=>by
  simp only [List.cons_append,oget]
  split
  ·rfl
  ·exact oget_app h r o
theorem SafeOps.mono {l rest:List Oper} {Q Q':Exit→St→Prop} {σ:St} (hn:∀τ,Q .normal τ→Q' .normal τ) (hq:∀e τ,e≠.normal→¬Q e τ) (h:SafeOps r P gl l rest Q σ):SafeOps r P gl l rest Q' σ :=
 fun w0 pr0 ow a ao w B pr hs=>(h w0 pr0 ow a ao w B pr hs).mono fun e a w ⟨τ,B,pr,h1,h2⟩=>⟨τ,B,pr,(by
  cases e with
  | normal=>exact hn τ h1
  | _=>exact absurd h1 (hq _ _ (by simp))),h2⟩
theorem DOp.mono {Z:List Id} {l:List Oper} {sp:Bool} {o:Oper} {K K':St→Prop} {σ:St} (h:DOp r P E gl Z l sp o K σ) (hk:∀σ,K σ→K' σ):DOp r P E gl Z l sp o K' σ:=by
 cases h with
 | other hs h=>exact .other hs (SafeOps.mono (fun τ h=>⟨rfl,hk τ h.2⟩) (fun e τ he h=>he h.1) h)
 | store hg hop hd ht hu hs h1 hst hz h=>exact .store hg hop hd ht hu hs h1 hst hz (hk _ h)
 | append hg hop hd hn ht htx he hf hx hy h1 hrs hm h48 h63 hz h=>exact .append hg hop hd hn ht htx he hf hx hy h1 hrs hm h48 h63 hz (hk _ h)
 | skip hg hd hn h=>exact .skip hg hd hn (hk _ h)
 | quiet hg hd hn hq hf h=>exact .quiet hg hd hn hq hf (hk _ h)
inductive DOp0 (P:Program) (E:Env) (gl:List (Nat×List V)) (l:List Oper) (o:Oper) (K:St→Prop):St→Prop
 | skip {n d:Nat} {tm:List (Nat×V)} {ob:List (Id×Obj)} {out:List (Nat×List (Nat×V))} {pa:Id} (hg:gd l tm o=some false) (hd:o.dst=some d) (hn:Nat.blt d n=true)
  (h:K ⟨n,(d,.tup [])::tm,ob,out,pa⟩):DOp0 P E gl l o K ⟨n,tm,ob,out,pa⟩
 | quiet {n d:Nat} {tm:List (Nat×V)} {ob nw:List (Id×Obj)} {out:List (Nat×List (Nat×V))} {pa:Id} {v:V} (hg:gd l tm o=some true) (hd:o.dst=some d) (hn:Nat.blt d n=true)
  (hq:QEv P E gl tm ob (pa++[d]) o.op v nw) (hf:fresh ob nw=true) (h:K ⟨n,(d,v)::tm,nw++ob,out,pa⟩):DOp0 P E gl l o K ⟨n,tm,ob,out,pa⟩
theorem StoreAt.eqv {ob ob':List (Id×Obj)} (h:∀o,oget ob o=oget ob' o) {p:V} {us:List V} {o:Id} {x:Obj} (hs:StoreAt ob p us o x):StoreAt ob' p us o x:=by
 cases hs with
 | box ho hl=>exact .box ((h _).symm.trans ho) hl
 | rows ho hr hl hf=>exact .rows ((h _).symm.trans ho) hr hl hf
theorem oget_cons_eqv {ob ob':List (Id×Obj)} (h:∀o,oget ob o=oget ob' o) (q:Id) (z:Obj) (o:Id):oget ((q,z)::ob) o=oget ((q,z)::ob') o:=by
 simp only [oget]
 split
 ·rfl
 ·exact h o
theorem AppD.eqv {ob ob':List (Id×Obj)} (h:∀o,oget ob o=oget ob' o) {v:V} {s:Nat} {olds:List (List V)} {kl:List (Id×Obj)} (hx:AppD ob v s olds kl):AppD ob' v s olds kl:=by
 cases hx with
 | nils=>exact .nils _
 | emp=>exact .emp _
 | full ho hl=>exact .full ((h _).symm.trans ho) hl
 | part ho hl=>exact .part ((h _).symm.trans ho) hl
theorem RowsOf.eqv {ob ob':List (Id×Obj)} (h:∀o,oget ob o=oget ob' o) {v:V} {s:Nat} {rows:List (List V)} (hx:RowsOf ob v s rows):RowsOf ob' v s rows:=by
 cases hx with
 | sl=>exact .sl _ _
 | nils=>exact .nils _
 | emp=>exact .emp _
 | full ho hl=>exact .full ((h _).symm.trans ho) hl
 | part ho hl=>exact .part ((h _).symm.trans ho) hl
theorem DOp.eqv' {Z:List Id} {l:List Oper} {sp:Bool} {o:Oper} {K:St→Prop} {σ τ:St} (he:Eqv σ τ) (h:DOp0 P E gl l o K σ):DOp r P E gl Z l sp o (fun υ=>∃ρ,K ρ∧Eqv ρ υ) τ:=by
 obtain ⟨n',tm',ob',out',pa'⟩:=τ
 obtain ⟨h1,h2,h3,h4,h5⟩:=he
 cases h with
 | skip hg hd hn h =>
  simp only at h1 h2 h3 h4 h5
  subst h1;subst h4;subst h5
  exact .skip (by rw [←hg];exact gd_mv fun _ _ d _ _=>(h2 d).symm) hd hn ⟨_,h,⟨rfl,tget_cons h2,h3,rfl,rfl⟩⟩
 | quiet hg hd hn hq hf h =>
  simp only at h1 h2 h3 h4 h5
  subst h1;subst h4;subst h5
  exact .quiet (by rw [←hg];exact gd_mv fun _ _ d _ _=>(h2 d).symm) hd hn (hq.mv (fun x _=>ev_eqv (fun t=>(h2 t).symm) x) (fun o x ho=>(h3 o).symm.trans ho)) (by rw [←fresh_eqv h3];exact hf)
   ⟨_,h,⟨rfl,tget_cons h2,oget_app h3 _,rfl,rfl⟩⟩
theorem DOp.eqv {Z:List Id} {l:List Oper} {sp:Bool} {o:Oper} {K:St→Prop} {σ τ:St} (he:Eqv σ τ) (h:DOp r P E gl Z l sp o K σ):DOp r P E gl Z l sp o (fun υ=>∃ρ,K ρ∧Eqv ρ υ) τ:=by
 cases h with
 | other hsp h =>
  refine .other hsp fun w0 pr0 ow a ao w B pr hs=>?_
  exact (SafeOps.mono (fun τ h=>⟨rfl,τ,h.2,.refl τ⟩) (fun e τ he h=>he h.1) h) w0 pr0 ow a ao w B pr (hs.eqv he.symm)
 | store hg hop hd ht hu hs h1 hst hz h =>
  obtain ⟨n',tm',ob',out',pa'⟩:=τ
  obtain ⟨k1,k2,k3,k4,k5⟩:=he
  simp only at k1 k2 k3 k4 k5
  subst k1;subst k4;subst k5
  refine .store (by rw [←hg];exact gd_mv fun _ _ d _ _=>(k2 d).symm) hop hd ht (by rw [ev_eqv (fun t=>(k2 t).symm)];exact hu) hs h1 (by rw [ev_eqv (fun t=>(k2 t).symm)];exact hst.eqv k3) hz ⟨_,h,⟨rfl,k2,oget_cons_eqv k3 _ _,rfl,rfl⟩⟩
 | append hg hop hd hn ht htx hee hf hx hy h1 hrs hm h48 h63 hz h =>
  obtain ⟨n',tm',ob',out',pa'⟩:=τ
  obtain ⟨k1,k2,k3,k4,k5⟩:=he
  simp only at k1 k2 k3 k4 k5
  subst k1;subst k4;subst k5
  have hev:∀q,ev tm' q=ev _ q:=fun q=>ev_eqv (fun t=>(k2 t).symm) q
  exact .append (by rw [←hg];exact gd_mv fun _ _ d _ _=>(k2 d).symm) hop hd hn ht htx hee ((k3 _).symm.trans hf) (by rw [hev];exact hx.eqv k3) (by rw [hev];exact hy.eqv k3) h1 hrs hm h48 h63 hz ⟨_,h,⟨rfl,tget_cons k2,oget_cons_eqv (oget_app k3 _) _ _,rfl,rfl⟩⟩
 | skip hg hd hn h=>exact DOp.eqv' he (.skip hg hd hn h)
 | quiet hg hd hn hq hf h=>exact DOp.eqv' he (.quiet hg hd hn hq hf h)
def zof (Z:List (Nat×Id)) (j:Nat):List Id:=(Z.filter fun p=>p.1==j).map (·.2)
def DAny (r:Bool) (P:Program) (E:Env) (gl:List (Nat×List V)) (l:List Oper) (Z:List (Nat×Id)) (S:List Nat) (Q:St→Prop):Nat→Array Bool→St→Prop
 | 0,listed,σ=>Region.ready .any l.toArray listed=[]∧∃τ,Eqv τ σ∧Q τ
 | f+1,listed,σ=>(Region.ready .any l.toArray listed=[]→∃τ,Eqv τ σ∧Q τ)∧∀i∈Region.ready .any l.toArray listed,∃o,l[i]?=some o∧DOp r P E gl (zof Z i) l (S.contains i) o (DAny r P E gl l Z S Q f (listed.setIfInBounds i true)) σ
theorem DAny.eqv {l:List Oper} {Z:List (Nat×Id)} {S:List Nat} {Q:St→Prop}:∀{f:Nat} {listed:Array Bool} {σ τ:St},Eqv σ τ→DAny r P E gl l Z S Q f listed σ→DAny r P E gl l Z S Q f listed τ
 | 0,_,_,_,he,⟨h1,υ,h2,h3⟩=>⟨h1,υ,h2.trans he,h3⟩
 | f+1,_,_,_,he,⟨h1,h2⟩=>⟨fun hr=>by obtain ⟨υ,h3,h4⟩:=h1 hr;exact ⟨υ,h3.trans he,h4⟩,fun i hi=>by
  obtain ⟨o,ho,hd⟩:=h2 i hi
  exact ⟨o,ho,(hd.eqv he).mono fun υ ⟨ρ,hρ,hρυ⟩=>DAny.eqv hρυ hρ⟩⟩
def DQ (P:Program) (E:Env) (gl:List (Nat×List V)) (Z:List Id) (l:List Oper) (o:Oper) (d:Nat) (v:V) (σ:St):Prop :=
 (gd l σ.tm o=some false∧v=.tup [])∨(gd l σ.tm o=some true∧∀ob',ObLeZ Z σ.ob ob'→QEv P E gl σ.tm ob' (σ.pa++[d]) o.op v [])
theorem DQ.dop {Z Z':List Id} {l:List Oper} {sp:Bool} {o:Oper} {d:Nat} {v:V} {K:St→Prop} {σ:St} (h:DQ P E gl Z l o d v σ) (hd:o.dst=some d) (hn:Nat.blt d σ.n=true) (hk:K ⟨σ.n,(d,v)::σ.tm,σ.ob,σ.out,σ.pa⟩):DOp r P E gl Z' l sp o K σ:=by
 obtain ⟨n,tm,ob,out,pa⟩:=σ
 rcases h with ⟨hg,hv⟩|⟨hg,hq⟩
 ·subst hv
  exact .skip hg hd hn hk
 ·exact .quiet (nw:=[]) hg hd hn (hq _ (.refl _ _)) rfl hk
theorem tget_ne {tm:List (Nat×V)} {d t:Nat} {v:V} (h:d≠t):tget ((d,v)::tm) t=tget tm t:=by
 have:Nat.beq d t=false:=by
  cases hb:Nat.beq d t with
  | false=>rfl
  | true=>exact absurd (Nat.eq_of_beq_eq_true hb) h
 simp [tget,this]
theorem ev_ne {tm:List (Nat×V)} {d:Nat} {v:V} {l:List Oper} {o:Oper} (h:d ∉ o.looksAt l.toArray):∀x∈o.op.operands,ev ((d,v)::tm) x=ev tm x:=by
 intro x hx
 cases x with
 | tmp t =>
  refine tget_ne fun e=>h ?_
  subst e
  simp only [Oper.looksAt,List.mem_append,List.mem_filterMap]
  exact Or.inl ⟨_,by simpa using hx,rfl⟩
 | _=>rfl
theorem gd_ne {tm:List (Nat×V)} {d:Nat} {v:V} {l:List Oper} {o:Oper} (h:d ∉ o.looksAt l.toArray):gd l ((d,v)::tm) o=gd l tm o:=by
 refine gd_mv fun g w t hg ht=>tget_ne fun e=>h ?_
 subst e
 rw [dstAt_get] at ht
 simp only [Oper.looksAt,List.mem_append,hg]
 exact Or.inr (by simp [ht])
theorem obLe_app {ob:List (Id×Obj)}:∀{nw:List (Id×Obj)},fresh ob nw=true→ObLe ob (nw++ob)
 | nw,hf=>fun o x hx=>by
  cases hn:oget nw o with
  | none =>
   rw [←hx]
   clear hf
   induction nw with
   | nil=>rfl
   | cons p r ih =>
    obtain ⟨k,y⟩:=p
    simp only [oget] at hn
    simp only [List.cons_append,oget]
    split
    ·rename_i h;rw [h] at hn;cases hn
    ·rename_i h;rw [h] at hn;exact ih hn
  | some y =>
   rw [fresh_get hf o y hn] at hx
   cases hx
theorem DQ.keep {Z:List Id} {l:List Oper} {o:Oper} {d d':Nat} {v v':V} {σ:St} {nw:List (Id×Obj)} (h:DQ P E gl Z l o d v σ) (hne:d' ∉ o.looksAt l.toArray) (hf:fresh σ.ob nw=true):DQ P E gl Z l o d v ⟨σ.n,(d',v')::σ.tm,nw++σ.ob,σ.out,σ.pa⟩:=by
 rcases h with ⟨hg,hv⟩|⟨hg,hq⟩
 ·exact .inl ⟨(gd_ne hne).trans hg,hv⟩
 ·exact .inr ⟨(gd_ne hne).trans hg,fun ob' ho=>(hq ob' (((obLe_app hf).z Z).trans ho)).mv (ev_ne hne) (fun _ _ h=>h)⟩
theorem DQ.keepS {Z:List Id} {l:List Oper} {o:Oper} {d:Nat} {v:V} {σ:St} {q:Id} {z:Obj} (h:DQ P E gl Z l o d v σ) (hz:Z.any (idEq q)=true):DQ P E gl Z l o d v ⟨σ.n,σ.tm,(q,z)::σ.ob,σ.out,σ.pa⟩:=by
 rcases h with ⟨hg,hv⟩|⟨hg,hq⟩
 ·exact .inl ⟨hg,hv⟩
 ·exact .inr ⟨hg,fun ob' ho=>hq ob' ((ObLeZ.put hz).trans ho)⟩
theorem DQ.keepA {Z:List Id} {l:List Oper} {o:Oper} {d d':Nat} {v v':V} {σ:St} {kl:List (Id×Obj)} {q:Id} {z:Obj} (h:DQ P E gl Z l o d v σ) (hne:d' ∉ o.looksAt l.toArray) (hf:oget σ.ob q=none) (hz:∀p∈kl,Z.any (idEq p.1)=true):DQ P E gl Z l o d v ⟨σ.n,(d',v')::σ.tm,(q,z)::(kl++σ.ob),σ.out,σ.pa⟩:=by
 have hle:ObLeZ Z σ.ob ((q,z)::(kl++σ.ob)):=fun o x ho hx=>by
  simp only [oget]
  split
  ·rename_i e
   rw [idEq_iff.1 e,hx] at hf;cases hf
  ·have key:∀kl':List (Id×Obj),(∀p∈kl',Z.any (idEq p.1)=true)→oget (kl'++σ.ob) o=some x:=by
    intro kl'
    induction kl' with
    | nil=>exact fun _=>hx
    | cons p r ih =>
     intro hp
     simp only [List.cons_append,oget]
     split
     ·rename_i e
      have:=hp p (List.mem_cons_self ..)
      rw [idEq_iff.1 e,ho] at this;cases this
     ·exact ih fun p' hp'=>hp p' (List.mem_cons_of_mem _ hp')
   exact key kl hz
 rcases h with ⟨hg,hv⟩|⟨hg,hq⟩
 ·exact .inl ⟨(gd_ne hne).trans hg,hv⟩
 ·exact .inr ⟨(gd_ne hne).trans hg,fun ob' ho=>(hq ob' (hle.trans ho)).mv (ev_ne hne) (fun _ _ h=>h)⟩
def put (σ:St) (d:Nat) (v:V):St:=⟨σ.n,(d,v)::σ.tm,σ.ob,σ.out,σ.pa⟩
theorem tget_swap {tm:List (Nat×V)} {d d':Nat} {v v':V} (h:d≠d') (t:Nat):tget ((d,v)::(d',v')::tm) t=tget ((d',v')::(d,v)::tm) t:=by
 by_cases h1:d=t
 ·subst h1
  rw [tget_ne (Ne.symm h)]
  simp [tget,Nat.beq_refl]
 ·rw [tget_ne h1]
  by_cases h2:d'=t
  ·subst h2
   simp [tget,Nat.beq_refl]
  ·rw [tget_ne h2,tget_ne h2,tget_ne h1]
theorem DOp.swap {Z Zj:List Id} {l:List Oper} {oi oj:Oper} {d:Nat} {v:V} {K:St→Prop} {σ:St} (hq:DQ P E gl Z l oi d v σ) (hd:oi.dst=some d) (hzz:∀q,Zj.any (idEq q)=true→Z.any (idEq q)=true) (hap:oi.apart l.toArray oj=true)
 (h:DOp r P E gl Zj l false oj K (put σ d v)) {sp:Bool}:DOp r P E gl Zj l sp oj (fun τ=>DQ P E gl Z l oi d v τ∧τ.n=σ.n∧∃ρ,K ρ∧Eqv ρ (put τ d v)) σ:=by
 obtain ⟨a1,a2,a3⟩:=Oper.apart_spec hap
 obtain ⟨n,tm,ob,out,pa⟩:=σ
 have b1:=a1 d hd
 have key:∀{d':Nat} {v':V} {nw:List (Id×Obj)},oj.dst=some d'→fresh ob nw=true→K ⟨n,(d',v')::(d,v)::tm,nw++ob,out,pa⟩ →
  (DQ P E gl Z l oi d v ⟨n,(d',v')::tm,nw++ob,out,pa⟩∧n=n∧∃ρ,K ρ∧Eqv ρ (put ⟨n,(d',v')::tm,nw++ob,out,pa⟩ d v)):=fun {d' v' nw} hd' hf hk=>by
  have hne:d≠d':=fun e=>a2 d hd (by rw [hd',e])
  exact ⟨hq.keep (a3 d' hd') hf,rfl,_,hk,⟨rfl,fun t=>(tget_swap hne t).symm,fun _=>rfl,rfl,rfl⟩⟩
 cases h with
 | other hs h=>cases hs
 | store hg hop hd' ht hu hs h1 hst hz h =>
  rename_i t x y dd us q z
  have hx:ev ((d,v)::tm) x=ev tm x:=ev_ne b1 x (by rw [hop];simp [Op.operands])
  have hy:ev ((d,v)::tm) y=ev tm y:=ev_ne b1 y (by rw [hop];simp [Op.operands])
  simp only [put] at hg hu hst
  rw [hx] at hst
  rw [hy] at hu
  refine .store (by rw [←hg];exact (gd_ne b1).symm) hop hd' ht hu hs h1 hst hz ⟨hq.keepS (hzz _ hz),rfl,_,h,.refl _⟩
 | append hg hop hd' hn ht htx he hf hx hy h1 hrs hm h48 h63 hz h =>
  rename_i t tx e sz bt sz' bt' e' d' m x y z z' de kl olds rows rs
  have ex:ev ((d,v)::tm) x=ev tm x:=ev_ne b1 x (by rw [hop];simp [Op.operands,Call.operands])
  have ey:ev ((d,v)::tm) y=ev tm y:=ev_ne b1 y (by rw [hop];simp [Op.operands,Call.operands])
  simp only [put] at hg hx hy hf
  rw [ex] at hx
  rw [ey] at hy
  have hne:d≠d':=fun e=>a2 d hd (by rw [hd',e])
  exact .append (by rw [←hg];exact (gd_ne b1).symm) hop hd' hn ht htx he hf hx hy h1 hrs hm h48 h63 hz ⟨hq.keepA (a3 d' hd') hf (fun p hp=>hzz _ (hz p hp)),rfl,_,h,⟨rfl,fun t=>(tget_swap hne t).symm,fun _=>rfl,rfl,rfl⟩⟩
 | skip hg hd' hn h=>exact .skip (by rw [←hg];exact (gd_ne b1).symm) hd' hn (key (nw:=[]) hd' rfl h)
 | quiet hg hd' hn hq' hf h=>exact .quiet (by rw [←hg];exact (gd_ne b1).symm) hd' hn (hq'.mv (fun x hx=>(ev_ne b1 x hx).symm) (fun _ _ h=>h)) hf (key hd' hf h)
def dep (l:List Oper) (listed:Array Bool) (i:Nat):Nat→Nat→Bool
 | 0,_=>false
 | n+1,j=>match l[j]? with
  | some oj=>oj.after.any fun e=>Region.binds .any e&&(e.on==i||(!listed.getD e.on true&&dep l listed i n e.on))
  | none=>false
inductive Dep (l:List Oper) (listed:Array Bool) (i:Nat):Nat→Prop
 | direct {j:Nat} {oj:Oper} {e:Edge} (hj:l[j]?=some oj) (he:e∈oj.after) (hb:Region.binds .any e=true) (hi:e.on=i):Dep l listed i j
 | step {j:Nat} {oj:Oper} {e:Edge} (hj:l[j]?=some oj) (he:e∈oj.after) (hb:Region.binds .any e=true) (hu:listed.getD e.on true=false) (h:Dep l listed i e.on):Dep l listed i j
theorem dep_spec {l:List Oper} {listed:Array Bool} {i:Nat}:∀{n j:Nat},dep l listed i n j=true→Dep l listed i j
 | 0,j,h=>by simp [dep] at h
 | n+1,j,h=>by
  unfold dep at h
  split at h
  ·rename_i oj hj
   obtain ⟨e,he,h2⟩:=Array.any_eq_true'.1 h
   simp only [Bool.and_eq_true,Bool.or_eq_true,beq_iff_eq,Bool.not_eq_true'] at h2
   rcases h2.2 with h3|h3
   ·exact .direct hj he h2.1 h3
   ·exact .step hj he h2.1 h3.1 (dep_spec h3.2)
  ·cases h
def waitsAll (l:List Oper) (S:List Nat) (listed:Array Bool) (i:Nat):Bool :=
 S.all fun j=>j==i||listed.getD j true||match l[j]? with|some oj=>oj.after.any (fun e=>Region.binds .any e&&e.on==i)||dep l listed i l.length j|none=>true
theorem waitsAll_spec {l:List Oper} {S:List Nat} {listed:Array Bool} {i:Nat} (h:waitsAll l S listed i=true):∀j oj,l[j]?=some oj→j≠i→listed.getD j true=false→S.contains j=true→Dep l listed i j:=by
 intro j oj hj hji hun hs
 have:=List.all_eq_true.1 h j (by simpa using hs)
 simp only [hj,hun,Bool.or_false,Bool.or_eq_true,beq_iff_eq] at this
 rcases this with h1|h1|h1
 ·exact absurd h1 hji
 ·obtain ⟨e,he,h2⟩:=Array.any_eq_true'.1 h1
  simp only [Bool.and_eq_true,beq_iff_eq] at h2
  exact .direct hj he h2.1 h2.2
 ·exact dep_spec h1
def zAll (l:List Oper) (Z:List (Nat×Id)) (Zi:List Id) (listed:Array Bool) (i:Nat):Bool :=
 Z.all fun p=>p.1==i||listed.getD p.1 true||Zi.any (idEq p.2)||match l[p.1]? with|some oj=>oj.after.any (fun e=>Region.binds .any e&&e.on==i)||dep l listed i l.length p.1|none=>true
theorem zAll_spec {l:List Oper} {Z:List (Nat×Id)} {Zi:List Id} {listed:Array Bool} {i:Nat} (h:zAll l Z Zi listed i=true) :
 ∀j oj,l[j]?=some oj→j≠i→listed.getD j true=false→¬Dep l listed i j→∀q,(zof Z j).any (idEq q)=true→Zi.any (idEq q)=true:=by
 intro j oj hj hji hun hno q hq
 obtain ⟨q',hq',he⟩:=List.any_eq_true.1 hq
 obtain ⟨⟨j',q''⟩,hm,rfl⟩:=List.mem_map.1 hq'
 have hm:=List.mem_filter.1 hm
 have hjj:j'=j:=by simpa using hm.2
 subst hjj
 have heq:=idEq_iff.1 he
 subst heq
 have:=List.all_eq_true.1 h _ hm.1
 simp only [hj,hun,Bool.or_false,Bool.or_eq_true,beq_iff_eq] at this
 rcases this with (h1|h1)|h1|h1
 ·exact absurd h1 hji
 ·exact h1
 ·obtain ⟨e,he,h2⟩:=Array.any_eq_true'.1 h1
  simp only [Bool.and_eq_true,beq_iff_eq] at h2
  exact (hno (.direct hj he h2.1 h2.2)).elim
 ·exact (hno (dep_spec h1)).elim
theorem Dep.not_ready {l:List Oper} {listed:Array Bool} {i j:Nat} (h:Dep l listed i j) (hi:listed.getD i true=false):j ∉ Region.ready .any l.toArray listed:=by
 intro hr
 obtain ⟨hjun,oj,hoj,hall⟩:=mem_ready.1 hr
 rw [List.getElem?_toArray] at hoj
 have key:∀(k:Nat),listed.getD k true=false→listed.getD k false=true→False:=fun k h0 h1=>by
  rcases Nat.lt_or_ge k listed.size with h'|h'
  ·simp [h'] at h0 h1;rw [h0] at h1;cases h1
  ·simp [Array.getElem?_eq_none h'] at h1
 cases h with
 | direct hj he hb hei =>
  obtain rfl:=Option.some.inj (hoj.symm.trans hj)
  have h1:=hall _ he hb
  rw [hei] at h1
  exact key _ hi h1
 | step hj he hb hu _ =>
  obtain rfl:=Option.some.inj (hoj.symm.trans hj)
  exact key _ hu (hall _ he hb)
theorem Dep.grow {l:List Oper} {listed:Array Bool} {i j k:Nat} (h:Dep l listed i k) (hi:listed.getD i true=false) (hj:j∈Region.ready .any l.toArray listed):Dep l (listed.setIfInBounds j true) i k:=by
 induction h with
 | direct hj he hb hei=>exact .direct hj he hb hei
 | step hk he hb hu hd ih =>
  refine .step hk he hb ?_ ih
  rw [getD_set_ne true (fun e=>hd.not_ready hi (by rw [←e];exact hj))]
  exact hu
theorem DAny.first {l:List Oper} {Z:List (Nat×Id)} (Zi:List Id) {S:List Nat} {Q:St→Prop} {i d:Nat} {oi:Oper} {v:V} (hi:l[i]?=some oi) (hd:oi.dst=some d) :
 ∀(fuel:Nat) (listed:Array Bool) (σ:St),Nat.blt d σ.n=true →
  (∀j oj,l[j]?=some oj→j≠i→listed.getD j true=false→S.contains j=true→Dep l listed i j) →
  (∀j oj,l[j]?=some oj→j≠i→listed.getD j true=false→¬Dep l listed i j→∀q,(zof Z j).any (idEq q)=true→Zi.any (idEq q)=true) →
  (∀j oj,l[j]?=some oj→j≠i→listed.getD j true=false→(∀e∈oj.after,Region.binds .any e=true→e.on≠i)→oi.apart l.toArray oj=true) →
  i∈Region.ready .any l.toArray listed→DQ P E gl Zi l oi d v σ →
  DAny r P E gl l Z S Q fuel (listed.setIfInBounds i true) (put σ d v)→DAny r P E gl l Z S Q (fuel+1) listed σ:=by
 intro fuel
 induction fuel with
 | zero =>
  intro listed σ hn _ _ _ hr hy H
  refine ⟨fun h=>(by rw [h] at hr;cases hr),fun j hj=>?_⟩
  by_cases hji:j=i
  ·subst hji
   exact ⟨oi,hi,hy.dop hd hn H⟩
  ·have:=ready_mono hj hji
   rw [H.1] at this
   cases this
 | succ fuel ih =>
  intro listed σ hn hsp hzi hfree hr hy H
  refine ⟨fun h=>(by rw [h] at hr;cases hr),fun j hj=>?_⟩
  by_cases hji:j=i
  ·subst hji
   exact ⟨oi,hi,hy.dop hd hn H⟩
  ·obtain ⟨oj',hoj',h1⟩:=H.2 j (ready_mono hj hji)
   obtain ⟨hjun,oj,hoj,hall⟩:=mem_ready.1 hj
   rw [List.getElem?_toArray] at hoj
   obtain rfl:oj=oj':=Option.some.inj (hoj.symm.trans hoj')
   have hnot:∀e∈oj.after,Region.binds .any e=true→e.on≠i:=fun e he hb heq=>by
    have h1:=hall e he hb
    have h0:=(mem_ready.1 hr).1
    rw [heq] at h1
    rcases Nat.lt_or_ge i listed.size with h'|h'
    ·simp [h'] at h0 h1;rw [h0] at h1;cases h1
    ·simp [Array.getElem?_eq_none h'] at h1
   have hjs:S.contains j=false:=by
    cases hc:S.contains j with
    | false=>rfl
    | true =>
     exact ((hsp j oj hoj hji hjun hc).not_ready (mem_ready.1 hr).1 hj).elim
   rw [hjs] at h1
   have h2:=h1.swap (sp:=S.contains j) hy hd (hzi j oj hoj hji hjun (fun hd=>hd.not_ready (mem_ready.1 hr).1 hj)) (hfree j oj hoj hji hjun hnot)
   have hzi':∀k ok,l[k]?=some ok→k≠i→(listed.setIfInBounds j true).getD k true=false→¬Dep l (listed.setIfInBounds j true) i k→∀q,(zof Z k).any (idEq q)=true→Zi.any (idEq q)=true:=fun k ok hk hki hun hno=>by
    refine hzi k ok hk hki ?_ (fun hd=>hno (hd.grow (mem_ready.1 hr).1 hj))
    by_cases hjk:j=k
    ·subst hjk;exact hjun
    ·rw [getD_set_ne true hjk] at hun;exact hun
   have hsp':∀k ok,l[k]?=some ok→k≠i→(listed.setIfInBounds j true).getD k true=false→S.contains k=true→Dep l (listed.setIfInBounds j true) i k:=fun k ok hk hki hun hks=>by
    refine (hsp k ok hk hki ?_ hks).grow (mem_ready.1 hr).1 hj
    by_cases hjk:j=k
    ·subst hjk;exact hjun
    ·rw [getD_set_ne true hjk] at hun;exact hun
   have hfree':∀k ok,l[k]?=some ok→k≠i→(listed.setIfInBounds j true).getD k true=false →
    (∀e∈ok.after,Region.binds .any e=true→e.on≠i)→oi.apart l.toArray ok=true:=fun k ok hk hki hun hno=>by
    refine hfree k ok hk hki ?_ hno
    by_cases hjk:j=k
    ·subst hjk;exact hjun
    ·rw [getD_set_ne true hjk] at hun;exact hun
   refine ⟨oj,hoj,h2.mono fun τ ⟨hy',hn',ρ,hρ,he⟩=>ih (listed.setIfInBounds j true) τ (by rw [hn'];exact hn) hsp' hzi' hfree' (ready_mono hr (Ne.symm hji)) hy' ?_⟩
   rw [Array.setIfInBounds_comm _ _ hji]
   exact hρ.eqv he
theorem DAny.take {l:List Oper} {Z:List (Nat×Id)} {S:List Nat} {Q:St→Prop} {i d f n:Nat} {oi:Oper} {v:V} {listed:Array Bool} {tm:List (Nat×V)} {ob:List (Id×Obj)} {out:List (Nat×List (Nat×V))} {pa:Id}
 (hi:l[i]?=some oi) (hw:waitsAll l S listed i=true) (Zi:List Id) (hzz:zAll l Z Zi listed i=true) (hf:Region.free .any l.toArray listed i=true) (hr:(Region.ready .any l.toArray listed).contains i=true)
 (hg:gd l tm oi=some true) (hd:oi.dst=some d) (hn:Nat.blt d n=true) (hq:∀ob',ObLeZ Zi ob ob'→QEv P E gl tm ob' (pa++[d]) oi.op v [])
 (h:DAny r P E gl l Z S Q f (listed.setIfInBounds i true) ⟨n,(d,v)::tm,ob,out,pa⟩):DAny r P E gl l Z S Q (f+1) listed ⟨n,tm,ob,out,pa⟩ :=
 DAny.first Zi hi hd f listed ⟨n,tm,ob,out,pa⟩ hn (waitsAll_spec hw) (zAll_spec hzz) (fun j oj hj hji hun hno=>Region.free_spec (by simpa using hi) hf j oj (by simpa using hj) hji hun hno) (by simpa using hr) (.inr ⟨hg,hq⟩) h
theorem DAny.takeSkip {l:List Oper} {Z:List (Nat×Id)} {S:List Nat} {Q:St→Prop} {i d f n:Nat} {oi:Oper} {listed:Array Bool} {tm:List (Nat×V)} {ob:List (Id×Obj)} {out:List (Nat×List (Nat×V))} {pa:Id}
 (hi:l[i]?=some oi) (hw:waitsAll l S listed i=true) (Zi:List Id) (hzz:zAll l Z Zi listed i=true) (hf:Region.free .any l.toArray listed i=true) (hr:(Region.ready .any l.toArray listed).contains i=true)
 (hg:gd l tm oi=some false) (hd:oi.dst=some d) (hn:Nat.blt d n=true)
 (h:DAny r P E gl l Z S Q f (listed.setIfInBounds i true) ⟨n,(d,.tup [])::tm,ob,out,pa⟩):DAny r P E gl l Z S Q (f+1) listed ⟨n,tm,ob,out,pa⟩ :=
 DAny.first Zi hi hd f listed ⟨n,tm,ob,out,pa⟩ hn (waitsAll_spec hw) (zAll_spec hzz) (fun j oj hj hji hun hno=>Region.free_spec (by simpa using hi) hf j oj (by simpa using hj) hji hun hno) (by simpa using hr) (.inl ⟨hg,rfl⟩) h
theorem DAny.fork {l:List Oper} {Z:List (Nat×Id)} {S:List Nat} {Q:St→Prop} {i j f:Nat} {oi oj:Oper} {listed:Array Bool} {σ:St} (hi:l[i]?=some oi) (hj:l[j]?=some oj) (hr:Region.ready .any l.toArray listed=[i,j])
 (Hi:DOp r P E gl (zof Z i) l (S.contains i) oi (DAny r P E gl l Z S Q f (listed.setIfInBounds i true)) σ) (Hj:DOp r P E gl (zof Z j) l (S.contains j) oj (DAny r P E gl l Z S Q f (listed.setIfInBounds j true)) σ):DAny r P E gl l Z S Q (f+1) listed σ:=by
 unfold DAny
 refine ⟨fun h0=>(by rw [hr] at h0;cases h0),fun k hk=>?_⟩
 rw [hr] at hk
 simp only [List.mem_cons,List.mem_nil_iff,or_false] at hk
 rcases hk with rfl|rfl
 ·exact ⟨oi,hi,Hi⟩
 ·exact ⟨oj,hj,Hj⟩
theorem DAny.only {l:List Oper} {Z:List (Nat×Id)} {S:List Nat} {Q:St→Prop} {i f:Nat} {oi:Oper} {listed:Array Bool} {σ:St} (hi:l[i]?=some oi) (hr:Region.ready .any l.toArray listed=[i])
 (h:DOp r P E gl (zof Z i) l (S.contains i) oi (DAny r P E gl l Z S Q f (listed.setIfInBounds i true)) σ):DAny r P E gl l Z S Q (f+1) listed σ:=by
 unfold DAny
 refine ⟨fun h0=>?_,fun j hj=>?_⟩
 ·rw [hr] at h0
  cases h0
 ·rw [hr] at hj
  obtain rfl:=List.mem_singleton.1 hj
  exact ⟨oi,hi,h⟩
theorem DAny.onlyS {l:List Oper} {Z:List (Nat×Id)} {S:List Nat} {Q:St→Prop} {i f:Nat} {oi:Oper} {listed:Array Bool} {σ:St} (hi:l[i]?=some oi) (hr:Region.ready .any l.toArray listed=[i]) (hs:S.contains i=true)
 (h:SafeOps r P gl l [oi] (fun e τ=>e=.normal∧DAny r P E gl l Z S Q f (listed.setIfInBounds i true) τ) σ):DAny r P E gl l Z S Q (f+1) listed σ :=
 DAny.only hi hr (.other hs h)
theorem DAny.nil {l:List Oper} {Z:List (Nat×Id)} {S:List Nat} {Q:St→Prop} {listed:Array Bool} {σ:St} (hr:Region.ready .any l.toArray listed=[]) (h:Q σ):DAny r P E gl l Z S Q 0 listed σ:=⟨hr,σ,.refl σ,h⟩
theorem DAny.split {l:List Oper} {Z:List (Nat×Id)} {S:List Nat} {Q:St→Prop} {n f:Nat} {listed:Array Bool} (d:Nat) {b:Bool} {tm:List (Nat×V)} {ob:List (Id×Obj)} {out:List (Nat×List (Nat×V))} {pa:Id} (hb:tget tm d=.bool b)
 (h1:b=true→DAny r P E gl l Z S Q f listed ⟨n,(d,.bool true)::tm,ob,out,pa⟩) (h2:b=false→DAny r P E gl l Z S Q f listed ⟨n,(d,.bool false)::tm,ob,out,pa⟩):DAny r P E gl l Z S Q f listed ⟨n,tm,ob,out,pa⟩:=by
 have key:∀b',b=b'→Eqv ⟨n,(d,.bool b')::tm,ob,out,pa⟩ ⟨n,tm,ob,out,pa⟩:=fun b' e=>⟨rfl,fun t=>by
  by_cases hd:d=t
  ·subst hd;subst e
   simp [tget,Nat.beq_refl,hb]
  ·exact tget_ne hd,fun _=>rfl,rfl,rfl⟩
 cases hbb:b with
 | true=>exact (h1 hbb).eqv (key _ hbb)
 | false=>exact (h2 hbb).eqv (key _ hbb)
theorem DAny.sound (hE:E.good P=true) {l:List Oper} (hnd:l.all noDefer=true) {ro:Option Nat} (hro:ro.isSome=r) {Z:List (Nat×Id)} {S:List Nat} {Q:Exit→St→Prop}:∀{f:Nat} {listed:Array Bool} {σ:St},DAny r P E gl l Z S (Q .normal) f listed σ →
 ∀w0 pr0 ow a ao w B pr,Sim gl w0 pr0 ow σ a ao w B pr→wpAnyIn (fen ro) 0 P .any l.toArray (Post gl w0 pr0 ow ao Q) f listed a w
 | 0,_,_,⟨hr,τ,he,hq⟩,w0,pr0,ow,a,ao,w,B,pr,hs=>⟨hr,τ,B,pr,hq,hs.eqv he.symm⟩
 | f+1,listed,σ,⟨h1,h2⟩,w0,pr0,ow,a,ao,w,B,pr,hs=>by
  refine ⟨fun hr=>?_,fun i hi=>?_⟩
  ·obtain ⟨τ,he,hq⟩:=h1 hr
   exact ⟨τ,B,pr,hq,hs.eqv he.symm⟩
  ·obtain ⟨o,ho,hop⟩:=h2 i hi
   have hno:noDefer o=true:=List.all_eq_true.1 hnd o (List.mem_of_getElem? ho)
   have hnd1:[o].all noDefer=true:=by simp [hno]
   unfold wpOpIn
   simp only [List.getElem?_toArray,ho]
   have one:SafeOps r P gl l [o] (fun e τ=>e=.normal∧DAny r P E gl l Z S (Q .normal) f (listed.setIfInBounds i true) τ) σ→if Region.wanted o (yielded l.toArray a.tmps) then o.wpIn (fen ro) 0 P a w (wpAnyIn (fen ro) 0 P .any l.toArray (Post gl w0 pr0 ow ao Q) f (listed.setIfInBounds i true)) (Post gl w0 pr0 ow ao Q)
    else (∀f,o.about P w a.eval=some f→(fen ro).fn f)∧wpAnyIn (fen ro) 0 P .any l.toArray (Post gl w0 pr0 ow ao Q) f (listed.setIfInBounds i true) (a.put o.dst undef) w:=fun h=>by
    have h0:=h w0 pr0 ow a ao w B pr hs hnd1 ro hro
    simp only [wpListIn] at h0
    have hyes:∀a w,Post gl w0 pr0 ow ao (fun e τ=>e=.normal∧DAny r P E gl l Z S (Q .normal) f (listed.setIfInBounds i true) τ) .normal a w→wpAnyIn (fen ro) 0 P .any l.toArray (Post gl w0 pr0 ow ao Q) f (listed.setIfInBounds i true) a w :=
     fun a w ⟨τ,B,pr,h1,h2⟩=>DAny.sound hE hnd hro h1.2 _ _ _ _ _ _ _ _ h2
    have hno:∀e a w,Post gl w0 pr0 ow ao (fun e τ=>e=.normal∧DAny r P E gl l Z S (Q .normal) f (listed.setIfInBounds i true) τ) e a w→e=.normal:=fun e a w ⟨τ,B,pr,h1,h2⟩=>h1.1
    split at h0
    ·rename_i hw
     rw [if_pos hw]
     exact wpIn_mono3 hyes hno h0
    ·rename_i hw
     rw [if_neg hw]
     exact ⟨h0.1,hyes _ _ h0.2⟩
   cases hop with
   | other _ h=>exact one h
   | store hg hop hd ht hu hsz h1x hst hz h=>exact one (SafeOps.store (P:=P) (gl:=gl) (l:=l) (rest:=[]) hE hg hop hd ht hu hsz h1x hst (SafeOps.nil ⟨rfl,h⟩))
   | append hg hop hd hn ht htx he hf hx hy h1z hrs hm h48 h63 hz h=>exact one (SafeOps.append (P:=P) (gl:=gl) (l:=l) (rest:=[]) hE hg hop hd hn ht htx he hf hx hy h1z hrs hm h48 h63 (SafeOps.nil ⟨rfl,h⟩))
   | skip hg hd hn h =>
    rw [if_neg (by rw [gd_wanted hg hs.tms];simp),hd]
    exact ⟨fun _ _=>trivial,DAny.sound hE hnd hro h _ _ _ _ _ _ _ _ { hs with tms:=hs.tms.put (by simpa using hn) (.base (.tup .nil)) }⟩
   | quiet hg hd hn hq hf h=>exact one (SafeOps.quiet (P:=P) (gl:=gl) (l:=l) (rest:=[]) hE hg hd hn hq hf (SafeOps.nil ⟨rfl,h⟩))
theorem DAny.pair {l:List Oper} {Z:List (Nat×Id)} {S:List Nat} {Q:St→Prop} {i j f n:Nat} {oi oj:Oper} {di dj:Nat} {vi vj:V} {nwi nwj:List (Id×Obj)} {listed:Array Bool} {tm:List (Nat×V)} {ob:List (Id×Obj)} {out:List (Nat×List (Nat×V))} {pa:Id}
 (hi:l[i]?=some oi) (hj:l[j]?=some oj) (hr:Region.ready .any l.toArray listed=[i,j]) (hr1:Region.ready .any l.toArray (listed.setIfInBounds i true)=[j]) (hr2:Region.ready .any l.toArray (listed.setIfInBounds j true)=[i]) (hij:i≠j)
 (hgi:gd l tm oi=some true) (hgj:gd l tm oj=some true) (hdi:oi.dst=some di) (hdj:oj.dst=some dj) (hni:Nat.blt di n=true) (hnj:Nat.blt dj n=true)
 (hqi:QEv P E gl tm ob (pa++[di]) oi.op vi nwi) (hqj:QEv P E gl tm ob (pa++[dj]) oj.op vj nwj) (hfi:fresh ob nwi=true) (hfj:fresh ob nwj=true) (hfij:fresh (nwi++ob) nwj=true) (hfji:fresh (nwj++ob) nwi=true)
 (hli:(oj.looksAt l.toArray).contains di=false) (hlj:(oi.looksAt l.toArray).contains dj=false) (hne:di≠dj)
 (H:DAny r P E gl l Z S Q f ((listed.setIfInBounds i true).setIfInBounds j true) ⟨n,(dj,vj)::(di,vi)::tm,nwj++(nwi++ob),out,pa⟩):DAny r P E gl l Z S Q (f+2) listed ⟨n,tm,ob,out,pa⟩:=by
 have hli':di ∉ oj.looksAt l.toArray:=fun h=>by rw [List.contains_iff_mem.2 h] at hli;cases hli
 have hlj':dj ∉ oi.looksAt l.toArray:=fun h=>by rw [List.contains_iff_mem.2 h] at hlj;cases hlj
 refine ⟨fun h0=>(by rw [hr] at h0;cases h0),fun k hk=>?_⟩
 rw [hr] at hk
 simp only [List.mem_cons,List.mem_nil_iff,or_false] at hk
 rcases hk with rfl|rfl
 ·refine ⟨oi,hi,.quiet hgi hdi hni hqi hfi (DAny.only hj hr1 (.quiet ((gd_ne hli').trans hgj) hdj hnj (hqj.mv (ev_ne hli') (obLe_app hfi)) hfij H))⟩
 ·refine ⟨oj,hj,.quiet hgj hdj hnj hqj hfj (DAny.only hi hr2 (.quiet ((gd_ne hlj').trans hgi) hdi hni (hqi.mv (ev_ne hlj') (obLe_app hfj)) hfji ?_))⟩
  rw [Array.setIfInBounds_comm _ _ (Ne.symm hij)]
  have he:Eqv ⟨n,(dj,vj)::(di,vi)::tm,nwj++(nwi++ob),out,pa⟩ ⟨n,(di,vi)::(dj,vj)::tm,nwi++(nwj++ob),out,pa⟩:=by
   refine ⟨rfl,fun t=>tget_swap (Ne.symm hne) t,fun o=>?_,rfl,rfl⟩
   simp only [oget_append]
   cases h1:oget nwi o with
   | none=>cases oget nwj o<;>rfl
   | some x =>
    cases h2:oget nwj o with
    | none=>rfl
    | some y =>
     have:=fresh_get hfij o y h2
     rw [oget_append,h1] at this
     cases this
  exact DAny.eqv he H
theorem Safe.regionD (Z:List (Nat×Id)) (S:List Nat) (hE:E.good P=true) (hm:P.follows .mixedOrders=true) {l:List Oper} {id n:Nat} {Q:Exit→St→Prop} {σ:St} (hn:l.length=n) (h:DAny r P E gl l Z S (Q .normal) n (Array.replicate n false) σ) (hnd:l.all noDefer=true:=by rfl):Safe r P gl (.region id l.toArray true) Q σ :=
 fun w0 pr0 ow a ao w B pr hs ro hro=>wpIn_region_any hm (by subst hn;exact DAny.sound hE hnd hro h w0 pr0 ow a ao _ B pr (hs.drew _ (Nat.le_succ _)))
end Go.AM
namespace Go.AM
open Go Go.ChangeShapes Go.WideShapes Go.RowKit
mutual
inductive VT (E:Env):Nat→List V→Prop
 | bool {t:Nat} {d:Ty} (b:Bool) (h:ety E t=some d) (hk:d.k=.bool):VT E t [.bool b]
 | int {t:Nat} {d:Ty} {k:IntKind} {n:Int} (h:ety E t=some d) (hk:d.k=.int k) (hw:(Lit.int k n).wf=true):VT E t [.int k n]
 | str {t:Nat} {d:Ty} {s:ByteArray} (h:ety E t=some d) (hk:d.k=.str) (hs:s.size≤maxLen):VT E t [.str s]
 | sli {t e:Nat} {d de:Ty} {rows:List (List V)} (h:ety E t=some d) (hk:d.k=.sli e) (he:ety E e=some de) (hl:rows.length≤maxLen) (hr:∀r∈rows,VT E e r):VT E t [.sl de.size rows]
 | arr {t m e:Nat} {d:Ty} {parts:List (List V)} (h:ety E t=some d) (hk:d.k=.arr m e) (hl:parts.length=m) (hr:∀r∈parts,VT E e r):VT E t parts.flatten
 | st {t:Nat} {d:Ty} {fs:List (Nat×Nat)} {us:List V} (h:ety E t=some d) (hk:d.k=.st fs) (hf:VTs E fs us):VT E t us
inductive VTs (E:Env):List (Nat×Nat)→List V→Prop
 | nil:VTs E [] []
 | cons {t o:Nat} {r:List (Nat×Nat)} {us vs:List V} (h:VT E t us) (hr:VTs E r vs):VTs E ((t,o)::r) (us++vs)
end
def opns (E:Env) (f:Nat→Bool):List (Nat×Nat)→Nat→Nat→Bool
 | [],off,tot=>Nat.beq off tot
 | (ft,o)::r,off,tot=>match ety E ft with
  | some df=>Nat.beq o off&&(f ft&&opns E f r (off+df.size) tot)
  | none=>false
def opn (E:Env):Nat→Nat→Bool
 | 0,_=>false
 | n+1,t=>match ety E t with
  | some d=>match d.k with
   | .bool|.int _|.str=>Nat.beq d.size 1
   | .sli e=>match ety E e with
    | some de=>Nat.beq d.size 1&&(Nat.blt 0 de.size&&opn E n e)
    | none=>false
   | .arr m e=>match ety E e with
    | some de=>Nat.beq d.size (m*de.size)&&opn E n e
    | none=>false
   | .st fs=>opns E (opn E n) fs 0 d.size
   | _=>false
  | none=>false
section
variable {H:Type} {enc:TypeId×Value→H} {P:Program} {E:Env} {W:World}
theorem rcr_of {s b:Nat} (hb:b < W.heap.size) {e:Nat}:∀(n off:Nat),(∀i,i < n→∃cs us,W.rangeAt b (off+i*s) cs∧us.length=s∧RCs W (All W) us cs∧VT E e us) →
 ∃rows:List (List V),rows.length=n∧RCr W (All W) b s off rows∧∀r∈rows,VT E e r
 | 0,off,_=>⟨[],rfl,.nil ..,by simp⟩
 | n+1,off,h=>by
  obtain ⟨cs,us,h1,h2,h3,h4⟩:=h 0 (by omega)
  obtain ⟨rows,r1,r2,r3⟩:=rcr_of hb n (off+s) (fun i hi=>by
   obtain ⟨cs,us,g1,g2⟩:=h (i+1) (by omega)
   exact ⟨cs,us,by rw [show off+s+i*s=off+(i+1)*s by rw [Nat.add_mul];omega];exact g1,g2⟩)
  refine ⟨us::rows,by simp [r1],.cons (by simpa using h1) h2 h3 r2,fun r hr=>?_⟩
  rcases List.mem_cons.1 hr with rfl|hr
  ·exact h4
  ·exact r3 r hr
theorem parts_of {e s:Nat}:∀(n:Nat) (cs:List Value),cs.length=n*s→(∀i,i < n→∃us,us.length=s∧RCs W (All W) us ((cs.drop (i*s)).take s)∧VT E e us) →
 ∃parts:List (List V),parts.length=n∧RCs W (All W) parts.flatten cs∧∀r∈parts,VT E e r
 | 0,cs,hl,_=>by
  have h0:cs=[]:=List.eq_nil_of_length_eq_zero (by simpa using hl)
  subst h0
  exact ⟨[],rfl,.nil,by simp⟩
 | n+1,cs,hl,h=>by
  obtain ⟨us,h2,h3,h4⟩:=h 0 (by omega)
  obtain ⟨parts,r1,r2,r3⟩:=parts_of (e:=e) (s:=s) n (cs.drop s) (by rw [List.length_drop,hl,Nat.add_mul];omega) (fun i hi=>by
   obtain ⟨us,g1,g2,g3⟩:=h (i+1) (by omega)
   exact ⟨us,g1,by rw [List.drop_drop,show s+i*s=(i+1)*s by rw [Nat.add_mul];omega];exact g2,g3⟩)
  refine ⟨us::parts,by simp [r1],?_,fun r hr=>?_⟩
  ·rw [List.flatten_cons,←List.take_append_drop s cs]
   exact (by simpa using h3:RCs W (All W) us (cs.take s)).append r2
  ·rcases List.mem_cons.1 hr with rfl|hr
   ·exact h4
   ·exact r3 r hr
theorem mem_range_map {β:Type} {f:Nat→Option β} {n:Nat} {r:List β} (h:(List.range n).mapM f=some r) {i:Nat} (hi:i < n):∃y,f i=some y:=by
 have h1:=mapM_some_get h i i (by simp [hi])
 have h2:=mapM_some_length h
 rw [List.length_range] at h2
 exact ⟨r[i]'(by omega),by rw [h1];simp [show i < r.length by omega]⟩
theorem fields_of {sp:Nat→Bool} {held:Bool} {fuel n tot:Nat} {cs:List Value} (hs:∀t d,ety E t=some d→d.Ok P t) (hl:cs.length=tot)
 (ih:∀(t:Nat) (d:Ty) (cs:List Value) (x:DataW H×List MemPlace),opn E n t=true→ety E t=some d→DataW.trod enc P W 0 sp held fuel t cs=some x→∃us,us.length=d.size∧RCs W (All W) us cs∧VT E t us) :
 ∀(fs:List Field) (off:Nat) (xs:List (DataW H×List MemPlace)),opns E (opn E n) (fs.map fun x=>(x.type,x.offset)) off tot=true→off≤tot →
  (fs.mapM fun f=>DataW.trod enc P W 0 sp held fuel f.type ((cs.drop f.offset).take (P.cellsOf f.type)))=some xs→∃us,us.length=tot - off∧RCs W (All W) us (cs.drop off)∧VTs E (fs.map fun x=>(x.type,x.offset)) us
 | [],off,xs,ho,hle,hm=>by
  have e:off=tot:=by simpa [opns] using ho
  subst e
  rw [List.drop_eq_nil_of_le (by omega)]
  exact ⟨[],by simp,.nil,.nil⟩
 | f::r,off,xs,ho,hle,hm=>by
  simp only [List.map_cons,opns] at ho
  split at ho
  ·rename_i df hdf
   simp only [Bool.and_eq_true] at ho
   obtain ⟨h1,h2,h3⟩:=ho
   have e1:f.offset=off:=Nat.eq_of_beq_eq_true h1
   rw [List.mapM_cons] at hm
   simp only [Option.bind_eq_bind,Option.bind_eq_some_iff,Option.pure_def,Option.some.injEq] at hm
   obtain ⟨x,hx,xr,hxr,-⟩:=hm
   obtain ⟨us,u1,u2,u3⟩:=ih _ _ _ _ h2 hdf hx
   have hcs:=ty_cells (hs _ _ hdf)
   have hlen:=u2.length
   rw [u1,e1,hcs,List.length_take,List.length_drop] at hlen
   have hle':off+df.size≤tot:=by omega
   obtain ⟨vs,v1,v2,v3⟩:=fields_of hs hl ih r (off+df.size) xr h3 hle' hxr
   refine ⟨us++vs,by rw [List.length_append,u1,v1];omega,?_,.cons u3 v3⟩
   rw [←List.take_append_drop df.size (cs.drop off),List.drop_drop]
   rw [e1,hcs] at u2
   exact u2.append v2
  ·cases ho
theorem open_cells (hE:E.good P=true) {sp:Nat→Bool} {held:Bool}:∀(fuel n:Nat) (t:Nat) (d:Ty) (cs:List Value) (x:DataW H×List MemPlace),
 opn E n t=true→ety E t=some d→DataW.trod enc P W 0 sp held fuel t cs=some x→∃us,us.length=d.size∧RCs W (All W) us cs∧VT E t us
 | 0,n,t,d,cs,x,ho,hd,ht=>by simp [DataW.trod] at ht
 | fuel+1,0,t,d,cs,x,ho,hd,ht=>by simp [opn] at ho
 | fuel+1,n+1,t,d,cs,x,ho,hd,ht=>by
  obtain ⟨u,hu,hf⟩:=ty_under (Env.ok hE hd)
  have hc:=ty_cells (Env.ok hE hd)
  unfold opn at ho
  rw [hd] at ho
  simp only at ho
  unfold DataW.trod at ht
  split at ho
  ·rename_i hk
   rw [hk] at hf
   rw [fits_bool hf] at hu
   rw [hu] at ht
   have h1:=Nat.eq_of_beq_eq_true ho
   split at ht<;>simp_all
   exact ⟨[.bool _],rfl,.cons (.bool _) .nil,.bool _ hd hk⟩
  ·rename_i k hk
   rw [hk] at hf
   rw [fits_int hf] at hu
   rw [hu] at ht
   have h1:=Nat.eq_of_beq_eq_true ho
   split at ht<;>simp_all
   rename_i k0 k1 n1 he
   obtain ⟨⟨rfl,hw⟩,-⟩:=ht
   exact ⟨[.int _ _],rfl,.cons (.int _ _) .nil,.int hd hk (by simpa [Lit.wf] using hw)⟩
  ·rename_i hk
   rw [hk] at hf
   rw [fits_str hf] at hu
   rw [hu] at ht
   have h1:=Nat.eq_of_beq_eq_true ho
   split at ht<;>simp_all
   exact ⟨[.str _],rfl,.cons (.str _) .nil,.str hd hk ht.1⟩
  ·rename_i e hk
   rw [hk] at hf
   rw [fits_sli hf] at hu
   rw [hu] at ht
   split at ho
   ·rename_i de hde
    simp only [Bool.and_eq_true,Nat.blt_eq] at ho
    obtain ⟨h1,h2,h3⟩:=ho
    have h1:=Nat.eq_of_beq_eq_true h1
    have hce:=ty_cells (Env.ok hE hde)
    rw [h1]
    split at ht
    all_goals first|(exfalso;simp_all;done)|skip
    ·exact ⟨[.sl de.size []],rfl,.cons (.sl0 _ _ _) .nil,.sli hd hk hde (by simp) (by simp)⟩
    ·rename_i e' a len cap hee
     simp only [Option.some.injEq,TypeDesc.slice.injEq] at hee
     subst hee
     split at ht
     ·rename_i hcap
      obtain ⟨-,hlc,hcm⟩:=hcap
      simp only [Option.bind_eq_some_iff] at ht
      obtain ⟨elems,hel,-⟩:=ht
      cases len with
      | zero=>exact ⟨[.sl de.size []],rfl,.cons (.sl0 _ _ _) .nil,.sli hd hk hde (by simp) (by simp)⟩
      | succ len =>
       have hcell:∀i,i < len+1→∃cs us,cs.length=de.size∧(∀j,j < de.size→W.cell? ((a.add (i*de.size)).add j)=cs[j]?)∧us.length=de.size∧RCs W (All W) us cs∧VT E e us:=fun i hi=>by
        obtain ⟨y,hy⟩:=mem_range_map hel hi
        simp only [Option.bind_eq_some_iff] at hy
        obtain ⟨cs',hcs',hy⟩:=hy
        rw [hce] at hcs'
        obtain ⟨-,c1,c2⟩:=World.cells?_some hcs'
        obtain ⟨us,u1,u2,u3⟩:=open_cells hE fuel n e de cs' y h3 hde hy
        exact ⟨cs',us,c1,c2,u1,u2,u3⟩
       have ha:a.spot=none∧a.block < W.heap.size:=by
        obtain ⟨cs',us,c1,c2,_⟩:=hcell 0 (by omega)
        have h0:=c2 0 h2
        rw [show (a.add (0*de.size)).add 0=a by simp [Addr.add]] at h0
        rw [List.getElem?_eq_getElem (by omega)] at h0
        unfold World.cell? at h0
        split at h0
        ·rename_i hh
         split at h0
         ·cases h0
         ·rename_i hsp
          refine ⟨by simpa using hsp,?_⟩
          have:=(Array.getElem?_eq_some_iff.1 hh).1
          exact this
        ·cases h0
       obtain ⟨b,off,spot⟩:=a
       obtain ⟨ha1,ha2⟩:=ha
       simp only at ha1 ha2
       subst ha1
       obtain ⟨rows,r1,r2,r3⟩:=rcr_of (E:=E) (e:=e) (s:=de.size) ha2 (len+1) off (fun i hi=>by
        obtain ⟨cs',us,c1,c2,u⟩:=hcell i hi
        refine ⟨cs',us,fun j v hj=>?_,u⟩
        have hjl:j < de.size:=by rw [←c1];exact (List.getElem?_eq_some_iff.1 hj).1
        have h0:=c2 j hjl
        rw [Addr.add_mid,Addr.add_mid] at h0
        rw [h0];exact hj)
       refine ⟨[.sl de.size rows],rfl,.cons ?_ .nil,.sli hd hk hde (by rw [r1];omega) r3⟩
       rw [←r1]
       exact .sl ha2 (by intro h;rw [h] at r1;cases r1) (by omega) r2
     ·cases ht
   ·cases ho
  ·rename_i m e hk
   rw [hk] at hf
   rw [fits_arr hf] at hu
   rw [hu] at ht
   split at ho
   ·rename_i de hde
    simp only [Bool.and_eq_true] at ho
    obtain ⟨h1,h3⟩:=ho
    have h1:=Nat.eq_of_beq_eq_true h1
    have hce:=ty_cells (Env.ok hE hde)
    split at ht
    all_goals first|(exfalso;simp_all;done)|skip
    rename_i m' e' hee
    simp only [Option.some.injEq,TypeDesc.array.injEq] at hee
    obtain ⟨rfl,rfl⟩:=hee
    split at ht
    ·rename_i hl
     simp only [Option.map_eq_some_iff] at ht
     obtain ⟨xs,hxs,-⟩:=ht
     rw [hc,h1] at hl
     obtain ⟨parts,p1,p2,p3⟩:=parts_of (E:=E) (e:=e) (s:=de.size) m _ hl (fun i hi=>by
      obtain ⟨y,hy⟩:=mem_range_map hxs hi
      rw [hce] at hy
      exact open_cells hE fuel n e de _ y h3 hde hy)
     exact ⟨parts.flatten,by rw [p2.length,hl,h1],p2,.arr hd hk p1 p3⟩
    ·cases ht
   ·cases ho
  ·rename_i fs hk
   rw [hk] at hf
   obtain ⟨f,rfl,rfl⟩:=fits_st hf
   rw [hu] at ht
   split at ht
   all_goals first|(exfalso;simp_all;done)|skip
   rename_i f' hee
   simp only [Option.some.injEq,TypeDesc.struct.injEq] at hee
   subst hee
   split at ht
   ·rename_i hl
    simp only [Option.map_eq_some_iff] at ht
    obtain ⟨xs,hxs,-⟩:=ht
    rw [hc] at hl
    obtain ⟨us,u1,u2,u3⟩:=fields_of (fun t d h=>Env.ok hE h) hl (fun t d cs x h1 h2 h3=>open_cells hE fuel n t d cs x h1 h2 h3) f.toList 0 xs ho (Nat.zero_le _) hxs
    exact ⟨us,by simpa using u1,by simpa using u2,.st hd hk u3⟩
   ·cases ht
  ·cases ho
end
end Go.AM
namespace Go.AM
open Go Go.ChangeShapes Go.WideShapes Go.ChangeAt Go.RowKit
variable {E:Env}
theorem VT.int_inv {t:Nat} {d:Ty} {k:IntKind} {us:List V} (hd:ety E t=some d) (hk:d.k=.int k) (h:VT E t us):∃n,us=[.int k n]∧(Lit.int k n).wf=true:=by
 cases h<;>rename_i h1 h2<;>simp_all
theorem VT.bool_inv {t:Nat} {d:Ty} {us:List V} (hd:ety E t=some d) (hk:d.k=.bool) (h:VT E t us):∃b,us=[.bool b]:=by
 cases h<;>simp_all
theorem VT.str_inv {t:Nat} {d:Ty} {us:List V} (hd:ety E t=some d) (hk:d.k=.str) (h:VT E t us):∃s,us=[.str s]∧s.size≤maxLen:=by
 cases h<;>simp_all
theorem VT.sli_inv {t e:Nat} {d de:Ty} {us:List V} (hd:ety E t=some d) (hk:d.k=.sli e) (he:ety E e=some de) (h:VT E t us):∃rows,us=[.sl de.size rows]∧rows.length≤maxLen∧∀r∈rows,VT E e r:=by
 cases h with
 | sli h1 h2 h3 h4 h5 =>
  obtain rfl:=Option.some.inj (h1.symm.trans hd)
  rw [hk] at h2
  injection h2 with h2
  subst h2
  obtain rfl:=Option.some.inj (h3.symm.trans he)
  exact ⟨_,rfl,h4,h5⟩
 | _=>simp_all
theorem VT.arr_inv {t m e:Nat} {d:Ty} {us:List V} (hd:ety E t=some d) (hk:d.k=.arr m e) (h:VT E t us):∃parts:List (List V),us=parts.flatten∧parts.length=m∧∀r∈parts,VT E e r:=by
 cases h with
 | arr h1 h2 h3 h4 =>
  obtain rfl:=Option.some.inj (h1.symm.trans hd)
  rw [hk] at h2
  injection h2 with h2 h2'
  subst h2;subst h2'
  exact ⟨_,rfl,h3,h4⟩
 | _=>simp_all
theorem VT.st_inv {t:Nat} {d:Ty} {fs:List (Nat×Nat)} {us:List V} (hd:ety E t=some d) (hk:d.k=.st fs) (h:VT E t us):VTs E fs us:=by
 cases h with
 | st h1 h2 h3 =>
  obtain rfl:=Option.some.inj (h1.symm.trans hd)
  rw [hk] at h2
  injection h2 with h2
  subst h2
  exact h3
 | _=>simp_all
theorem VTs.cons_inv {t o:Nat} {r:List (Nat×Nat)} {us:List V} (h:VTs E ((t,o)::r) us):∃vs ws,us=vs++ws∧VT E t vs∧VTs E r ws:=by
 cases h with
 | cons h1 h2=>exact ⟨_,_,rfl,h1,h2⟩
theorem VTs.nil_inv {us:List V} (h:VTs E [] us):us=[]:=by cases h;rfl
theorem rows_map {α:Type} {f:α→List V} {Q:α→Prop}:∀{rows:List (List V)},(∀r∈rows,∃a,r=f a∧Q a)→∃l:List α,rows=l.map f∧∀a∈l,Q a
 | [],_=>⟨[],rfl,by simp⟩
 | r::rs,h=>by
  obtain ⟨a,h1,h2⟩:=h r (List.mem_cons_self ..)
  obtain ⟨l,h3,h4⟩:=rows_map (f:=f) (Q:=Q) (rows:=rs) (fun r hr=>h r (List.mem_cons_of_mem _ hr))
  refine ⟨a::l,by rw [h1,h3];rfl,fun b hb=>?_⟩
  rcases List.mem_cons.1 hb with rfl|hb
  ·exact h2
  ·exact h4 b hb
theorem wf_i64 {n:Int} (h:(Lit.int .i64 n).wf=true):-9223372036854775808≤n∧n≤9223372036854775807:=by
 simp [Lit.wf,IntKind.min,IntKind.max,IntKind.signed,IntKind.bits] at h
 omega
theorem wf_u8 {n:Int} (h:(Lit.int .u8 n).wf=true):0≤n∧n≤255:=by
 simp [Lit.wf,IntKind.min,IntKind.max,IntKind.signed,IntKind.bits] at h
 omega
def VArg (E:Env) (t:Nat) (u:V):Prop :=
 ∃d,ety E t=some d∧match d.k.isAgg with
  | true=>∃us,u=.agg us∧VT E t us
  | false=>VT E t [u]
theorem VArg.flat {t:Nat} {d:Ty} {u:V} (hd:ety E t=some d) (hk:d.k.isAgg=false) (h:VArg E t u):VT E t [u]:=by
 obtain ⟨d',hd',h⟩:=h
 obtain rfl:=Option.some.inj (hd.symm.trans hd')
 rw [hk] at h
 exact h
theorem VArg.agg {t:Nat} {d:Ty} {u:V} (hd:ety E t=some d) (hk:d.k.isAgg=true) (h:VArg E t u):∃us,u=.agg us∧VT E t us:=by
 obtain ⟨d',hd',h⟩:=h
 obtain rfl:=Option.some.inj (hd.symm.trans hd')
 rw [hk] at h
 exact h
inductive VArgs (E:Env):List Nat→List V→Prop
 | nil:VArgs E [] []
 | cons {t:Nat} {ts:List Nat} {u:V} {us:List V} (h:VArg E t u) (hr:VArgs E ts us):VArgs E (t::ts) (u::us)
theorem VArgs.cons_inv {t:Nat} {ts:List Nat} {us:List V} (h:VArgs E (t::ts) us):∃v vs,us=v::vs∧VArg E t v∧VArgs E ts vs:=by
 cases h with
 | cons h1 h2=>exact ⟨_,_,rfl,h1,h2⟩
theorem VArgs.nil_inv {us:List V} (h:VArgs E [] us):us=[]:=by cases h;rfl
section
variable {H:Type} {enc:TypeId×Value→H} {P:Program} {W:World}
theorem open_arg (hE:E.good P=true) {sp:Nat→Bool} {held:Bool} {n t base:Nat} {d:Ty} {v:Value} {y:DataW H} {ps:List MemPlace} (ho:opn E n t=true) (hd:ety E t=some d)
 (hval:Value.okWide P W .any base t v) (h:DataW.Trod enc P W 0 sp held t v y ps):∃u,RC0 W (All W) u v∧VArg E t u:=by
 obtain ⟨fuel,h⟩:=h
 obtain ⟨us,h1,h2,h3⟩:=open_cells hE fuel n t d _ _ ho hd h
 obtain ⟨u,hu,hf⟩:=ty_under (Env.ok hE hd)
 unfold Value.okWide at hval
 cases ha:d.k.isAgg with
 | true =>
  have:∃cs,v=.agg cs:=by
   revert hf ha
   cases d.k<;>intro hf ha<;>first
    | (rw [hu,fits_arr hf] at hval;obtain ⟨cs,h,_⟩:=hval;exact ⟨cs,h⟩)
    | (obtain ⟨f,rfl,_⟩:=fits_st hf;rw [hu] at hval;obtain ⟨cs,h,_⟩:=hval;exact ⟨cs,h⟩)
    | (exfalso;cases ha;done)
  obtain ⟨cs,rfl⟩:=this
  refine ⟨.agg us,?_,d,hd,?_⟩
  ·have h4:RC0 W (All W) (.agg us) (.agg (Value.cells (.agg cs)).toList.toArray):=.agg h2
   simpa [Value.cells] using h4
  ·rw [ha]
   exact ⟨us,rfl,h3⟩
 | false =>
  have hna:∀cs,v≠.agg cs:=by
   rintro cs rfl
   rw [hu] at hval
   cases n with
   | zero=>simp [opn] at ho
   | succ n =>
    unfold opn at ho
    rw [hd] at ho
    simp only at ho
    revert hf ha ho
    cases d.k<;>intro hf ha ho<;>first
     | (rw [fits_bool hf] at hval hu;simp [Cell.okWide,Cell.ok,hu] at hval;done)
     | (rw [fits_int hf] at hval hu;simp [Cell.okWide,Cell.ok,hu] at hval;done)
     | (rw [fits_str hf] at hval hu;simp [Cell.okWide,Cell.ok,hu] at hval;done)
     | (rw [fits_sli hf] at hval hu;simp [Cell.okWide,Cell.ok,hu] at hval;done)
     | (exfalso;cases ho;done)
     | (exfalso;cases ha;done)
  have hcells:v.cells=#[v]:=by
   cases v<;>first|rfl|(exact absurd rfl (hna _))
  rw [hcells] at h2
  cases h2 with
  | cons h4 h5 =>
   cases h5
   rename_i u
   refine ⟨u,h4,d,hd,?_⟩
   rw [ha]
   exact h3
def opnAll (E:Env) (n:Nat):List Nat→Bool
 | []=>true
 | t::ts=>opn E n t&&opnAll E n ts
theorem open_args (hE:E.good P=true) {sp:Nat→Bool} {held:Bool} {n base:Nat}:∀{ts:List TypeId} {vs:List Value} {ds:List (DataW H)} {ps:List MemPlace},opnAll E n ts=true →
 (∀(j:Nat) (t:TypeId) (v:Value),ts[j]?=some t→vs[j]?=some v→Value.okWide P W .any base t v)→DataW.TrodAll enc P W 0 sp held ts vs ds ps→∃us,RCs W (All W) us vs∧VArgs E ts us
 | [],_,_,_,_,_,h=>by
  obtain ⟨rfl,rfl,rfl⟩:=trodAll_nil h
  exact ⟨[],.nil,.nil⟩
 | t::ts,_,_,_,ho,hval,h=>by
  obtain ⟨v,vs,d,ds,p,q,rfl,rfl,rfl,h1,h2⟩:=trodAll_cons h
  simp only [opnAll,Bool.and_eq_true] at ho
  have hd:∃d,ety E t=some d:=by
   cases n with
   | zero=>have:=ho.1;simp [opn] at this
   | succ n =>
    cases he:ety E t with
    | none=>have:=ho.1;simp [opn,he] at this
    | some d=>exact ⟨d,rfl⟩
  obtain ⟨dt,hd⟩:=hd
  obtain ⟨u,hu,hv⟩:=open_arg hE ho.1 hd (hval 0 t v rfl rfl) h1
  obtain ⟨us,hus,hvs⟩:=open_args hE ho.2 (fun j t v ht hv=>hval (j+1) t v (by simpa using ht) (by simpa using hv)) h2
  exact ⟨u::us,.cons hu hus,.cons hv hvs⟩
variable {C:Checked} {os:Os}
theorem law_walk {gl:List (Nat×List V)} {f:FuncId} {fn:Func} (hE:E.good C.prog=true) (n:Nat) (ho:opnAll E n fn.params.toList=true) (hsc:∀us,VArgs E fn.params.toList us→SC C.prog gl f us (.bool true))
 {W:World} {base:Nat} {args:Array Value} {ds:List (DataW H)} {ps:List MemPlace} (hg:GlobAt W (All W) gl)
 (hval:∀(j:Nat) (t:TypeId) (v:Value),fn.params[j]?=some t→args[j]?=some v→Value.okWide C.prog W .any base t v)
 (hA:DataW.TrodAll enc C.prog W 0 (fun _=>true) true fn.params.toList args.toList ds ps):Calls C.prog f args W fun e w'=>e=.returned (.bool true)∧Below W.heap.size W w':=by
 obtain ⟨us,h1,h2⟩:=open_args (E:=E) hE ho (fun j t v ht hv=>hval j t v (by simpa using ht) (by simpa using hv)) hA
 have:=law_calls (hsc us h2) W hg h1
 simpa using this
end
end Go.AM
namespace Go.AM
open Go Go.RowKit Go.ChangeShapes Go.WideShapes
def Sized (E:Env):List Nat→List V→Prop
 | t::ts,u::us=>(∀e sz bt z de s rows,ety E t=some ⟨.sli e,sz,bt,z⟩→ety E e=some de→u=.sl s rows→rows.length*de.bytes≤140737488355328)∧Sized E ts us
 | _,_=>True
section
variable {H:Type} {enc:TypeId×Value→H} {P:Program} {E:Env} {W:World}
variable {C:Checked} {os:Os}
end
end Go.AM
