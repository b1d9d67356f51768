/- Helper lemmas for the claim's theorem: an abstract machine over the model, proved sound; no condition beyond each lemma's own. -/
import Derived.Test.YtmlcinmdkhmjhaaGreatAmJ
set_option linter.unusedVariables false
set_option linter.unusedSimpArgs false
set_option linter.unnecessarySimpa false
set_option linter.unusedSectionVars false
namespace Go.AM
open Go Go.RowKit
variable {r:Bool} {P:Program} {E:Env} {gl:List (Nat×List V)}
def pid (j:Nat):Id:=[4294967295,j]
def magic:Id→Bool
 | a::_=>Nat.beq a 4294967295
 | []=>false
def hid (h:Option (Nat×Id)) (j:Nat):Id:=match h with
 | some (i,b)=>if i=j then b else pid j
 | none=>pid j
section
variable {κ α:Type}
def pmE (fk:κ→V) (h:Option (Nat×Id)):Nat→List (κ×α)→List (V×V)
 | _,[]=>[]
 | j,(k,_)::r=>(fk k,.ptr (hid h j) 0 0)::pmE fk h (j+1) r
def pmB (f:α→List V) (h:Option (Nat×Id)):Nat→List (κ×α)→List (Id×Obj)
 | _,[]=>[]
 | j,(_,v)::r=>if h.map (·.1)=some j then pmB f h (j+1) r else (pid j,.box (f v))::pmB f h (j+1) r
def pmo (M:Id) (fk:κ→V) (f:α→List V) (h:Option (Nat×Id)) (m:List (κ×α)):List (Id×Obj):=(M,.pmap (pmE fk h 0 m))::pmB f h 0 m
def mix [DecidableEq κ] (k:κ):List (κ×α)→Nat
 | []=>0
 | (x,_)::r=>if k=x then 0 else mix k r+1
theorem pid_not {o:Id} (h:magic o=false) (q:Nat):pid q≠o:=fun e=>by subst e;simp [magic,pid] at h
section
variable [DecidableEq κ]
end
inductive Tg (dr:Bool) (a b:Id) (t t':List (Id×Obj)):List (Id×Obj)→List (Id×Obj)→Prop
 | here:Tg dr a b t t' t t'
 | cons {o:Id} {x:Obj} {ob ob':List (Id×Obj)} (h1:swp a b o=o) (h2:x.ren a b=x) (r:Tg dr a b t t' ob ob'):Tg dr a b t t' ((o,x)::ob) ((o,x)::ob')
 | drop {o:Id} {x:Obj} {ob ob':List (Id×Obj)} (hd:dr=true) (h:o=b) (r:Tg dr a b t t' ob ob'):Tg dr a b t t' ((o,x)::ob) ob'
theorem swp_fix {a b o:Id} (hab:a≠b) (h:swp a b o=o):o≠a∧o≠b:=by
 rw [swp_def] at h
 constructor
 ·intro e
  rw [if_pos e] at h;exact hab (by rw [←e,h])
 ·intro e
  rw [if_neg (fun e2:o=a=>hab (by rw [←e2,e])),if_pos e] at h;exact hab (by rw [h,e])
theorem Tg.get {dr:Bool} {a b:Id} {t t' ob ob':List (Id×Obj)} (hab:a≠b) (h:Tg dr a b t t' ob ob') {o:Id} (ha:o≠a) (ht:oget (renO a b t) o=oget t' o):oget (renO a b ob) o=oget ob' o:=by
 induction h with
 | here=>exact ht
 | cons h1 h2 _ ih=>simp only [renO,h1,h2,oget_cons,ih]
 | drop _ e _ ih =>
  subst e
  simp only [renO,oget_cons]
  rw [if_neg,ih]
  rw [swp_def,if_neg (Ne.symm hab),if_pos rfl]
  exact Ne.symm ha
theorem Tg.at {dr:Bool} {a b:Id} {t t' ob ob':List (Id×Obj)} (hab:a≠b) (h:Tg dr a b t t' ob ob'):oget ob' a=oget t' a∧oget ob a=oget t a∧oget ob' b=oget t' b∧(dr=false→oget ob b=oget t b):=by
 induction h with
 | here=>exact ⟨rfl,rfl,rfl,fun _=>rfl⟩
 | cons h1 h2 _ ih=>simp only [oget_cons,if_neg (swp_fix hab h1).1,if_neg (swp_fix hab h1).2];exact ih
 | drop hd e _ ih =>
  subst e
  refine ⟨ih.1,?_,ih.2.2.1,fun h=>by rw [h] at hd;cases hd⟩
  rw [oget_cons,if_neg (Ne.symm hab)]
  exact ih.2.1
inductive Tt (t t':List (Id×Obj)):List (Id×Obj)→List (Id×Obj)→Prop
 | here:Tt t t' t t'
 | cons {p:Id×Obj} {ob ob':List (Id×Obj)} (r:Tt t t' ob ob'):Tt t t' (p::ob) (p::ob')
theorem Tt.get {t t' ob ob':List (Id×Obj)} (h:Tt t t' ob ob') {o:Id} (ht:oget t o=oget t' o):oget ob o=oget ob' o:=by
 induction h with
 | here=>exact ht
 | cons _ ih=>rw [show ∀(p:Id×Obj) r,oget (p::r) o=if p.1=o then some p.2 else oget r o from fun p r=>oget_cons p.1 p.2 r o,show ∀(p:Id×Obj) r,oget (p::r) o=if p.1=o then some p.2 else oget r o from fun p r=>oget_cons p.1 p.2 r o,ih]
inductive Tn (t:List (Id×Obj)):List (Id×Obj)→Prop
 | here:Tn t t
 | cons {o:Id} {x:Obj} {ob:List (Id×Obj)} (h:magic o=false) (r:Tn t ob):Tn t ((o,x)::ob)
theorem Tn.get {t ob:List (Id×Obj)} (h:Tn t ob) (q:Nat):oget ob (pid q)=oget t (pid q):=by
 induction h with
 | here=>rfl
 | cons h _ ih=>rw [oget_cons,if_neg (fun e=>pid_not h q e.symm)];exact ih
inductive Tf (k:Id) (t:List (Id×Obj)):List (Id×Obj)→Prop
 | here:Tf k t t
 | cons {o:Id} {x:Obj} {ob:List (Id×Obj)} (h:idEq o k=false) (r:Tf k t ob):Tf k t ((o,x)::ob)
theorem Tf.get {k:Id} {t ob:List (Id×Obj)} (h:Tf k t ob):oget ob k=oget t k:=by
 induction h with
 | here=>rfl
 | cons h _ ih=>simp only [oget,h];exact ih
section
variable {M:Id} {fk:κ→V} {f:α→List V} {h:Option (Nat×Id)} {m:List (κ×α)} {ob:List (Id×Obj)}
end
end
end Go.AM
namespace Go.AM
open Go Go.RowKit
variable {r:Bool} {P:Program} {E:Env} {gl:List (Nat×List V)} {κ α:Type} [DecidableEq κ]
theorem Sim.put {w0:World} {pr0 ow:Nat→Prop} {n d:Nat} {tm:List (Nat×V)} {ob:List (Id×Obj)} {out:List (Nat×List (Nat×V))} {pa:Id} {a:Act} {ao:List (Array Value)} {w:World} {B:BM} {pr:Nat→Prop}
 (q:Sim gl w0 pr0 ow ⟨n,tm,ob,out,pa⟩ a ao w B pr) {v:V} {c:Value} (hn:Nat.blt d n=true) (hc:RC w B pr v c):Sim gl w0 pr0 ow ⟨n,(d,v)::tm,ob,out,pa⟩ (a.put (some d) c) ao w B pr :=
 { q with tms:=q.tms.put (show d < n by simpa using hn) hc }
def mcase {β K:Type} (o:Option β) (a:K) (f:β→K):K:=match o with|none=>a|some v=>f v
def renOt (a b:Id):List (Id×Obj)→List (Id×Obj)
 | []=>[]
 | (o,x)::r=>match x with
  | .pmap es=>(o,.pmap es)::r
  | x=>(swp a b o,x.ren a b)::renOt a b r
def Obj.isPm:Obj→Bool
 | .pmap _=>true
 | _=>false
inductive Tp (t:List (Id×Obj)):List (Id×Obj)→Prop
 | here:Tp t t
 | cons {o:Id} {x:Obj} {ob:List (Id×Obj)} (h:x.isPm=false) (r:Tp t ob):Tp t ((o,x)::ob)
end Go.AM
namespace Go.AM
open Go Go.RowKit
variable {r:Bool} {P:Program} {E:Env} {gl:List (Nat×List V)}
structure Mk where
 i:Nat
 o:Oper
 d:Nat
 v:V
 nw:List (Id×Obj)
 dp:List Nat
def Mk.add (m:Mk) (σ:St):St:=⟨σ.n,(m.d,m.v)::σ.tm,m.nw++σ.ob,σ.out,σ.pa⟩
def mksAdd:List Mk→St→St
 | [],σ=>σ
 | m::r,σ=>mksAdd r (m.add σ)
def mksList:List Mk→Array Bool→Array Bool
 | [],a=>a
 | m::r,a=>mksList r (a.setIfInBounds m.i true)
structure MkOk (P:Program) (E:Env) (gl:List (Nat×List V)) (l:List Oper) (σ:St) (m:Mk):Prop where
 at_:l[m.i]?=some m.o
 gd:gd l σ.tm m.o=some true
 dst:m.o.dst=some m.d
 lt:Nat.blt m.d σ.n=true
 q:QEv P E gl σ.tm σ.ob (σ.pa++[m.d]) m.o.op m.v m.nw
 fr:fresh σ.ob m.nw=true
def MksOk (P:Program) (E:Env) (gl:List (Nat×List V)) (l:List Oper) (σ:St):List Mk→Prop
 | []=>True
 | m::r=>MkOk P E gl l σ m∧MksOk P E gl l σ r
theorem MksOk.mem {l:List Oper} {σ:St} (ms:List Mk) (h:MksOk P E gl l σ ms):∀m∈ms,MkOk P E gl l σ m:=by
 induction ms with
 | nil=>intro m hm;cases hm
 | cons a r ih =>
  intro x hx
  rcases List.mem_cons.1 hx with e|hx
  ·subst e;exact h.1
  ·exact ih h.2 x hx
def Mk.apB (a b:Mk):Bool:=!Nat.beq a.d b.d&&!Nat.beq a.i b.i&&fresh a.nw b.nw
def apAll:List Mk→Bool
 | []=>true
 | m::r=>r.all m.apB&&apAll r
structure Ap (a b:Mk):Prop where
 d:a.d≠b.d
 i:a.i≠b.i
 f:∀o,oget a.nw o≠none→oget b.nw o=none
theorem Ap.symm {a b:Mk} (h:Ap a b):Ap b a:=⟨Ne.symm h.d,Ne.symm h.i,fun o ho=>by
 cases ha:oget a.nw o with
 | none=>rfl
 | some x=>exact absurd (h.f o (by rw [ha];simp)) ho⟩
theorem ap_of {a b:Mk} (h:a.apB b=true):Ap a b:=by
 unfold Mk.apB at h
 simp only [Bool.and_eq_true,Bool.not_eq_true'] at h
 obtain ⟨⟨h3,h4⟩,h5⟩:=h
 refine ⟨Nat.ne_of_beq_eq_false h3,Nat.ne_of_beq_eq_false h4,fun o ho=>?_⟩
 cases hb:oget b.nw o with
 | none=>rfl
 | some x=>exact absurd (fresh_get h5 o x hb) ho
theorem aps_of:∀{ms:List Mk},apAll ms=true→ms.Pairwise Ap
 | [],_=>.nil
 | m::r,h=>by
  simp only [apAll,Bool.and_eq_true,List.all_eq_true] at h
  exact .cons (fun x hx=>ap_of (h.1 x hx)) (aps_of h.2)
theorem fresh_iff {ob:List (Id×Obj)}:∀{nw:List (Id×Obj)},(∀k x,(k,x)∈nw→oget ob k=none)→fresh ob nw=true
 | [],_=>rfl
 | (k,x)::r,h=>by
  simp only [fresh,h k x (List.mem_cons_self ..)]
  exact fresh_iff fun k' x' h'=>h k' x' (List.mem_cons_of_mem _ h')
theorem oget_mem {k:Id} {x:Obj}:∀{nw:List (Id×Obj)},(k,x)∈nw→oget nw k≠none
 | (k',x')::r,h=>by
  rw [oget_cons]
  split
  ·simp
  ·rename_i hne
   rcases List.mem_cons.1 h with e|e
   ·injection e with e1 e2;exact absurd e1.symm hne
   ·exact oget_mem e
theorem fresh_mem {ob:List (Id×Obj)}:∀{nw:List (Id×Obj)},fresh ob nw=true→∀k x,(k,x)∈nw→oget ob k=none
 | (k',x')::r,hf,k,x,h=>by
  simp only [fresh] at hf
  cases ho:oget ob k' with
  | some y=>rw [ho] at hf;cases hf
  | none =>
   rw [ho] at hf
   rcases List.mem_cons.1 h with e|e
   ·injection e with e1 e2;rw [e1];exact ho
   ·exact fresh_mem hf k x e
def Mk.dep (m a:Mk):Bool:=m.dp.any (Nat.beq a.i)
def lkOk (l:List Oper) (ms:List Mk):Bool:=ms.all fun m=>ms.all fun a=>!(m.o.looksAt l.toArray).contains a.d||m.dep a
theorem lk_of {l:List Oper} {ms:List Mk} (h:lkOk l ms=true) {m a:Mk} (hm:m∈ms) (ha:a∈ms) (hd:m.dep a=false):a.d ∉ m.o.looksAt l.toArray:=fun hx=>by
 unfold lkOk at h
 rw [List.all_eq_true] at h
 have:=h m hm
 rw [List.all_eq_true] at this
 have:=this a ha
 rw [hd,List.contains_iff_mem.2 hx] at this
 cases this
theorem MkOk.keep {l:List Oper} {σ:St} {a b:Mk} (ha:fresh σ.ob a.nw=true) (hb:MkOk P E gl l σ b) (h:Ap a b) (hl:a.d ∉ b.o.looksAt l.toArray):MkOk P E gl l (a.add σ) b:=by
 exact ⟨hb.at_,(gd_ne hl).trans hb.gd,hb.dst,hb.lt,hb.q.mv (ev_ne hl) (obLe_app ha),fresh_iff fun k x hk=>by
  show oget (a.nw++σ.ob) k=none
  rw [oget_append]
  cases hak:oget a.nw k with
  | some y=>exact absurd (h.f k (by rw [hak];simp)) (oget_mem hk)
  | none=>exact fresh_mem hb.fr k x hk⟩
theorem Eqv.refl' (σ:St):Eqv σ σ:=⟨rfl,fun _=>rfl,fun _=>rfl,rfl,rfl⟩
theorem Eqv.add {σ τ:St} (h:Eqv σ τ) (m:Mk):Eqv (m.add σ) (m.add τ) :=
 ⟨h.n,fun t=>tget_cons h.tm t,fun o=>by show oget (m.nw++σ.ob) o=oget (m.nw++τ.ob) o;rw [oget_append,oget_append,h.ob o],h.out,h.pa⟩
theorem Eqv.adds:∀(ms:List Mk) {σ τ:St},Eqv σ τ→Eqv (mksAdd ms σ) (mksAdd ms τ)
 | [],_,_,h=>h
 | m::r,_,_,h=>Eqv.adds r (h.add m)
theorem Eqv.swap2 {a b:Mk} (h:Ap a b) (σ:St):Eqv (a.add (b.add σ)) (b.add (a.add σ)) :=
 ⟨rfl,fun t=>tget_swap h.d t,fun o=>by
  show oget (a.nw++(b.nw++σ.ob)) o=oget (b.nw++(a.nw++σ.ob)) o
  simp only [oget_append]
  cases ha:oget a.nw o with
  | none=>cases oget b.nw o<;>rfl
  | some x =>
   rw [h.f o (by rw [ha];simp)],rfl,rfl⟩
theorem mksAdd_app:∀(a b:List Mk) (σ:St),mksAdd (a++b) σ=mksAdd b (mksAdd a σ)
 | [],_,_=>rfl
 | m::a,b,σ=>mksAdd_app a b (m.add σ)
theorem mksList_app:∀(a b:List Mk) (arr:Array Bool),mksList (a++b) arr=mksList b (mksList a arr)
 | [],_,_=>rfl
 | m::a,b,arr=>mksList_app a b (arr.setIfInBounds m.i true)
theorem perm_eqv {a b:List Mk} (h:a.Perm b):a.Pairwise Ap→∀σ,Eqv (mksAdd a σ) (mksAdd b σ):=by
 induction h with
 | nil=>intro _ σ;exact .refl' σ
 | cons x _ ih=>intro hp σ;exact ih (List.pairwise_cons.1 hp).2 (x.add σ)
 | swap x y l =>
  intro hp σ
  have:=(List.pairwise_cons.1 hp).1 x (List.mem_cons_self ..)
  exact Eqv.adds l (Eqv.swap2 this.symm σ)
 | trans h1 h2 ih1 ih2=>intro hp σ;exact (ih1 hp σ).trans (ih2 ((h1.pairwise_iff (fun h=>h.symm)).1 hp) σ)
theorem perm_list {a b:List Mk} (h:a.Perm b):a.Pairwise Ap→∀arr,mksList a arr=mksList b arr:=by
 induction h with
 | nil=>intro _ _;rfl
 | cons x _ ih=>intro hp arr;exact ih (List.pairwise_cons.1 hp).2 _
 | swap x y l =>
  intro hp arr
  have:=(List.pairwise_cons.1 hp).1 x (List.mem_cons_self ..)
  show mksList l ((arr.setIfInBounds y.i true).setIfInBounds x.i true)=mksList l ((arr.setIfInBounds x.i true).setIfInBounds y.i true)
  rw [Array.setIfInBounds_comm _ _ this.i]
 | trans h1 h2 ih1 ih2=>intro hp arr;exact (ih1 hp arr).trans (ih2 ((h1.pairwise_iff (fun h=>h.symm)).1 hp) arr)
def ChainOk (P:Program) (E:Env) (gl:List (Nat×List V)) (l:List Oper) (σ:St) (all:List Mk):List Mk→Prop
 | []=>True
 | m::r=>MkOk P E gl l (mksAdd (all.filter m.dep) σ) m∧ChainOk P E gl l σ all r
theorem ChainOk.mem {l:List Oper} {σ:St} {all:List Mk} (ms:List Mk) (h:ChainOk P E gl l σ all ms):∀m∈ms,MkOk P E gl l (mksAdd (all.filter m.dep) σ) m:=by
 induction ms with
 | nil=>intro m hm;cases hm
 | cons a r ih =>
  intro x hx
  rcases List.mem_cons.1 hx with e|hx
  ·subst e;exact h.1
  ·exact ih h.2 x hx
def mkChk (l:List Oper):Nat→List Mk→Array Bool→Bool
 | 0,_,_=>true
 | n+1,ms,listed=>!(Region.ready .any l.toArray listed).isEmpty&&(Region.ready .any l.toArray listed).all (fun i=>ms.any fun m=>Nat.beq m.i i&&!ms.any m.dep)&&ms.all (fun m=>ms.any m.dep||mkChk l n (ms.filter fun x=>!Nat.beq x.i m.i) (listed.setIfInBounds m.i true))
theorem keeps {l:List Oper} {m:Mk}:∀(rest:List Mk) (σ:St),MkOk P E gl l σ m→(∀a∈rest,Ap a m∧a.d ∉ m.o.looksAt l.toArray)→(∀a∈rest,fresh σ.ob a.nw=true)→rest.Pairwise Ap→MkOk P E gl l (mksAdd rest σ) m
 | [],_,h,_,_,_=>h
 | a::r,σ,h,h1,h2,h3=>by
  have ha:=h2 a (List.mem_cons_self ..)
  have hp:=List.pairwise_cons.1 h3
  refine keeps r (a.add σ) (h.keep ha (h1 a (List.mem_cons_self ..)).1 (h1 a (List.mem_cons_self ..)).2) (fun x hx=>h1 x (List.mem_cons_of_mem _ hx)) (fun x hx=>fresh_iff fun k y hk=>?_) hp.2
  show oget (a.nw++σ.ob) k=none
  rw [oget_append]
  cases hak:oget a.nw k with
  | some z=>exact absurd ((hp.1 x hx).f k (by rw [hak];simp)) (oget_mem hk)
  | none=>exact fresh_mem (h2 x (List.mem_cons_of_mem _ hx)) k y hk
theorem MkOk.eqv {l:List Oper} {σ τ:St} {m:Mk} (h:MkOk P E gl l σ m) (he:Eqv σ τ):MkOk P E gl l τ m :=
 ⟨h.at_,(by rw [←h.gd];exact gd_mv fun _ _ d _ _=>(he.tm d).symm),h.dst,he.n▸h.lt,by rw [←he.pa];exact h.q.mv (fun x _=>ev_eqv (fun t=>(he.tm t).symm) x) (fun o x ho=>(he.ob o).symm.trans ho),by rw [←fresh_eqv he.ob];exact h.fr⟩
theorem adds_none:∀(D:List Mk) {σ:St} {k:Id},oget (mksAdd D σ).ob k=none→oget σ.ob k=none
 | [],_,_,h=>h
 | a::D,σ,k,h=>by
  have:=adds_none D h
  have h2:oget (a.nw++σ.ob) k=none:=this
  rw [oget_append] at h2
  cases hak:oget a.nw k with
  | some z=>rw [hak] at h2;cases h2
  | none=>rw [hak] at h2;exact h2
theorem fresh_adds {a:Mk}:∀(D:List Mk) {σ:St},(∀b∈D,Ap b a)→fresh σ.ob a.nw=true→fresh (mksAdd D σ).ob a.nw=true
 | [],_,_,h=>h
 | b::D,σ,hD,h=>fresh_adds D (σ:=b.add σ) (fun x hx=>hD x (List.mem_cons_of_mem _ hx)) (fresh_iff fun k y hk=>by
  show oget (b.nw++σ.ob) k=none
  rw [oget_append]
  cases hak:oget b.nw k with
  | some z=>exact absurd ((hD b (List.mem_cons_self ..)).f k (by rw [hak];simp)) (oget_mem hk)
  | none=>exact fresh_mem h k y hk)
theorem DAny.makersN {l:List Oper} {Z:List (Nat×Id)} {S:List Nat} {Q:St→Prop} {f:Nat} {all:List Mk} {σ:St} {listed:Array Bool} (hok:∀m∈all,MkOk P E gl l (mksAdd (all.filter m.dep) σ) m) (hp:all.Pairwise Ap) (hlk:lkOk l all=true)
 (H:DAny r P E gl l Z S Q f (mksList all listed) (mksAdd all σ)):∀(n:Nat) (E0 R:List Mk) (τ:St),(E0++R).Perm all→R.length=n→Eqv (mksAdd E0 σ) τ→mkChk l n R (mksList E0 listed)=true→DAny r P E gl l Z S Q (f+n) (mksList E0 listed) τ
 | 0,E0,R,τ,hpm,hn,he,_=>by
  have:R=[]:=List.length_eq_zero_iff.1 hn
  subst this
  rw [List.append_nil] at hpm
  have hpE:=(hpm.symm.pairwise_iff (fun h=>h.symm)).1 hp
  rw [perm_list hpm hpE]
  exact DAny.eqv ((perm_eqv hpm hpE σ).symm.trans he) H
 | n+1,E0,R,τ,hpm,hn,he,hc=>by
  simp only [mkChk,Bool.and_eq_true,List.all_eq_true] at hc
  obtain ⟨⟨hc1,hc2⟩,hc3⟩:=hc
  refine ⟨fun h0=>(by rw [h0] at hc1;simp at hc1),fun k hk=>?_⟩
  have hk2:=hc2 k hk
  rw [List.any_eq_true] at hk2
  obtain ⟨m,hm,hmk⟩:=hk2
  simp only [Bool.and_eq_true,Bool.not_eq_true'] at hmk
  obtain ⟨hmi,hmd⟩:=hmk
  have hmi:=Nat.eq_of_beq_eq_true hmi
  subst hmi
  have hpER:=(hpm.symm.pairwise_iff (fun h=>h.symm)).1 hp
  have hpa:=List.pairwise_append.1 hpER
  have hmall:m∈all:=hpm.subset (List.mem_append.2 (.inr hm))
  have hD:(all.filter m.dep).Perm (E0.filter m.dep):=by
   have h1:=(hpm.filter m.dep).symm
   rw [List.filter_append] at h1
   have h2:R.filter m.dep=[]:=by
    rw [List.filter_eq_nil_iff]
    intro x hx hd
    rw [List.any_eq_false] at hmd
    exact hmd x hx hd
   rwa [h2,List.append_nil] at h1
  have hm1:=(hok m hmall).eqv (perm_eqv hD (hp.sublist List.filter_sublist) σ)
  have hfr:∀a∈all,fresh σ.ob a.nw=true:=fun a ha=>fresh_iff fun k y hk=>adds_none _ (fresh_mem (hok a ha).fr k y hk)
  have hrest:∀a∈E0.filter (fun x=>!m.dep x),a∈E0∧m.dep a=false:=fun a ha=>by
   rw [List.mem_filter] at ha;exact ⟨ha.1,by simpa using ha.2⟩
  have hm2:MkOk P E gl l (mksAdd (E0.filter (fun x=>!m.dep x)) (mksAdd (E0.filter m.dep) σ)) m :=
   keeps _ _ hm1 (fun a ha=>⟨hpa.2.2 a (hrest a ha).1 m hm,lk_of hlk hmall (hpm.subset (List.mem_append.2 (.inl (hrest a ha).1))) (hrest a ha).2⟩) (fun a ha=>fresh_adds _ (fun b hb=>by
    have hb':=List.mem_filter.1 hb
    have ha':=hrest a ha
    have hne:b≠a:=fun e=>by rw [e] at hb';rw [ha'.2] at hb';cases hb'.2
    have:∀(L:List Mk),L.Pairwise Ap→b∈L→a∈L→Ap b a:=fun L hL hbL haL=>by
     induction L with
     | nil=>cases hbL
     | cons x L ih =>
      have hc:=List.pairwise_cons.1 hL
      rcases List.mem_cons.1 hbL with e1|e1
      ·rcases List.mem_cons.1 haL with e2|e2
       ·exact absurd (e1.trans e2.symm) hne
       ·subst e1;exact hc.1 a e2
      ·rcases List.mem_cons.1 haL with e2|e2
       ·subst e2;exact (hc.1 b e1).symm
       ·exact ih hc.2 e1 e2
    exact this E0 hpa.1 hb'.1 ha'.1) (hfr a (hpm.subset (List.mem_append.2 (.inl (hrest a ha).1))))) (hpa.1.sublist List.filter_sublist)
  rw [←mksAdd_app] at hm2
  have hperm2:(E0.filter m.dep++E0.filter (fun x=>!m.dep x)).Perm E0:=List.filter_append_perm _ _
  have hm3:=(hm2.eqv (perm_eqv hperm2 ((hperm2.symm.pairwise_iff (fun h=>h.symm)).1 hpa.1) σ)).eqv he
  obtain ⟨A,B,rfl⟩:=List.append_of_mem hm
  have hp2:=List.pairwise_append.1 hpa.2.1
  have hp3:=List.pairwise_cons.1 hp2.2.1
  have hfilt:(A++m::B).filter (fun x=>!Nat.beq x.i m.i)=A++B:=by
   rw [List.filter_append,List.filter_cons_of_neg (by simp [Nat.beq_refl])]
   congr 1
   ·rw [List.filter_eq_self];intro a ha
    have:=(hp2.2.2 a ha m (List.mem_cons_self ..)).i
    cases hb:Nat.beq a.i m.i with
    | true=>exact absurd (Nat.eq_of_beq_eq_true hb) this
    | false=>rfl
   ·rw [List.filter_eq_self];intro b hb
    have:=(hp3.1 b hb).i
    cases hb:Nat.beq b.i m.i with
    | true=>exact absurd (Nat.eq_of_beq_eq_true hb).symm this
    | false=>rfl
  have hc4:=hc3 m hm
  rw [hmd,Bool.false_or,hfilt] at hc4
  have hl2:(mksList E0 listed).setIfInBounds m.i true=mksList (E0++[m]) listed:=by rw [mksList_app];rfl
  obtain ⟨tn,ttm,tob,tout,tpa⟩:=τ
  refine ⟨m.o,hm3.at_,.quiet hm3.gd hm3.dst hm3.lt hm3.q hm3.fr ?_⟩
  rw [hl2] at hc4 ⊢
  refine DAny.makersN hok hp hlk H n (E0++[m]) (A++B) (m.add ⟨tn,ttm,tob,tout,tpa⟩) ?_ (by simp at hn ⊢;omega) (by rw [mksAdd_app];exact he.add m) hc4
  refine List.Perm.trans ?_ hpm
  rw [List.append_assoc]
  exact List.Perm.append_left E0 (by simpa using (List.perm_middle (a:=m) (l₁:=A) (l₂:=B)).symm)
theorem DAny.makers {l:List Oper} {Z:List (Nat×Id)} {S:List Nat} {Q:St→Prop} {f:Nat} (ms:List Mk) {listed:Array Bool} {σ:St} (hok:ChainOk P E gl l σ ms ms) (hp:(apAll ms&&lkOk l ms)=true) (hc:mkChk l ms.length ms listed=true)
 (H:DAny r P E gl l Z S Q f (mksList ms listed) (mksAdd ms σ)):DAny r P E gl l Z S Q (f+ms.length) listed σ :=
 DAny.makersN (hok.mem ms) (aps_of (Bool.and_eq_true _ _▸hp:apAll ms=true∧lkOk l ms=true).1) (Bool.and_eq_true _ _▸hp:apAll ms=true∧lkOk l ms=true).2 H ms.length [] ms σ (by simp) rfl (.refl' σ) hc
theorem QEv.allocM {tm:List (Nat×V)} {ob:List (Id×Obj)} {id:Id} {t:Nat} {d:Ty} {cells:List V} (ht:ety E t=some d) (hz:d.zero=cells) (hf:V.ones cells=true):QEv P E gl tm ob id (.alloc t) (.ptr id 0 0) [(id,.box cells)]:=by
 subst hz;exact .alloc ht hf
theorem QEv.makeMs {α:Type} {f:α→List V} {d:α} {tm:List (Nat×V)} {ob:List (Id×Obj)} {id:Id} {t:Nat} {l c:Operand} {e sz bt s:Nat} {z:List V} {de:Ty} {k1 k2:IntKind} {n m:Int}
 (ht:ety E t=some ⟨.sli e,sz,bt,z⟩) (he:ety E e=some de) (hl:ev tm l=.int k1 n) (hc:ev tm c=.int k2 m) (hg:0≤n∧n≤m∧m≤549755813888) (hb:Nat.ble de.bytes 256=true) (hz:f d=de.zero) (hf:V.free.frees de.zero=true) (hs:de.size=s) :
 QEv P E gl tm ob id (.makeSlice t l c) (.ref id 0 (rws f (List.replicate n.toNat d)).length) [(id,.rows s (rws f (List.replicate n.toNat d)) false)]:=by
 subst hs;exact .makeM ht he hl hc hg hb hz hf
end Go.AM
