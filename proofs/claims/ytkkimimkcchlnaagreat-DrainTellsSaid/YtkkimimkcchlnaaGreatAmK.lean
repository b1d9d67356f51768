/- Helper lemmas for the claim's theorem: an abstract machine over the model, proved sound; no condition beyond each lemma's own. -/
import Derived.Test.YtkkimimkcchlnaaGreatAmJ
set_option linter.unusedVariables false
set_option linter.unusedSimpArgs false
set_option linter.unnecessarySimpa false
set_option linter.unusedSectionVars false
namespace Go.AM
open Go Go.RowKit
variable {r:Bool} {P:Program} {E:Env} {gl:List (Nat×List V)}
def pid (j:Nat):Id:=[4294967295,j]
def magic:Id→Bool
 | a::_=>Nat.beq a 4294967295
 | []=>false
def hid (h:Option (Nat×Id)) (j:Nat):Id:=match h with
 | some (i,b)=>if i=j then b else pid j
 | none=>pid j
section
variable {κ α:Type}
def pmE (fk:κ→V) (h:Option (Nat×Id)):Nat→List (κ×α)→List (V×V)
 | _,[]=>[]
 | j,(k,_)::r=>(fk k,.ptr (hid h j) 0 0)::pmE fk h (j+1) r
def pmB (f:α→List V) (h:Option (Nat×Id)):Nat→List (κ×α)→List (Id×Obj)
 | _,[]=>[]
 | j,(_,v)::r=>if h.map (·.1)=some j then pmB f h (j+1) r else (pid j,.box (f v))::pmB f h (j+1) r
def pmo (M:Id) (fk:κ→V) (f:α→List V) (h:Option (Nat×Id)) (m:List (κ×α)):List (Id×Obj):=(M,.pmap (pmE fk h 0 m))::pmB f h 0 m
def mix [DecidableEq κ] (k:κ):List (κ×α)→Nat
 | []=>0
 | (x,_)::r=>if k=x then 0 else mix k r+1
theorem pid_not {o:Id} (h:magic o=false) (q:Nat):pid q≠o:=fun e=>by subst e;simp [magic,pid] at h
section
variable [DecidableEq κ]
end
inductive Tg (dr:Bool) (a b:Id) (t t':List (Id×Obj)):List (Id×Obj)→List (Id×Obj)→Prop
 | here:Tg dr a b t t' t t'
 | cons {o:Id} {x:Obj} {ob ob':List (Id×Obj)} (h1:swp a b o=o) (h2:x.ren a b=x) (r:Tg dr a b t t' ob ob'):Tg dr a b t t' ((o,x)::ob) ((o,x)::ob')
 | drop {o:Id} {x:Obj} {ob ob':List (Id×Obj)} (hd:dr=true) (h:o=b) (r:Tg dr a b t t' ob ob'):Tg dr a b t t' ((o,x)::ob) ob'
theorem swp_fix {a b o:Id} (hab:a≠b) (h:swp a b o=o):o≠a∧o≠b:=by
 rw [swp_def] at h
 constructor
 ·intro e
  rw [if_pos e] at h;exact hab (by rw [←e,h])
 ·intro e
  rw [if_neg (fun e2:o=a=>hab (by rw [←e2,e])),if_pos e] at h;exact hab (by rw [h,e])
theorem Tg.get {dr:Bool} {a b:Id} {t t' ob ob':List (Id×Obj)} (hab:a≠b) (h:Tg dr a b t t' ob ob') {o:Id} (ha:o≠a) (ht:oget (renO a b t) o=oget t' o):oget (renO a b ob) o=oget ob' o:=by
 induction h with
 | here=>exact ht
 | cons h1 h2 _ ih=>simp only [renO,h1,h2,oget_cons,ih]
 | drop _ e _ ih =>
  subst e
  simp only [renO,oget_cons]
  rw [if_neg,ih]
  rw [swp_def,if_neg (Ne.symm hab),if_pos rfl]
  exact Ne.symm ha
theorem Tg.at {dr:Bool} {a b:Id} {t t' ob ob':List (Id×Obj)} (hab:a≠b) (h:Tg dr a b t t' ob ob'):oget ob' a=oget t' a∧oget ob a=oget t a∧oget ob' b=oget t' b∧(dr=false→oget ob b=oget t b):=by
 induction h with
 | here=>exact ⟨rfl,rfl,rfl,fun _=>rfl⟩
 | cons h1 h2 _ ih=>simp only [oget_cons,if_neg (swp_fix hab h1).1,if_neg (swp_fix hab h1).2];exact ih
 | drop hd e _ ih =>
  subst e
  refine ⟨ih.1,?_,ih.2.2.1,fun h=>by rw [h] at hd;cases hd⟩
  rw [oget_cons,if_neg (Ne.symm hab)]
  exact ih.2.1
inductive Tt (t t':List (Id×Obj)):List (Id×Obj)→List (Id×Obj)→Prop
 | here:Tt t t' t t'
 | cons {p:Id×Obj} {ob ob':List (Id×Obj)} (r:Tt t t' ob ob'):Tt t t' (p::ob) (p::ob')
theorem Tt.get {t t' ob ob':List (Id×Obj)} (h:Tt t t' ob ob') {o:Id} (ht:oget t o=oget t' o):oget ob o=oget ob' o:=by
 induction h with
 | here=>exact ht
 | cons _ ih=>rw [show ∀(p:Id×Obj) r,oget (p::r) o=if p.1=o then some p.2 else oget r o from fun p r=>oget_cons p.1 p.2 r o,show ∀(p:Id×Obj) r,oget (p::r) o=if p.1=o then some p.2 else oget r o from fun p r=>oget_cons p.1 p.2 r o,ih]
inductive Tn (t:List (Id×Obj)):List (Id×Obj)→Prop
 | here:Tn t t
 | cons {o:Id} {x:Obj} {ob:List (Id×Obj)} (h:magic o=false) (r:Tn t ob):Tn t ((o,x)::ob)
theorem Tn.get {t ob:List (Id×Obj)} (h:Tn t ob) (q:Nat):oget ob (pid q)=oget t (pid q):=by
 induction h with
 | here=>rfl
 | cons h _ ih=>rw [oget_cons,if_neg (fun e=>pid_not h q e.symm)];exact ih
inductive Tf (k:Id) (t:List (Id×Obj)):List (Id×Obj)→Prop
 | here:Tf k t t
 | cons {o:Id} {x:Obj} {ob:List (Id×Obj)} (h:idEq o k=false) (r:Tf k t ob):Tf k t ((o,x)::ob)
theorem Tf.get {k:Id} {t ob:List (Id×Obj)} (h:Tf k t ob):oget ob k=oget t k:=by
 induction h with
 | here=>rfl
 | cons h _ ih=>simp only [oget,h];exact ih
section
variable {M:Id} {fk:κ→V} {f:α→List V} {h:Option (Nat×Id)} {m:List (κ×α)} {ob:List (Id×Obj)}
end
end
end Go.AM
namespace Go.AM
open Go Go.RowKit
variable {r:Bool} {P:Program} {E:Env} {gl:List (Nat×List V)} {κ α:Type} [DecidableEq κ]
theorem Sim.put {w0:World} {pr0 ow:Nat→Prop} {n d:Nat} {tm:List (Nat×V)} {ob:List (Id×Obj)} {out:List (Nat×List (Nat×V))} {pa:Id} {a:Act} {ao:List (Array Value)} {w:World} {B:BM} {pr:Nat→Prop}
 (q:Sim gl w0 pr0 ow ⟨n,tm,ob,out,pa⟩ a ao w B pr) {v:V} {c:Value} (hn:Nat.blt d n=true) (hc:RC w B pr v c):Sim gl w0 pr0 ow ⟨n,(d,v)::tm,ob,out,pa⟩ (a.put (some d) c) ao w B pr :=
 { q with tms:=q.tms.put (show d < n by simpa using hn) hc }
def mcase {β K:Type} (o:Option β) (a:K) (f:β→K):K:=match o with|none=>a|some v=>f v
def renOt (a b:Id):List (Id×Obj)→List (Id×Obj)
 | []=>[]
 | (o,x)::r=>match x with
  | .pmap es=>(o,.pmap es)::r
  | x=>(swp a b o,x.ren a b)::renOt a b r
def Obj.isPm:Obj→Bool
 | .pmap _=>true
 | _=>false
inductive Tp (t:List (Id×Obj)):List (Id×Obj)→Prop
 | here:Tp t t
 | cons {o:Id} {x:Obj} {ob:List (Id×Obj)} (h:x.isPm=false) (r:Tp t ob):Tp t ((o,x)::ob)
end Go.AM
namespace Go.AM
open Go Go.RowKit
variable {r:Bool} {P:Program} {E:Env} {gl:List (Nat×List V)}
structure Mk where
 i:Nat
 o:Oper
 d:Nat
 v:V
 nw:List (Id×Obj)
 dp:List Nat
def Mk.add (m:Mk) (σ:St):St:=⟨σ.n,(m.d,m.v)::σ.tm,m.nw++σ.ob,σ.out,σ.pa⟩
def mksAdd:List Mk→St→St
 | [],σ=>σ
 | m::r,σ=>mksAdd r (m.add σ)
def mksList:List Mk→Array Bool→Array Bool
 | [],a=>a
 | m::r,a=>mksList r (a.setIfInBounds m.i true)
structure MkOk (P:Program) (E:Env) (gl:List (Nat×List V)) (l:List Oper) (σ:St) (m:Mk):Prop where
 at_:l[m.i]?=some m.o
 gd:gd l σ.tm m.o=some true
 dst:m.o.dst=some m.d
 lt:Nat.blt m.d σ.n=true
 q:QEv P E gl σ.tm σ.ob (σ.pa++[m.d]) m.o.op m.v m.nw
 fr:fresh σ.ob m.nw=true
def MksOk (P:Program) (E:Env) (gl:List (Nat×List V)) (l:List Oper) (σ:St):List Mk→Prop
 | []=>True
 | m::r=>MkOk P E gl l σ m∧MksOk P E gl l σ r
def Mk.apB (a b:Mk):Bool:=!Nat.beq a.d b.d&&!Nat.beq a.i b.i&&fresh a.nw b.nw
def apAll:List Mk→Bool
 | []=>true
 | m::r=>r.all m.apB&&apAll r
structure Ap (a b:Mk):Prop where
 d:a.d≠b.d
 i:a.i≠b.i
 f:∀o,oget a.nw o≠none→oget b.nw o=none
theorem Ap.symm {a b:Mk} (h:Ap a b):Ap b a:=⟨Ne.symm h.d,Ne.symm h.i,fun o ho=>by
 cases ha:oget a.nw o with
 | none=>rfl
 | some x=>exact absurd (h.f o (by rw [ha];simp)) ho⟩
theorem fresh_iff {ob:List (Id×Obj)}:∀{nw:List (Id×Obj)},(∀k x,(k,x)∈nw→oget ob k=none)→fresh ob nw=true
 | [],_=>rfl
 | (k,x)::r,h=>by
  simp only [fresh,h k x (List.mem_cons_self ..)]
  exact fresh_iff fun k' x' h'=>h k' x' (List.mem_cons_of_mem _ h')
theorem oget_mem {k:Id} {x:Obj}:∀{nw:List (Id×Obj)},(k,x)∈nw→oget nw k≠none
 | (k',x')::r,h=>by
  rw [oget_cons]
  split
  ·simp
  ·rename_i hne
   rcases List.mem_cons.1 h with e|e
   ·injection e with e1 e2;exact absurd e1.symm hne
   ·exact oget_mem e
theorem fresh_mem {ob:List (Id×Obj)}:∀{nw:List (Id×Obj)},fresh ob nw=true→∀k x,(k,x)∈nw→oget ob k=none
 | (k',x')::r,hf,k,x,h=>by
  simp only [fresh] at hf
  cases ho:oget ob k' with
  | some y=>rw [ho] at hf;cases hf
  | none =>
   rw [ho] at hf
   rcases List.mem_cons.1 h with e|e
   ·injection e with e1 e2;rw [e1];exact ho
   ·exact fresh_mem hf k x e
def Mk.dep (m a:Mk):Bool:=m.dp.any (Nat.beq a.i)
def lkOk (l:List Oper) (ms:List Mk):Bool:=ms.all fun m=>ms.all fun a=>!(m.o.looksAt l.toArray).contains a.d||m.dep a
theorem MkOk.keep {l:List Oper} {σ:St} {a b:Mk} (ha:fresh σ.ob a.nw=true) (hb:MkOk P E gl l σ b) (h:Ap a b) (hl:a.d ∉ b.o.looksAt l.toArray):MkOk P E gl l (a.add σ) b:=by
 exact ⟨hb.at_,(gd_ne hl).trans hb.gd,hb.dst,hb.lt,hb.q.mv (ev_ne hl) (obLe_app ha),fresh_iff fun k x hk=>by
  show oget (a.nw++σ.ob) k=none
  rw [oget_append]
  cases hak:oget a.nw k with
  | some y=>exact absurd (h.f k (by rw [hak];simp)) (oget_mem hk)
  | none=>exact fresh_mem hb.fr k x hk⟩
theorem Eqv.add {σ τ:St} (h:Eqv σ τ) (m:Mk):Eqv (m.add σ) (m.add τ) :=
 ⟨h.n,fun t=>tget_cons h.tm t,fun o=>by show oget (m.nw++σ.ob) o=oget (m.nw++τ.ob) o;rw [oget_append,oget_append,h.ob o],h.out,h.pa⟩
theorem Eqv.adds:∀(ms:List Mk) {σ τ:St},Eqv σ τ→Eqv (mksAdd ms σ) (mksAdd ms τ)
 | [],_,_,h=>h
 | m::r,_,_,h=>Eqv.adds r (h.add m)
def ChainOk (P:Program) (E:Env) (gl:List (Nat×List V)) (l:List Oper) (σ:St) (all:List Mk):List Mk→Prop
 | []=>True
 | m::r=>MkOk P E gl l (mksAdd (all.filter m.dep) σ) m∧ChainOk P E gl l σ all r
def mkChk (l:List Oper):Nat→List Mk→Array Bool→Bool
 | 0,_,_=>true
 | n+1,ms,listed=>!(Region.ready .any l.toArray listed).isEmpty&&(Region.ready .any l.toArray listed).all (fun i=>ms.any fun m=>Nat.beq m.i i&&!ms.any m.dep)&&ms.all (fun m=>ms.any m.dep||mkChk l n (ms.filter fun x=>!Nat.beq x.i m.i) (listed.setIfInBounds m.i true))
theorem keeps {l:List Oper} {m:Mk}:∀(rest:List Mk) (σ:St),MkOk P E gl l σ m→(∀a∈rest,Ap a m∧a.d ∉ m.o.looksAt l.toArray)→(∀a∈rest,fresh σ.ob a.nw=true)→rest.Pairwise Ap→MkOk P E gl l (mksAdd rest σ) m
 | [],_,h,_,_,_=>h
 | a::r,σ,h,h1,h2,h3=>by
  have ha:=h2 a (List.mem_cons_self ..)
  have hp:=List.pairwise_cons.1 h3
  refine keeps r (a.add σ) (h.keep ha (h1 a (List.mem_cons_self ..)).1 (h1 a (List.mem_cons_self ..)).2) (fun x hx=>h1 x (List.mem_cons_of_mem _ hx)) (fun x hx=>fresh_iff fun k y hk=>?_) hp.2
  show oget (a.nw++σ.ob) k=none
  rw [oget_append]
  cases hak:oget a.nw k with
  | some z=>exact absurd ((hp.1 x hx).f k (by rw [hak];simp)) (oget_mem hk)
  | none=>exact fresh_mem (h2 x (List.mem_cons_of_mem _ hx)) k y hk
theorem MkOk.eqv {l:List Oper} {σ τ:St} {m:Mk} (h:MkOk P E gl l σ m) (he:Eqv σ τ):MkOk P E gl l τ m :=
 ⟨h.at_,(by rw [←h.gd];exact gd_mv fun _ _ d _ _=>(he.tm d).symm),h.dst,he.n▸h.lt,by rw [←he.pa];exact h.q.mv (fun x _=>ev_eqv (fun t=>(he.tm t).symm) x) (fun o x ho=>(he.ob o).symm.trans ho),by rw [←fresh_eqv he.ob];exact h.fr⟩
end Go.AM
