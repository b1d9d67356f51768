/- Helper lemmas for the claim's theorem: an abstract machine over the model, proved sound; no condition beyond each lemma's own. -/
import Derived.Test.YtmlcinmdkhmjhaaGreatAmD
import Derived.Test.YtmlcinmdkhmjhaaGreatAmE
import Derived.Laws.Cover3
set_option linter.unusedVariables false
set_option linter.unusedSimpArgs false
set_option linter.unnecessarySimpa false
set_option linter.unusedSectionVars false
namespace Go.AM
section
variable {S K:Type}
def iterO (step:S→Option (S ⊕ K)):Nat→S→Option K
 | 0,_=>none
 | n+1,s=>match step s with
  | none=>none
  | some (.inl s')=>iterO step n s'
  | some (.inr k)=>some k
open Classical in
noncomputable def whileO (step:S→Option (S ⊕ K)) (s:S):Option K :=
 if h:∃n k,iterO step n s=some k then some (Classical.choose (Classical.choose_spec h)) else none
theorem iterO_succ {step:S→Option (S ⊕ K)}:∀{n:Nat} {s:S} {k:K},iterO step n s=some k→iterO step (n+1) s=some k
 | 0,s,k,h=>by simp [iterO] at h
 | n+1,s,k,h=>by
  rw [iterO] at h ⊢
  split at h
  ·cases h
  ·rename_i s' hs;exact iterO_succ h
  ·exact h
theorem iterO_le {step:S→Option (S ⊕ K)} {n m:Nat} {s:S} {k:K} (h:iterO step n s=some k) (hle:n≤m):iterO step m s=some k:=by
 induction hle with
 | refl=>exact h
 | step _ ih=>exact iterO_succ ih
theorem whileO_of {step:S→Option (S ⊕ K)} {n:Nat} {s:S} {k:K} (h:iterO step n s=some k):whileO step s=some k:=by
 have hex:∃n k,iterO step n s=some k:=⟨n,k,h⟩
 unfold whileO
 rw [dif_pos hex]
 have h0:=Classical.choose_spec (Classical.choose_spec hex)
 have h1:=iterO_le h (Nat.le_max_left n (Classical.choose hex))
 have h2:=iterO_le h0 (Nat.le_max_right n (Classical.choose hex))
 rw [h1] at h2
 exact h2.symm
theorem whileO_ex {step:S→Option (S ⊕ K)} {s:S} {k:K} (h:whileO step s=some k):∃n,iterO step n s=some k:=by
 unfold whileO at h
 split at h
 ·rename_i hex
  injection h with h
  exact ⟨_,h▸Classical.choose_spec (Classical.choose_spec hex)⟩
 ·cases h
theorem whileO_inl {step:S→Option (S ⊕ K)} {s s':S} (h:step s=some (.inl s')):whileO step s=whileO step s':=by
 apply Option.ext
 intro k
 constructor
 ·intro hk
  obtain ⟨n,hn⟩:=whileO_ex hk
  cases n with
  | zero=>simp [iterO] at hn
  | succ n=>rw [iterO,h] at hn;exact whileO_of hn
 ·intro hk
  obtain ⟨n,hn⟩:=whileO_ex hk
  exact whileO_of (n:=n+1) (by rw [iterO,h];exact hn)
theorem whileO_inr {step:S→Option (S ⊕ K)} {s:S} {k:K} (h:step s=some (.inr k)):whileO step s=some k :=
 whileO_of (n:=1) (by rw [iterO,h])
theorem whileO_none {step:S→Option (S ⊕ K)} {s:S} (h:step s=none):whileO step s=none:=by
 cases hw:whileO step s with
 | none=>rfl
 | some k =>
  obtain ⟨n,hn⟩:=whileO_ex hw
  cases n with
  | zero=>simp [iterO] at hn
  | succ n=>rw [iterO,h] at hn;cases hn
end
def inrO {S K:Type} (x:Option K):Option (S ⊕ K):=match x with|some k=>some (.inr k)|none=>none
def nextO {S K:Type} (s:S):Option (S ⊕ K):=some (.inl s)
def letO {α β:Type} (a:α) (f:α→β):β:=f a
def gt {α:Type} [Inhabited α] (xs:List α) (i:Int):α:=xs.getD i.toNat default
def st {α:Type} (xs:List α) (i:Int) (x:α):List α:=xs.set i.toNat x
def sub {α:Type} (xs:List α) (l h:Int):List α:=(xs.drop l.toNat).take (h.toNat - l.toNat)
abbrev w64 (n:Int):Int:=IntKind.i64.wrap n
abbrev wu8 (n:Int):Int:=IntKind.u8.wrap n
theorem inr_out {S K:Type} {x:Option K} {o:S ⊕ K} {ρ:K} (h:inrO x=some o) (hρ:∀k,o=.inr k→k=ρ):x=some ρ:=by
 unfold inrO at h
 split at h
 ·injection h with h;rw [hρ _ h.symm]
 ·cases h
theorem next_out {S K:Type} {s:S} {o:S ⊕ K} (h:nextO s=some o):o=.inl s:=(Option.some.inj h).symm
theorem okG {K:Type} {c:Prop} [Decidable c] {A:Option K} {ρ:K} {G:Prop} (h:(if c then A else none)=some ρ) (h1:c→A=some ρ→G):G:=by
 by_cases hc:c
 ·exact h1 hc (by rw [if_pos hc] at h;exact h)
 ·rw [if_neg hc] at h;cases h
theorem bindG {α K:Type} {e:Option α} {f:α→Option K} {ρ:K} {G:Prop} (h:e.bind f=some ρ) (h1:∀a,e=some a→f a=some ρ→G):G:=by
 cases e with
 | none=>cases h
 | some a=>exact h1 a rfl h
theorem letG {α K:Type} {a:α} {f:α→K} {ρ:K} {G:Prop} (h:letO a f=ρ) (h1:∀x,a=x→f x=ρ→G):G:=h1 a rfl h
end Go.AM
namespace Go.AM
open Go Go.RowKit
variable {r:Bool} {P:Program} {E:Env} {gl:List (Nat×List V)}
mutual
inductive Up (ob:List (Id×Obj)):V→V→Prop
 | refl (v:V):Up ob v v
 | undef (v:V):Up ob v .undef
 | nils (s:Nat):Up ob .nils (.sl s [])
 | emp (s:Nat):Up ob .emp (.sl s [])
 | nilref (o:Id):Up ob .nils (.ref o 0 0)
 | empref (o:Id):Up ob .emp (.ref o 0 0)
 | len {o:Id} {row n m:Nat} (h:n=m):Up ob (.ref o row n) (.ref o row m)
 | sl0ref (o:Id) (s:Nat):Up ob (.ref o 0 0) (.sl s [])
 | full {o:Id} {s len:Nat} {rs:List (List V)} (h:oget ob o=some (.rows s rs true)) (hl:len=rs.length):Up ob (.ref o 0 len) (.sl s rs)
 | part {o:Id} {s row len:Nat} {rs:List (List V)} (h:oget ob o=some (.rows s rs true)) (hl:row+len≤rs.length):Up ob (.ref o row len) (.sl s ((rs.drop row).take len))
 | row {o:Id} {s row off:Nat} {rs:List (List V)} (h:oget ob o=some (.rows s rs true)):Up ob (.ptr o row off) (.spt s rs row off)
 | agg {cs us:List V} (h:Ups ob cs us):Up ob (.agg cs) (.agg us)
 | tup {cs us:List V} (h:Ups ob cs us):Up ob (.tup cs) (.tup us)
 | fn {f:FuncId} {cs us:List V} (h:Ups ob cs us):Up ob (.fn f cs) (.fn f us)
inductive Ups (ob:List (Id×Obj)):List V→List V→Prop
 | nil:Ups ob [] []
 | refl (vs:List V):Ups ob vs vs
 | cons {v u:V} {vs us:List V} (h:Up ob v u) (t:Ups ob vs us):Ups ob (v::vs) (u::us)
end
mutual
theorem Up.rc {n:Nat} {tm:List (Nat×V)} {ob:List (Id×Obj)} {ts:Array Value} {w:World} {B:BM} {pr:Nat→Prop} (q:QSim gl n tm ob ts w B pr) :
 ∀{v u:V} {c:Value},Up ob v u→RC w B pr v c→RC w B pr u c
 | _,_,_,.refl _,h=>h
 | _,_,_,.undef _,h=>RC.undefs ..
 | _,_,_,.nils s,h=>by rw [h.nils_inv];exact .base (.sl0 ..)
 | _,_,_,.emp s,h=>by obtain ⟨a,rfl⟩:=h.emp_inv;exact .base (.sl0 ..)
 | _,_,_,.nilref o,h=>by rw [h.nils_inv];exact .ref0 ..
 | _,_,_,.empref o,h=>by obtain ⟨a,rfl⟩:=h.emp_inv;exact .ref0 ..
 | _,_,_,.len e,h=>e▸h
 | _,_,_,.sl0ref o s,h=>by
  rcases h.ref_inv with ⟨_,a,rfl⟩|⟨bd,cap,hB,_,hcap,rfl⟩
  ·exact .base (.sl0 ..)
  ·exact .base (.sl0 ..)
 | _,_,_,.full (rs:=rs) h hl,hc=>by
  rcases hc.ref_inv with ⟨h0,a,rfl⟩|⟨bd,cap,hB,_,hcap,rfl⟩
  ·have:rs=[]:=List.length_eq_zero_iff.1 (by omega)
   subst this
   exact .base (.sl0 ..)
  ·rcases q.obs _ _ h (by simp) with ⟨bd',hB',⟨hs,_,hp,_,_,hr⟩,_⟩|⟨hB',_⟩
   ·rw [hB] at hB';injection hB' with hB';subst hB'
    subst hl
    by_cases he:rs=[]
    ·subst he;exact .base (.sl0 ..)
    ·exact .base (by simpa using RC0.sl (w:=w) (pr:=pr) (b:=bd.b) (off:=bd.base) (cap:=cap) (hp.2 rfl) he hcap hr)
   ·rw [hB] at hB';cases hB'
 | _,_,_,.part (row:=row) (len:=len) (rs:=rs) h hl,hc=>by
  rcases hc.ref_inv with ⟨h0,a,rfl⟩|⟨bd,cap,hB,_,hcap,rfl⟩
  ·subst h0
   simp only [List.take_zero]
   exact .base (.sl0 ..)
  ·rcases q.obs _ _ h (by simp) with ⟨bd',hB',⟨hs,_,hp,_,_,hr⟩,_⟩|⟨hB',_⟩
   ·rw [hB] at hB';injection hB' with hB';subst hB'
    have hlen:((rs.drop row).take len).length=len:=by simp;omega
    by_cases he:len=0
    ·subst he;simp only [List.take_zero];exact .base (.sl0 ..)
    ·have:=RC0.sl (w:=w) (pr:=pr) (b:=bd.b) (off:=bd.base+row*bd.s) (s:=bd.s) (cap:=cap) (rows:=(rs.drop row).take len) (hp.2 rfl)
      (fun e=>by rw [e] at hlen;simp at hlen;omega) (by rw [hlen];exact hcap) (by rw [hs];exact (hr.drop row).take len)
     rw [hlen,hs] at this
     rw [hs]
     exact .base this
   ·rw [hB] at hB';cases hB'
 | _,_,_,.row h,hc=>by
  obtain ⟨bd,hB,rfl⟩:=hc.ptr_inv
  rcases q.obs _ _ h (by simp) with ⟨bd',hB',⟨hs,_,hp,_,_,hr⟩,_⟩|⟨hB',_⟩
  ·rw [hB] at hB';injection hB' with hB';subst hB'
   rw [hs]
   exact .base (.spt (hp.2 rfl) hr)
  ·rw [hB] at hB';cases hB'
 | _,_,_,.agg h,hc=>by obtain ⟨cs,rfl,hl⟩:=hc.agg_inv;exact .agg (Ups.rc q h hl)
 | _,_,_,.tup h,hc=>by obtain ⟨cs,rfl,hl⟩:=hc.tup_inv;exact .tup (Ups.rc q h hl)
 | _,_,_,.fn h,hc=>by obtain ⟨cs,rfl,hl⟩:=hc.fn_inv;exact .fn (Ups.rc q h hl)
theorem Ups.rc {n:Nat} {tm:List (Nat×V)} {ob:List (Id×Obj)} {ts:Array Value} {w:World} {B:BM} {pr:Nat→Prop} (q:QSim gl n tm ob ts w B pr) :
 ∀{vs us:List V} {cs:List Value},Ups ob vs us→RCl w B pr vs cs→RCl w B pr us cs
 | _,_,_,.nil,h=>h
 | _,_,_,.refl _,h=>h
 | _,_,_,.cons h t,.cons hc tc=>.cons (Up.rc q h hc) (Ups.rc q t tc)
end
theorem Ups.length {ob:List (Id×Obj)}:∀{vs us:List V},Ups ob vs us→vs.length=us.length
 | _,_,.nil=>rfl
 | _,_,.refl _=>rfl
 | _,_,.cons _ t=>by simp [Ups.length t]
def upT (ob:List (Id×Obj)):List (Nat×V)→List (Nat×V)→Prop
 | [],_=>True
 | (d,v)::r,tm=>Up ob (tget tm d) v∧upT ob r tm
inductive UpO (ob:List (Id×Obj)):Obj→Obj→Prop
 | refl (x:Obj):UpO ob x x
 | box {cs us:List V} (h:Ups ob cs us):UpO ob (.box cs) (.box us)
 | loop {n:Nat} {tm tm':List (Nat×V)} {ps:List Nat} {asg body:Code} {st:LoopState} {pe:Option Code} (h:upT ob tm' tm):UpO ob (.loop n tm ps asg body st pe) (.loop n tm' ps asg body st pe)
def upOb (ob:List (Id×Obj)):List (Id×Obj)→Prop
 | []=>True
 | (o,x)::r=>(∃y,oget ob o=some y∧UpO ob y x)∧upOb ob r
def upOut (ob:List (Id×Obj)):List (Nat×List (Nat×V))→List (Nat×List (Nat×V))→Prop
 | [],[]=>True
 | (n,tm)::r,(m,tm')::s=>n=m∧upT ob tm tm'∧upOut ob r s
 | _,_=>False
theorem upT_nil {ob:List (Id×Obj)} {tm:List (Nat×V)}:upT ob [] tm:=trivial
theorem upT_cons {ob:List (Id×Obj)} {d:Nat} {v:V} {r tm:List (Nat×V)} (h:Up ob (tget tm d) v) (t:upT ob r tm):upT ob ((d,v)::r) tm:=⟨h,t⟩
theorem upOb_nil {ob:List (Id×Obj)}:upOb ob []:=trivial
theorem upOb_cons {ob:List (Id×Obj)} {o:Id} {x y:Obj} {r:List (Id×Obj)} (h:oget ob o=some y) (k:UpO ob y x) (t:upOb ob r):upOb ob ((o,x)::r):=⟨⟨y,h,k⟩,t⟩
theorem upOut_nil {ob:List (Id×Obj)}:upOut ob [] []:=trivial
theorem upOut_cons {ob:List (Id×Obj)} {n m:Nat} {tm tm':List (Nat×V)} {r s:List (Nat×List (Nat×V))} (e:n=m) (h:upT ob tm tm') (t:upOut ob r s):upOut ob ((n,tm)::r) ((m,tm')::s):=⟨e,h,t⟩
theorem upT_rc {n:Nat} {tm:List (Nat×V)} {ob:List (Id×Obj)} {ts:Array Value} {w:World} {B:BM} {pr:Nat→Prop} (q:QSim gl n tm ob ts w B pr) {m:Nat} {tm1:List (Nat×V)} {ts1:Array Value} (ht:TMs w B pr m tm1 ts1) :
 ∀{l:List (Nat×V)},upT ob l tm1→TMs w B pr m l ts1
 | [],_=>⟨ht.1,fun t=>RC.undefs ..⟩
 | (d,v)::r,⟨h1,h2⟩=>by
  have ih:=upT_rc q ht h2
  refine ⟨ht.1,fun t=>?_⟩
  rw [tget_put]
  split
  ·rename_i e;subst e
   exact h1.rc q (ht.2 d)
  ·exact ih.2 t
theorem upOut_rc {n:Nat} {tm:List (Nat×V)} {ob:List (Id×Obj)} {ts:Array Value} {w:World} {B:BM} {pr:Nat→Prop} (q:QSim gl n tm ob ts w B pr) :
 ∀{l k:List (Nat×List (Nat×V))} {ao:List (Array Value)},upOut ob l k→Outs w B pr k ao→Outs w B pr l ao
 | [],[],_,_,h=>h
 | [],_::_,_,h,_=>h.elim
 | _::_,[],_,h,_=>h.elim
 | (n,tm)::r,(m,tm')::s,[],_,h=>h.elim
 | (n,tm)::r,(m,tm')::s,a::ao,⟨h0,h1,h2⟩,h=>⟨by subst h0;exact upT_rc q h.1 h1,upOut_rc q h2 h.2⟩
theorem upOb_get {ob:List (Id×Obj)}:∀{l:List (Id×Obj)},upOb ob l→∀o x,oget l o=some x→∃y,oget ob o=some y∧UpO ob y x
 | [],_,o,x,h=>by simp [oget] at h
 | (k,y)::r,h,o,x,hx=>by
  simp only [oget] at hx
  split at hx
  ·rename_i e
   injection hx with hx;subst hx
   rw [←idEq_iff.1 e];exact h.1
  ·exact upOb_get h.2 o x hx
structure CovU (σ τ:St):Prop where
 n:σ.n=τ.n
 pa:σ.pa=τ.pa
 tm:upT σ.ob τ.tm σ.tm
 ob:upOb σ.ob τ.ob
 out:upOut σ.ob τ.out σ.out
 cl:(tmWithin τ.ob τ.tm&&obWithin τ.ob τ.ob&&outWithin τ.ob τ.out)=true
theorem UpO.dead {ob:List (Id×Obj)} {y x:Obj} (h:UpO ob y x):y=.dead↔x=.dead:=by
 cases h with
 | refl=>rfl
 | box h=>simp
 | loop h=>simp
theorem Sim.covU {w0:World} {pr0 ow:Nat→Prop} {σ τ:St} {a:Act} {ao:List (Array Value)} {w:World} {B:BM} {pr:Nat→Prop} (h:Sim gl w0 pr0 ow σ a ao w B pr) (c:CovU σ τ):Sim gl w0 pr0 ow τ a ao w (only τ.ob B) pr:=by
 have hcl:=c.cl
 simp only [Bool.and_eq_true] at hcl
 obtain ⟨⟨c1,c2⟩,c3⟩:=hcl
 have q:=h.q
 have htm:=upT_rc q h.tms c.tm
 have key:∀o,alive τ.ob o=true→oget σ.ob o≠some .dead:=fun o ho=>by
  unfold alive at ho
  split at ho
  ·cases ho
  ·rename_i x hx hne
   obtain ⟨y,hy,hup⟩:=upOb_get c.ob o _ hne
   rw [hy]
   intro e
   injection e with e
   have:=hup.dead.1 e
   subst this
   simp at hx
  ·cases ho
 have hdf:Dfr w0 w τ.ob (only τ.ob B) pr a.defers:=h.dfr.to fun r m=>⟨m.here,m.lo,m.np,fun o bd hd hb=>by
  simp only [AM.only] at hb
  split at hb
  ·exact m.nb o bd (key o (by assumption)) hb
  ·cases hb⟩
 refine ⟨hdf,⟨by rw [h.tms.1,c.n],fun t=>RC.only (htm.2 t) (tmWithin_get c1 t)⟩,(upOut_rc q c.out h.outs).only c3,fun o ho=>?_,fun o x hx=>?_,fun o o' bd bd' a1 a2 h1 h2 h3=>?_,h.pra,h.prm,h.prn,h.glo,h.kp⟩
 ·simp only [AM.only,alive,ho]
 ·obtain ⟨y,hy,hup⟩:=upOb_get c.ob o x hx
  rcases h.obs o y hy with ⟨g1,g2⟩|⟨g1,g2⟩
  ·refine .inl ⟨hup.dead.1 g1,?_⟩
   have:=hup.dead.1 g1
   subst this
   simp only [AM.only,alive,hx];intro bd hb;cases hb
  ·have hnd:x≠.dead:=fun e=>g1 (hup.dead.2 e)
   refine .inr ⟨hnd,?_⟩
   have hal:alive τ.ob o=true:=by
    unfold alive
    rw [hx]
    cases x<;>first|rfl|exact absurd rfl hnd
   have hon:AM.only τ.ob B o=B o:=by simp only [AM.only,hal]
   rcases g2 with ⟨bd,q1,q2,q3⟩|⟨q1,q2⟩
   ·refine .inl ⟨bd,by rw [hon];exact q1,?_,q3⟩
    cases hup with
    | refl=>exact q2.only (obWithin_get c2 o x hx)
    | box hups =>
     rename_i cells us
     obtain ⟨p1,p2,p3,p4,p5,cs,p6,p7⟩:=q2
     have hlen:=hups.length
     exact ⟨by omega,p2,p3,p4,by rw [←hlen];exact p5,cs,p6,(hups.rc q p7).only (obWithin_get c2 o _ hx)⟩
    | loop hup =>
     obtain ⟨p1,p2,r,p3,p4,p5,p6,p7,p8,p9⟩:=q2
     exact ⟨p1,p2,r,p3,p4,p5,p6,p7,p8,(upT_rc q p9 hup).only (obWithin_get c2 o _ hx)⟩
   ·refine .inr ⟨by rw [hon];exact q1,?_⟩
    obtain ⟨s,fz,rfl⟩:=q2
    cases hup
    exact ⟨s,fz,rfl⟩
 ·simp only [AM.only] at h1 h2
  split at h1
  ·split at h2
   ·exact h.inj o o' bd bd' (key o (by assumption)) (key o' (by assumption)) h1 h2 h3
   ·cases h2
  ·cases h1
theorem Safe.covU {c:Code} {Q:Exit→St→Prop} {σ τ:St} (hc:CovU σ τ) (h:Safe r P gl c Q τ):Safe r P gl c Q σ :=
 fun w0 pr0 ow a ao w B pr hs=>h w0 pr0 ow a ao w _ pr (hs.covU hc)
theorem SafeOps.covU {l rest:List Oper} {Q:Exit→St→Prop} {σ τ:St} (hc:CovU σ τ) (h:SafeOps r P gl l rest Q τ):SafeOps r P gl l rest Q σ :=
 fun w0 pr0 ow a ao w B pr hs=>h w0 pr0 ow a ao w _ pr (hs.covU hc)
theorem Sim.freeze {w0:World} {pr0 ow:Nat→Prop} {n:Nat} {tm:List (Nat×V)} {ob:List (Id×Obj)} {out:List (Nat×List (Nat×V))} {pa:Id} {a:Act} {ao:List (Array Value)} {w:World} {B:BM} {pr:Nat→Prop}
 (h:Sim gl w0 pr0 ow ⟨n,tm,ob,out,pa⟩ a ao w B pr) {o:Id} {s:Nat} {rs:List (List V)} (ho:oget ob o=some (.rows s rs false)) :
 ∃pr',Sim gl w0 pr0 ow ⟨n,tm,(o,.rows s rs true)::ob,out,pa⟩ a ao w B pr':=by
 have hget:∀o',oget ((o,Obj.rows s rs true)::ob) o'=if idEq o o' then some (.rows s rs true) else oget ob o':=fun o'=>by
  simp only [oget]
  split<;>simp_all
 refine ⟨fun b=>pr b∨∃bd,B o=some bd∧bd.b=b,?_⟩
 have hl:Like pr w w:=Like.refl _ _
 have hmono:∀b,pr b→(pr b∨∃bd,B o=some bd∧bd.b=b):=fun b hb=>.inl hb
 have hobj:=h.obs o _ ho
 have hlo:∀bd,B o=some bd→bd.b < w.heap.size∧(ow bd.b∨w0.heap.size≤bd.b)∧¬pr bd.b:=fun bd hB=>by
  rcases hobj with ⟨e,_⟩|⟨_,⟨bd',g1,g2,g3⟩|⟨g1,_⟩⟩
  ·cases e
  ·rw [hB] at g1;injection g1 with g1;subst g1
   exact ⟨g2.lt,g3,fun hp=>by have:=g2.2.2.1.1 hp;cases this⟩
  ·rw [hB] at g1;cases g1
 have hdf:Dfr w0 w ((o,.rows s rs true)::ob) B (fun b=>pr b∨∃bd,B o=some bd∧bd.b=b) a.defers:=h.dfr.to fun r m=>⟨m.here,m.lo,fun hp=>by
  rcases hp with hp|⟨bd,q1,q2⟩
  ·exact m.np hp
  ·exact m.nb o bd (by simp only;rw [ho];simp) q1 q2,fun o' bd hd hb=>m.nb o' bd (by
  rw [hget] at hd
  split at hd
  ·rename_i he
   rw [←idEq_iff.1 he];simp only;rw [ho];simp
  ·exact hd) hb⟩
 refine ⟨hdf,h.tms.move hl hmono (fun _ _ h=>h),h.outs.move hl hmono (fun _ _ h=>h),fun o' h1=>?_,fun o' y h1=>?_,fun o1 o2 b1 b2 a1 a2 e1 e2 e3=>?_,fun b hb=>?_,fun b hb=>.inl (h.prm b hb),fun b hb=>?_,h.glo.move hl hmono,h.kp⟩
 ·simp only [hget] at h1
  split at h1
  ·cases h1
  ·exact h.obn o' h1
 ·simp only [hget] at h1
  split at h1
  ·rename_i he
   injection h1 with h1;subst h1
   have he:=idEq_iff.1 he
   subst he
   refine .inr ⟨by simp,?_⟩
   rcases hobj with ⟨e,_⟩|⟨_,⟨bd,g1,⟨p1,p2,p3,p4,p5,p6⟩,g3⟩|⟨g1,s',fz,g2⟩⟩
   ·cases e
   ·exact .inl ⟨bd,g1,⟨p1,p2,⟨fun _=>rfl,fun _=>.inr ⟨bd,g1,rfl⟩⟩,p4,fun e=>(by cases e),p6.move hl hmono rfl⟩,g3⟩
   ·cases g2
    exact .inr ⟨g1,_,_,rfl⟩
  ·rename_i he
   rcases h.obs o' y h1 with ⟨g1,g2⟩|⟨g1,⟨bd,g2,g3,g4⟩|g2⟩
   ·exact .inl ⟨g1,g2⟩
   ·refine .inr ⟨g1,.inl ⟨bd,g2,?_,g4⟩⟩
    have hne:∀bd',B o=some bd'→bd'.b≠bd.b:=fun bd' hB' e=>by
     have:=h.inj o o' bd' bd (by simp only;rw [ho];simp) (by simp only;rw [h1];intro e;injection e with e;exact g1 e) hB' g2 e
     rw [idEq_iff.2 this] at he
     exact he rfl
    cases y with
    | dead=>exact g3
    | map es =>
     obtain ⟨p1,p2,ms,clock,p3,p4,p5⟩:=g3
     exact ⟨fun hb=>hb.elim p1 fun⟨bd',q1,q2⟩=>hne bd' q1 q2,p2,ms,clock,p3,p4.move hl hmono,p5⟩
    | pmap es =>
     obtain ⟨p1,p2,ms,clock,p3,p4,p5⟩:=g3
     exact ⟨fun hb=>hb.elim p1 fun⟨bd',q1,q2⟩=>hne bd' q1 q2,p2,ms,clock,p3,p4.move hl hmono (fun _ _ h=>h),p5⟩
    | gmap es ms clock =>
     obtain ⟨p1,p2,p3,p4,p5⟩:=g3
     exact ⟨fun hb=>hb.elim p1 fun⟨bd',q1,q2⟩=>hne bd' q1 q2,p2,p3,p4.move hl hmono,p5⟩
    | iter src es ms clock since seen =>
     obtain ⟨p0,p1,p2,p3⟩:=g3
     refine ⟨p0,fun hb=>hb.elim p1 fun⟨bd',q1,q2⟩=>hne bd' q1 q2,p2,?_⟩
     rcases p3 with ⟨bm,h4,h5⟩|p3
     ·exact .inl ⟨bm,h4,h5.move hl hmono (fun _ _ h=>h)⟩
     ·exact .inr p3
    | loop n tm ps asg body st pend =>
     obtain ⟨p1,p2,r,p3,p4,p5,p6,p7,p8,p9⟩:=g3
     exact ⟨fun hb=>hb.elim p1 fun⟨bd',q1,q2⟩=>hne bd' q1 q2,p2,r,p3,p4,p5,p6,p7,p8,p9.move hl hmono (fun _ _ h=>h)⟩
    | box cells =>
     obtain ⟨p1,p2,p3,p4,p5,cs,p6,p7⟩:=g3
     exact ⟨p1,p2,fun hb=>hb.elim p3 fun⟨bd',q1,q2⟩=>hne bd' q1 q2,p4,p5,cs,p6,p7.move hl hmono (fun _ _ h=>h)⟩
    | rows s' rs' fz =>
     obtain ⟨p1,p2,p3,p4,p5,p6⟩:=g3
     exact ⟨p1,p2,⟨fun hb=>hb.elim p3.1 fun⟨bd',q1,q2⟩=>(hne bd' q1 q2).elim,fun e=>.inl (p3.2 e)⟩,p4,p5,p6.move hl hmono rfl⟩
   ·exact .inr ⟨g1,.inr g2⟩
 ·have key:∀o',oget ((o,Obj.rows s rs true)::ob) o'≠some .dead→oget ob o'≠some .dead:=fun o' h1 e=>by
   rw [hget] at h1
   split at h1
   ·rename_i he
    rw [←idEq_iff.1 he,ho] at e;cases e
   ·exact h1 e
  exact h.inj o1 o2 b1 b2 (key _ a1) (key _ a2) e1 e2 e3
 ·rcases hb with hb|⟨bd,hb,rfl⟩
  ·exact h.pra b hb
  ·exact (hlo bd hb).1
 ·rcases hb with hb|⟨bd,hb,rfl⟩
  ·exact h.prn b hb
  ·exact .inr (hlo bd hb).2.1
theorem Safe.freeze {c:Code} {Q:Exit→St→Prop} {n:Nat} {tm:List (Nat×V)} {ob:List (Id×Obj)} {out:List (Nat×List (Nat×V))} {pa:Id} (o:Id) {s:Nat} {rs:List (List V)} (ho:oget ob o=some (.rows s rs false))
 (h:Safe r P gl c Q ⟨n,tm,(o,.rows s rs true)::ob,out,pa⟩):Safe r P gl c Q ⟨n,tm,ob,out,pa⟩:=fun w0 pr0 ow a ao w B pr hs=>by
 obtain ⟨pr',hs'⟩:=hs.freeze ho
 exact h _ _ _ _ _ _ _ _ hs'
theorem SafeOps.freeze {l rest:List Oper} {Q:Exit→St→Prop} {n:Nat} {tm:List (Nat×V)} {ob:List (Id×Obj)} {out:List (Nat×List (Nat×V))} {pa:Id} (o:Id) {s:Nat} {rs:List (List V)} (ho:oget ob o=some (.rows s rs false))
 (h:SafeOps r P gl l rest Q ⟨n,tm,(o,.rows s rs true)::ob,out,pa⟩):SafeOps r P gl l rest Q ⟨n,tm,ob,out,pa⟩:=fun w0 pr0 ow a ao w B pr hs=>by
 obtain ⟨pr',hs'⟩:=hs.freeze ho
 exact h _ _ _ _ _ _ _ _ hs'
theorem SafeOps.see {l rest:List Oper} {Q:Exit→St→Prop} {n:Nat} {tm:List (Nat×V)} {ob:List (Id×Obj)} {out:List (Nat×List (Nat×V))} {pa:Id} (d:Nat) {u v:V} (hv:tget tm d=v) (hu:Up ob v u)
 (h:SafeOps r P gl l rest Q ⟨n,(d,u)::tm,ob,out,pa⟩):SafeOps r P gl l rest Q ⟨n,tm,ob,out,pa⟩:=fun w0 pr0 ow a ao w B pr hs=>by
 refine h w0 pr0 ow a ao w B pr { hs with tms:=⟨hs.tms.1,fun t=>?_⟩ }
 rw [tget_put]
 split
 ·rename_i e;subst e
  have:=hs.tms.2 d
  simp only at this
  rw [hv] at this
  exact hu.rc hs.q this
 ·exact hs.tms.2 t
theorem SafeOps.empty {l rest:List Oper} {Q:Exit→St→Prop} {n:Nat} {tm:List (Nat×V)} {ob:List (Id×Obj)} {out:List (Nat×List (Nat×V))} {pa:Id} (o:Id) (s:Nat) (ho:oget ob o=none)
 (h:SafeOps r P gl l rest Q ⟨n,tm,(o,.rows s [] false)::ob,out,pa⟩):SafeOps r P gl l rest Q ⟨n,tm,ob,out,pa⟩:=fun w0 pr0 ow a ao w B pr hs=>h _ _ _ _ _ _ _ _ (hs.empty ho s)
theorem Safe.empty {c:Code} {Q:Exit→St→Prop} {n:Nat} {tm:List (Nat×V)} {ob:List (Id×Obj)} {out:List (Nat×List (Nat×V))} {pa:Id} (o:Id) (s:Nat) (ho:oget ob o=none)
 (h:Safe r P gl c Q ⟨n,tm,(o,.rows s [] false)::ob,out,pa⟩):Safe r P gl c Q ⟨n,tm,ob,out,pa⟩:=fun w0 pr0 ow a ao w B pr hs=>h _ _ _ _ _ _ _ _ (hs.empty ho s)
end Go.AM
namespace Go.AM
open Go Go.RowKit
variable {r:Bool} {P:Program} {E:Env} {gl:List (Nat×List V)}
def swp (a b o:Id):Id:=match idEq o a with|true=>b|false=>match idEq o b with|true=>a|false=>o
theorem swp_def (a b o:Id):swp a b o=if o=a then b else if o=b then a else o:=by
 unfold swp
 cases h:idEq o a with
 | true=>rw [if_pos (idEq_iff.1 h)]
 | false =>
  rw [if_neg (fun e=>by rw [idEq_iff.2 e] at h;cases h)]
  cases h2:idEq o b with
  | true=>rw [if_pos (idEq_iff.1 h2)]
  | false=>rw [if_neg (fun e=>by rw [idEq_iff.2 e] at h2;cases h2)]
theorem swp_swp (a b o:Id):swp a b (swp a b o)=o:=by
 simp only [swp_def]
 by_cases h1:o=a
 ·subst h1
  by_cases h2:b=o<;>simp [h2]
 ·by_cases h2:o=b
  ·subst h2;simp [h1]
  ·simp [h1,h2]
theorem swp_inj {a b o p:Id} (h:swp a b o=swp a b p):o=p:=by rw [←swp_swp a b o,h,swp_swp]
mutual
def V.ren (a b:Id):V→V
 | .ref o row len=>.ref (swp a b o) row len
 | .bref o off s len=>.bref (swp a b o) off s len
 | .ptr o row off=>.ptr (swp a b o) row off
 | .mapr o=>.mapr (swp a b o)
 | .yld o=>.yld (swp a b o)
 | .itr o=>.itr (swp a b o)
 | .agg cs=>.agg (rens a b cs)
 | .tup cs=>.tup (rens a b cs)
 | .fn f cs=>.fn f (rens a b cs)
 | v=>v
def rens (a b:Id):List V→List V
 | []=>[]
 | v::r=>v.ren a b::rens a b r
end
mutual
theorem RC0.ren {w:World} {pr:Nat→Prop} (a b:Id):∀{v:V} {c:Value},RC0 w pr v c→RC0 w pr (v.ren a b) c
 | _,_,.agg h=>by simp only [V.ren];exact .agg (RCs.ren a b h)
 | _,_,.tup h=>by simp only [V.ren];exact .tup (RCs.ren a b h)
 | _,_,.fn h=>by simp only [V.ren];exact .fn (RCs.ren a b h)
 | _,_,.undef c=>by simp only [V.ren];exact .undef c
 | _,_,.int k n=>by simp only [V.ren];exact .int k n
 | _,_,.bool x=>by simp only [V.ren];exact .bool x
 | _,_,.str s=>by simp only [V.ren];exact .str s
 | _,_,.nils=>by simp only [V.ren];exact .nils
 | _,_,.emp x=>by simp only [V.ren];exact .emp x
 | _,_,.nilp=>by simp only [V.ren];exact .nilp
 | _,_,.nilf=>by simp only [V.ren];exact .nilf
 | _,_,.nilm=>by simp only [V.ren];exact .nilm
 | _,_,.sl0 s x cap=>by simp only [V.ren];exact .sl0 s x cap
 | _,_,.sl hp hn hc h=>by simp only [V.ren];exact .sl hp hn hc h
 | _,_,.gptr g off=>by simp only [V.ren];exact .gptr g off
 | _,_,.spt hp h=>by simp only [V.ren];exact .spt hp h
 | _,_,.mp hp hb hst hk hv=>by simp only [V.ren];exact .mp hp hb hst hk hv
 | _,_,.mp0=>by simp only [V.ren];exact .mp0
theorem RCs.ren {w:World} {pr:Nat→Prop} (a b:Id):∀{vs:List V} {cs:List Value},RCs w pr vs cs→RCs w pr (rens a b vs) cs
 | _,_,.nil=>by simp only [rens];exact .nil
 | _,_,.cons h t=>by simp only [rens];exact .cons (RC0.ren a b h) (RCs.ren a b t)
end
def renB (a b:Id) (B:BM):BM:=fun o=>B (swp a b o)
theorem renB_some {a b o:Id} {B:BM} {bd:Bd} (h:B o=some bd):renB a b B (swp a b o)=some bd:=by simp only [renB,swp_swp];exact h
mutual
theorem RC.ren {w:World} {B:BM} {pr:Nat→Prop} (a b:Id):∀{v:V} {c:Value},RC w B pr v c→RC w (renB a b B) pr (v.ren a b) c
 | _,_,.base h=>.base (h.ren a b)
 | _,_,.ref ho hr hc=>by simp only [V.ren];exact .ref (renB_some ho) hr hc
 | _,_,.ref0 o row x=>by simp only [V.ren];exact .ref0 ..
 | _,_,.bref ho hr hc=>by simp only [V.ren];exact .bref (renB_some ho) hr hc
 | _,_,.ptr ho=>by simp only [V.ren];exact .ptr (renB_some ho)
 | _,_,.mapr ho=>by simp only [V.ren];exact .mapr (renB_some ho)
 | _,_,.yld ho=>by simp only [V.ren];exact .yld (renB_some ho)
 | _,_,.itr ho h0=>by simp only [V.ren];exact .itr (renB_some ho) h0
 | _,_,.agg h=>by simp only [V.ren];exact .agg (RCl.ren a b h)
 | _,_,.tup h=>by simp only [V.ren];exact .tup (RCl.ren a b h)
 | _,_,.fn h=>by simp only [V.ren];exact .fn (RCl.ren a b h)
theorem RCl.ren {w:World} {B:BM} {pr:Nat→Prop} (a b:Id):∀{vs:List V} {cs:List Value},RCl w B pr vs cs→RCl w (renB a b B) pr (rens a b vs) cs
 | _,_,.nil=>by simp only [rens];exact .nil
 | _,_,.cons h t=>by simp only [rens];exact .cons (RC.ren a b h) (RCl.ren a b t)
end
theorem rens_length (a b:Id):∀vs:List V,(rens a b vs).length=vs.length
 | []=>rfl
 | _::r=>by simp [rens,rens_length a b r]
def renT (a b:Id):List (Nat×V)→List (Nat×V)
 | []=>[]
 | (d,v)::r=>(d,v.ren a b)::renT a b r
def renP (a b:Id):List (V×V)→List (V×V)
 | []=>[]
 | (k,v)::r=>(k,v.ren a b)::renP a b r
def Obj.ren (a b:Id):Obj→Obj
 | .box cs=>.box (rens a b cs)
 | .iter (some m) es ms clock since seen=>.iter (some (swp a b m)) es ms clock since seen
 | .loop n tm ps asg body st pend=>.loop n (renT a b tm) ps asg body st pend
 | .pmap es=>.pmap (renP a b es)
 | x=>x
def renO (a b:Id):List (Id×Obj)→List (Id×Obj)
 | []=>[]
 | (o,x)::r=>(swp a b o,x.ren a b)::renO a b r
def renOut (a b:Id):List (Nat×List (Nat×V))→List (Nat×List (Nat×V))
 | []=>[]
 | (n,tm)::r=>(n,renT a b tm)::renOut a b r
theorem renT_get (a b:Id):∀(tm:List (Nat×V)) (t:Nat),tget (renT a b tm) t=(tget tm t).ren a b
 | [],t=>by simp [renT,tget,V.ren]
 | (d,v)::r,t=>by
  simp only [renT,tget_put,renT_get a b r t]
  split<;>rfl
theorem oget_cons (k:Id) (x:Obj) (r:List (Id×Obj)) (o:Id):oget ((k,x)::r) o=if k=o then some x else oget r o:=by
 simp only [oget]
 cases h:idEq k o with
 | true=>rw [if_pos (idEq_iff.1 h)]
 | false=>rw [if_neg (fun e=>by rw [idEq_iff.2 e] at h;cases h)]
theorem renO_get (a b:Id):∀(ob:List (Id×Obj)) (o:Id),oget (renO a b ob) o=(oget ob (swp a b o)).map (Obj.ren a b)
 | [],o=>rfl
 | (k,x)::r,o=>by
  simp only [renO,oget_cons,renO_get a b r o]
  by_cases h:k=swp a b o
  ·subst h;simp [swp_swp]
  ·rw [if_neg h,if_neg (fun e=>h (by rw [←e,swp_swp]))]
theorem Outs.ren {w:World} {B:BM} {pr:Nat→Prop} (a b:Id):∀{out:List (Nat×List (Nat×V))} {ao:List (Array Value)},Outs w B pr out ao→Outs w (renB a b B) pr (renOut a b out) ao
 | [],[],h=>h
 | [],_::_,h=>h.elim
 | _::_,[],h=>h.elim
 | (n,tm)::r,x::s,h=>⟨⟨h.1.1,fun t=>by rw [renT_get];exact (h.1.2 t).ren a b⟩,Outs.ren a b h.2⟩
theorem RCp.ren {w:World} {B:BM} {pr:Nat→Prop} (a b:Id):∀{es:List (V×V)} {ms:List MapEntry},RCp w B pr es ms→RCp w (renB a b B) pr (renP a b es) ms
 | [],[],h=>h
 | [],_::_,h=>h.elim
 | (_,_)::_,[],h=>h.elim
 | (_,_)::_,_::_,h=>⟨h.1,h.2.1.ren a b,RCp.ren a b h.2.2⟩
theorem ObjAt.ren {w:World} {B:BM} {pr:Nat→Prop} {bd:Bd} {x:Obj} (a b:Id) (h:ObjAt w B pr bd x):ObjAt w (renB a b B) pr bd (x.ren a b):=by
 cases x with
 | dead=>exact h
 | map _=>exact h
 | gmap _ _ _=>exact h
 | pmap es =>
  obtain ⟨h1,h2,ms,clock,h3,h4,h5⟩:=h
  exact ⟨h1,h2,ms,clock,h3,h4.ren a b,h5⟩
 | rows s rs fz=>exact h
 | box cells =>
  obtain ⟨p1,p2,p3,p4,p5,cs,p6,p7⟩:=h
  exact ⟨by rw [rens_length];exact p1,p2,p3,p4,by rw [rens_length];exact p5,cs,p6,p7.ren a b⟩
 | iter src es ms clock since seen =>
  cases src with
  | none =>
   obtain ⟨h0,h1,h2,h3⟩:=h
   exact ⟨h0,h1,h2,h3⟩
  | some m =>
   obtain ⟨h0,h1,h2,h3⟩:=h
   refine ⟨h0,h1,h2,?_⟩
   rcases h3 with ⟨bm,h4,bd',q1,q2⟩|⟨e,_⟩
   ·exact .inl ⟨bm,h4,bd',renB_some q1,q2⟩
   ·cases e
 | loop n tm ps asg body st pend =>
  obtain ⟨h1,h2,r,h3,h4,h5,h6,h7,h8,h9⟩:=h
  exact ⟨h1,h2,r,h3,h4,h5,h6,h7,h8,h9.1,fun t=>by rw [renT_get];exact (h9.2 t).ren a b⟩
theorem Sim.ren {w0:World} {pr0 ow:Nat→Prop} {n:Nat} {tm:List (Nat×V)} {ob:List (Id×Obj)} {out:List (Nat×List (Nat×V))} {pa:Id} {act:Act} {ao:List (Array Value)} {w:World} {B:BM} {pr:Nat→Prop}
 (h:Sim gl w0 pr0 ow ⟨n,tm,ob,out,pa⟩ act ao w B pr) (a b:Id):Sim gl w0 pr0 ow ⟨n,renT a b tm,renO a b ob,renOut a b out,pa⟩ act ao w (renB a b B) pr:=by
 have key:∀o,oget (renO a b ob) o≠some .dead→oget ob (swp a b o)≠some .dead:=fun o ho e=>ho (by rw [renO_get,e];rfl)
 have hdf:Dfr w0 w (renO a b ob) (renB a b B) pr act.defers:=h.dfr.to fun r m=>⟨m.here,m.lo,m.np,fun o bd hd hb=>m.nb _ bd (key o hd) hb⟩
 refine ⟨hdf,⟨h.tms.1,fun t=>by simp only [renT_get];exact (h.tms.2 t).ren a b⟩,h.outs.ren a b,fun o ho=>?_,fun o x hx=>?_,fun o o' bd bd' a1 a2 h1 h2 h3=>?_,h.pra,h.prm,h.prn,h.glo,h.kp⟩
 ·simp only [renO_get] at ho
  exact h.obn _ (by simpa using ho)
 ·simp only [renO_get] at hx
  cases hy:oget ob (swp a b o) with
  | none=>rw [hy] at hx;cases hx
  | some y =>
   rw [hy] at hx
   simp only [Option.map_some,Option.some.injEq] at hx
   subst hx
   rcases h.obs _ y hy with ⟨g1,g2⟩|⟨g1,g2⟩
   ·subst g1;exact .inl ⟨rfl,g2⟩
   ·refine .inr ⟨fun e=>g1 (by cases y<;>first|rfl|cases e|(rename_i src _ _ _ _ _;cases src<;>cases e)),?_⟩
    rcases g2 with ⟨bd,q1,q2,q3⟩|⟨q1,s,fz,rfl⟩
    ·exact .inl ⟨bd,q1,q2.ren a b,q3⟩
    ·exact .inr ⟨q1,s,fz,rfl⟩
 ·exact swp_inj (h.inj _ _ bd bd' (key o a1) (key o' a2) h1 h2 h3)
theorem Safe.ren {c:Code} {Q:Exit→St→Prop} {n:Nat} {tm:List (Nat×V)} {ob:List (Id×Obj)} {out:List (Nat×List (Nat×V))} {pa:Id} (a b:Id)
 (h:Safe r P gl c Q ⟨n,renT a b tm,renO a b ob,renOut a b out,pa⟩):Safe r P gl c Q ⟨n,tm,ob,out,pa⟩:=fun w0 pr0 ow act ao w B pr hs=>h _ _ _ _ _ _ _ _ (hs.ren a b)
theorem SafeOps.ren {l rest:List Oper} {Q:Exit→St→Prop} {n:Nat} {tm:List (Nat×V)} {ob:List (Id×Obj)} {out:List (Nat×List (Nat×V))} {pa:Id} (a b:Id)
 (h:SafeOps r P gl l rest Q ⟨n,renT a b tm,renO a b ob,renOut a b out,pa⟩):SafeOps r P gl l rest Q ⟨n,tm,ob,out,pa⟩:=fun w0 pr0 ow act ao w B pr hs=>h _ _ _ _ _ _ _ _ (hs.ren a b)
inductive Gets (gl:List (Nat×List V)):St→St→Prop
 | cov {σ τ:St} (h:CovU σ τ):Gets gl σ τ
 | freeze {n:Nat} {tm:List (Nat×V)} {ob:List (Id×Obj)} {out:List (Nat×List (Nat×V))} {pa:Id} {τ:St} (o:Id) {s:Nat} {rs:List (List V)} (ho:oget ob o=some (.rows s rs false))
  (h:Gets gl ⟨n,tm,(o,.rows s rs true)::ob,out,pa⟩ τ):Gets gl ⟨n,tm,ob,out,pa⟩ τ
 | empty {n:Nat} {tm:List (Nat×V)} {ob:List (Id×Obj)} {out:List (Nat×List (Nat×V))} {pa:Id} {τ:St} (o:Id) (s:Nat) (ho:oget ob o=none)
  (h:Gets gl ⟨n,tm,(o,.rows s [] false)::ob,out,pa⟩ τ):Gets gl ⟨n,tm,ob,out,pa⟩ τ
 | ren {n:Nat} {tm:List (Nat×V)} {ob:List (Id×Obj)} {out:List (Nat×List (Nat×V))} {pa:Id} {τ:St} (a b:Id)
  (h:Gets gl ⟨n,renT a b tm,renO a b ob,renOut a b out,pa⟩ τ):Gets gl ⟨n,tm,ob,out,pa⟩ τ
 | eqv {σ σ' τ:St} (e:Eqv σ σ') (h:Gets gl σ' τ):Gets gl σ τ
theorem Gets.sim {σ τ:St} (h:Gets gl σ τ) {w0:World} {pr0 ow:Nat→Prop} {a:Act} {ao:List (Array Value)} {w:World}:∀{B:BM} {pr:Nat→Prop},Sim gl w0 pr0 ow σ a ao w B pr→∃B' pr',Sim gl w0 pr0 ow τ a ao w B' pr':=by
 induction h with
 | cov h=>intro B pr hs;exact ⟨_,_,hs.covU h⟩
 | freeze o ho _ ih=>intro B pr hs;obtain ⟨pr',hs'⟩:=hs.freeze ho;exact ih hs'
 | empty o s ho _ ih=>intro B pr hs;exact ih (hs.empty ho s)
 | ren a b _ ih=>intro B pr hs;exact ih (hs.ren a b)
 | eqv e _ ih=>intro B pr hs;exact ih (hs.eqv e)
theorem Safe.gets {c:Code} {Q:Exit→St→Prop} {σ τ:St} (hc:Gets gl σ τ) (h:Safe r P gl c Q τ):Safe r P gl c Q σ:=fun w0 pr0 ow a ao w B pr hs=>by
 obtain ⟨B',pr',hs'⟩:=hc.sim hs
 exact h _ _ _ _ _ _ _ _ hs'
theorem SafeOps.gets {l rest:List Oper} {Q:Exit→St→Prop} {σ τ:St} (hc:Gets gl σ τ) (h:SafeOps r P gl l rest Q τ):SafeOps r P gl l rest Q σ:=fun w0 pr0 ow a ao w B pr hs=>by
 obtain ⟨B',pr',hs'⟩:=hc.sim hs
 exact h _ _ _ _ _ _ _ _ hs'
theorem Safe.got {c:Code} {Q:Exit→St→Prop} {σ τ:St} (h:Safe r P gl c Q τ) (hc:Gets gl σ τ):Safe r P gl c Q σ:=Safe.gets hc h
theorem Safe.loopW {S K:Type} {step:S→Option (S ⊕ K)} {s0:S} {ρ:K} {c:Code} {Q:Exit→St→Prop} {σ:St} (τ:S→St) (h:whileO step s0=some ρ) (hc:Gets gl σ (τ s0))
 (round:∀s o,step s=some o→(∀k,o=.inr k→k=ρ)→Safe r P gl c (thenQ (fun σ'=>∃s',o=.inl s'∧Gets gl σ' (τ s')) Q) (τ s)):Safe r P gl (.loop c) Q σ:=by
 obtain ⟨n,hn⟩:=whileO_ex h
 refine Safe.loop (fun(m:Nat) σ=>∃s,iterO step m s=some ρ∧Gets gl σ (τ s)) id n ⟨s0,hn,hc⟩ ?_
 rintro m σ ⟨s,hm,hg⟩
 refine Safe.gets hg ?_
 cases m with
 | zero=>simp [iterO] at hm
 | succ m =>
  rw [iterO] at hm
  split at hm
  ·cases hm
  ·rename_i s' hs
   intro w0 pr0 ow a ao w B pr hsim
   refine (round s _ hs (fun k hk=>by cases hk) w0 pr0 ow a ao w B pr hsim).mono fun e a' w' ⟨σ',B',pr',hq,hs'⟩=>⟨σ',B',pr',?_,hs'⟩
   cases e with
   | normal =>
    obtain ⟨s2,h1,h2⟩:=hq
    injection h1 with h1;subst h1
    exact ⟨m,⟨_,hm,h2⟩,Nat.lt_succ_self m⟩
   | _=>exact hq
  ·rename_i k hs
   injection hm with hm;subst hm
   intro w0 pr0 ow a ao w B pr hsim
   refine (round s _ hs (fun k hk=>by injection hk with hk;exact hk.symm) w0 pr0 ow a ao w B pr hsim).mono fun e a' w' ⟨σ',B',pr',hq,hs'⟩=>⟨σ',B',pr',?_,hs'⟩
   cases e with
   | normal=>obtain ⟨s2,h1,h2⟩:=hq;cases h1
   | _=>exact hq
def ownK (ow:Nat→Prop) (w0:World) (ks:List Nat):Nat→Prop:=fun b=>(ow b∨w0.heap.size≤b)∧b ∉ ks
theorem Sim.rebase {w0:World} {pr0 ow:Nat→Prop} {σ:St} {a:Act} {ao:List (Array Value)} {w:World} {B:BM} {pr:Nat→Prop} (h:Sim gl w0 pr0 ow σ a ao w B pr) {ks:List Nat} (hm:∀r∈ks,MarkAt w0 w σ.ob B pr r) :
 Sim gl w pr (ownK ow w0 ks) σ { a with defers:=[] } ao w B pr:=by
 refine ⟨.nil,h.tms,h.outs,h.obn,fun o x hx=>?_,h.inj,h.pra,fun _ h=>h,fun _ h=>.inl h,h.glo,.refl _ _⟩
 rcases h.obs o x hx with g|⟨g1,⟨bd,q1,q2,q3⟩|q⟩
 ·exact .inl g
 ·exact .inr ⟨g1,.inl ⟨bd,q1,q2,.inl ⟨q3,fun hk=>(hm _ hk).nb o bd (by rw [hx];intro e;injection e with e;exact g1 e) q1 rfl⟩⟩⟩
 ·exact .inr ⟨g1,.inr q⟩
theorem Sim.unbase {w0:World} {pr0 ow:Nat→Prop} {σ σ':St} {a a':Act} {ao ao':List (Array Value)} {w w':World} {B B':BM} {pr pr':Nat→Prop} (h:Sim gl w0 pr0 ow σ a ao w B pr) {ks:List Nat} (ha:a.defers=ks.map mkD) (hn:ks.Nodup) (hm:∀r∈ks,MarkAt w0 w σ.ob B pr r)
 (h':Sim gl w pr (ownK ow w0 ks) σ' a' ao' w' B' pr'):Sim gl w0 pr0 ow σ' { a' with defers:=a.defers } ao' w' B' pr':=by
 have hsz:w0.heap.size≤w.heap.size:=h.kp.size
 refine ⟨⟨ks,ha,hn,fun r hr=>?_⟩,h'.tms,h'.outs,h'.obn,fun o x hx=>?_,h'.inj,h'.pra,fun b hb=>h'.prm b (h.prm b hb),fun b hb=>?_,h'.glo,h.kp.trans ⟨h'.kp.os,h'.kp.tape,h'.kp.output,h'.kp.drawn,h'.kp.size,fun b hb ho=>h'.kp.block b hb fun h1=>ho h1.1⟩⟩
 ·have m:=hm r hr
  have hlt:r < w.heap.size:=(Array.getElem?_eq_some_iff.1 m.here).1
  refine ⟨(h'.kp.block r hlt (fun h1=>h1.2 hr)).trans m.here,m.lo,fun hp=>?_,fun o bd hd hb e=>?_⟩
  ·rcases h'.prn r hp with h1|h1|h1
   ·exact m.np h1
   ·exact h1.2 hr
   ·omega
  ·cases ho:oget σ'.ob o with
   | none=>rw [h'.obn o ho] at hb;cases hb
   | some x =>
    rcases h'.obs o x ho with ⟨g1,_⟩|⟨_,⟨bd',q1,_,q3⟩|⟨q1,_⟩⟩
    ·exact hd (by rw [ho,g1])
    ·rw [hb] at q1;injection q1 with q1;subst q1
     rcases q3 with q3|q3
     ·exact q3.2 (e▸hr)
     ·omega
    ·rw [hb] at q1;cases q1
 ·rcases h'.obs o x hx with g|⟨g1,⟨bd,q1,q2,q3⟩|q⟩
  ·exact .inl g
  ·exact .inr ⟨g1,.inl ⟨bd,q1,q2,q3.elim (fun h1=>h1.1) (fun h1=>.inr (by omega))⟩⟩
  ·exact .inr ⟨g1,.inr q⟩
 ·rcases h'.prn b hb with h1|h1|h1
  ·exact h.prn b h1
  ·exact .inr h1.1
  ·exact .inr (.inr (by omega))
def inQ (E:Env) (gl:List (Nat×List V)) (fn:Func) (d:Nat) (pa:Id) (R:St→Prop):Exit→St→Prop:=fun e σ =>
 (e=.normal∨e=.ret)∧∃n tm rest vs,σ.out=(n,tm)::rest∧RVs E gl σ.tm σ.ob fn.results.toList vs∧R ⟨n,(d,oneV vs)::tm,σ.ob,rest,pa⟩
theorem SafeOps.inline (hE:E.good P=true) {l rest:List Oper} {op:Oper} {Q:Exit→St→Prop} {n d:Nat} {tm:List (Nat×V)} {ob:List (Id×Obj)} {out:List (Nat×List (Nat×V))} {pa:Id}
 {fx:Operand} {args:Array Operand} {tys:Array Nat} {f:FuncId} {caps:List V} {fn:Func} {c:Code}
 (hg:gd l tm op=some true) (hop:op.op=.call ⟨.value fx,args,tys⟩) (hd:op.dst=some d) (hn:Nat.blt d n=true) (hfx:ev tm fx=.fn f caps) (hf:P.funcs[f]?=some fn) (hb:fn.body=some c)
 (hc:∀(xs:Array Value) (w:World),(callFunc f xs).run P w=.ok (.enter f xs) w) (hl:Nat.ble (evs tm args.toList++caps).length fn.ntmps=true)
 (h:Safe false P gl c (inQ E gl fn d pa (SafeOps r P gl l rest Q)) ⟨fn.ntmps,initTm 0 (evs tm args.toList++caps),ob,(n,tm)::out,pa++[d]⟩):SafeOps r P gl l (op::rest) Q ⟨n,tm,ob,out,pa⟩ :=
 SafeOps.done hg fun w0 pr0 ow a ao w B pr hs K hK=>by
  have hfv:=ev_rc hs.tms fx
  rw [hfx] at hfv
  obtain ⟨cs,hcs,hrc⟩:=hfv.fn_inv
  have hargs:=(evs_rc hs.tms args.toList).append hrc
  have hlen:=hargs.length
  have hle:(evs tm args.toList++caps).length≤fn.ntmps:=Nat.le_of_ble_eq_true hl
  have hle2:(args.toList.map a.eval++cs).length≤fn.ntmps:=by rw [←hlen];exact hle
  unfold Oper.wp
  rw [call_enter hop hcs hc]
  obtain ⟨ks,k1,k2,k3⟩:=hs.dfr
  refine calls_of_safe hf hb h (w0:=w) (pr0:=pr) (ow:=ownK ow w0 ks) (ao:=a.tmps::ao) (B:=B) (pr:=pr) ?_ ?_
  ·have hb0:=hs.rebase k3
   refine ⟨.nil,⟨by simp only [Array.size_append,List.size_toArray,Array.size_replicate];omega,fun t=>?_⟩,⟨hs.tms,hs.outs⟩,hb0.obn,hb0.obs,hb0.inj,hb0.pra,hb0.prm,hb0.prn,hb0.glo,hb0.kp⟩
   simp only [initTm_get,Nat.zero_le,if_true,Nat.sub_zero]
   cases hx:(evs tm args.toList++caps)[t]? with
   | none=>exact RC.undefs ..
   | some v =>
    obtain ⟨c',h1,h2⟩:=hargs.get hx
    have hlt:t < (args.toList.map a.eval++cs).length:=(List.getElem?_eq_some_iff.1 h1).1
    have:((args.toList.map a.eval++cs).toArray++Array.replicate (fn.ntmps - (args.toList.map a.eval++cs).toArray.size) undef).getD t undef=c':=by
     rw [Array.getD_eq_getD_getElem?,Array.getElem?_append_left (by simpa using hlt)]
     simp only [List.getElem?_toArray,h1,Option.getD_some]
    simp only [this,Option.getD_some]
    exact h2
  ·rintro e σ' a' w'0 B' pr' ⟨he,n1,tm1,rest1,vs,ho,hv,hR⟩ hs0
   refine ⟨he,fun w' hs'=>?_⟩
   obtain ⟨n2,tm2,ob2,out2,pa2⟩:=σ'
   simp only at ho hv hR
   subst ho
   have hU:=hs.unbase k1 k2 k3 hs'
   obtain ⟨cs',g1,g2⟩:=rvs_run (P:=P) hE hs'.q hv
   have hres:(results fn a'.tmps).run P w'=.ok (if h:cs'.toArray.size=1 then cs'.toArray[0] else .tuple cs'.toArray) w':=by
    unfold results
    rw [Array.mapM_eq_mapM_toList,Sem.run_bind,Sem.run_map]
    erw [g1]
    rfl
   have hrv:RC w' B' pr' (oneV vs) (if h:cs'.toArray.size=1 then cs'.toArray[0] else .tuple cs'.toArray):=by
    cases g2 with
    | nil=>simp [oneV];exact .tup .nil
    | cons p1 p2 =>
     cases p2 with
     | nil=>simpa [oneV] using p1
     | cons p2 p3=>simpa [oneV] using RC.tup (.cons p1 (.cons p2 p3))
   have hn1:n1=n:=by
    have:=hs'.outs.1.1
    have h0:=hs.tms.1
    simp only at h0
    omega
   subst hn1
   refine ⟨_,hres,hK _ _ (hR w0 pr0 ow (a.put op.dst (if h:cs'.toArray.size=1 then cs'.toArray[0] else .tuple cs'.toArray)) ao w' B' pr' ?_)⟩
   rw [hd]
   exact ⟨hU.dfr,TMs.put hU.outs.1 (show d < n1 by simpa using hn) hrv,hU.outs.2,hU.obn,hU.obs,hU.inj,hU.pra,hU.prm,hU.prn,hU.glo,hU.kp⟩
end Go.AM
namespace Go.AM
open Go Go.RowKit
variable {r:Bool} {P:Program} {E:Env} {gl:List (Nat×List V)}
abbrev rws {α:Type} (f:α→List V) (xs:List α):List (List V):=xs.map f
def few (n:Nat):Prop:=n≤549755813888
instance (n:Nat):Decidable (few n):=inferInstanceAs (Decidable (n≤549755813888))
theorem rws_len {α:Type} (f:α→List V) (xs:List α):(rws f xs).length=xs.length:=List.length_map _
theorem lenE {α:Type} {f:α→List V} {xs:List α}:V.int .i64 ((rws f xs).length:Nat)=.int .i64 (xs.length:Nat):=by rw [rws_len]
theorem rws_get {α:Type} [Inhabited α] {f:α→List V} {xs:List α} {i:Int} (h:i < (xs.length:Int)) (h0:0≤i):(rws f xs)[i.toNat]?=some (f (gt xs i)):=by
 have:i.toNat < xs.length:=by omega
 simp [rws,gt,List.getD,this]
theorem rws_get0 {α:Type} [Inhabited α] {f:α→List V} {xs:List α} {i:Int} (h:i < (xs.length:Int)) (h0:0≤i):(rws f xs)[0+i.toNat]?=some (f (gt xs i)):=by
 rw [Nat.zero_add];exact rws_get h h0
theorem QEv.fnE {tm:List (Nat×V)} {ob:List (Id×Obj)} {id:Id} {op:Op} {v v':V} (h:evF E tm op=some v') (e:v'=v):QEv P E gl tm ob id op v []:=e▸.fn h
theorem QEv.idxSlM {α:Type} {f:α→List V} {xs:List α} {tm:List (Nat×V)} {ob:List (Id×Obj)} {id:Id} {t:Nat} {x i:Operand} {e sz bt:Nat} {z:List V} {de:Ty} {s:Nat} {k:IntKind} {n:Int}
 (ht:ety E t=some ⟨.sli e,sz,bt,z⟩) (he:ety E e=some de) (hx:ev tm x=.sl s (rws f xs)) (hs:s=de.size) (hi:ev tm i=.int k n) (h:0≤n∧n < (xs.length:Int)) :
 QEv P E gl tm ob id (.indexAddr t x i) (.spt s (rws f xs) n.toNat 0) []:=.idxSl ht he hx hs hi h.1 (by rw [rws_len];exact h.2)
theorem QEv.idxRefM {α:Type} {f:α→List V} {xs:List α} {tm:List (Nat×V)} {ob:List (Id×Obj)} {id:Id} {t:Nat} {x i:Operand} {e sz bt:Nat} {z:List V} {de:Ty} {s:Nat} {fz:Bool} {k:IntKind} {n:Int} {o:Id}
 (ht:ety E t=some ⟨.sli e,sz,bt,z⟩) (he:ety E e=some de) (hx:ev tm x=.ref o 0 (rws f xs).length) (ho:oget ob o=some (.rows s (rws f xs) fz)) (hs:s=de.size) (hi:ev tm i=.int k n) (h:0≤n∧n < (xs.length:Int)) :
 QEv P E gl tm ob id (.indexAddr t x i) (.ptr o (0+n.toNat) 0) []:=.idxRef ht he hx ho hs hi h.1 (by rw [rws_len];exact h.2)
theorem QEv.slArrM {tm:List (Nat×V)} {ob:List (Id×Obj)} {id:Id} {t:Nat} {x:Operand} {m e sz bt:Nat} {z:List V} {de:Ty} {o:Id} {off s c:Nat} {cells:List V}
 (ht:ety E t=some ⟨.arr m e,sz,bt,z⟩) (he:ety E e=some de) (hx:ev tm x=.ptr o 0 off) (ho:oget ob o=some (.box cells)) (hs:de.size=s) (hc:cells.length=c) (h:Nat.ble (off+m*s) c=true) :
 QEv P E gl tm ob id (.slice t x none none none) (.bref o off s m) []:=by
 subst hs;subst hc
 exact .slArr ht he hx ho (Nat.le_of_ble_eq_true h)
theorem QEv.idxArrM {tm:List (Nat×V)} {ob:List (Id×Obj)} {id:Id} {t:Nat} {x i:Operand} {m e sz bt:Nat} {z:List V} {de:Ty} {o:Id} {row off off' s:Nat} {k:IntKind} {n:Int}
 (ht:ety E t=some ⟨.arr m e,sz,bt,z⟩) (he:ety E e=some de) (hx:ev tm x=.ptr o row off) (hi:ev tm i=.int k n) (hs:de.size=s) (ho:off+n.toNat*s=off') (m':Int) (hm:(m:Int)=m') (h:0≤n∧n < m') :
 QEv P E gl tm ob id (.indexAddr t x i) (.ptr o row off') []:=by
 subst hs;subst ho;subst hm
 exact .idxArr ht he hx hi h.1 h.2
theorem QEv.idxVM {tm:List (Nat×V)} {ob:List (Id×Obj)} {id:Id} {t:Nat} {x i:Operand} {m e sz bt:Nat} {z cs us:List V} {de:Ty} {k:IntKind} {n:Int} {v:V} {s:Nat}
 (ht:ety E t=some ⟨.arr m e,sz,bt,z⟩) (he:ety E e=some de) (hx:ev tm x=.agg cs) (hi:ev tm i=.int k n) (hs:de.size=s) (m':Int) (hm:(m:Int)=m') (h:0≤n∧n < m') (hc:cutV cs (n.toNat*s) s=some us) (hv:mkV de.k.isAgg us=some v) :
 QEv P E gl tm ob id (.index t x i) v []:=by
 subst hs;subst hm
 exact .idxV ht he hx hi h.1 h.2 hc hv
theorem CellsAt.boxM {ob:List (Id×Obj)} {o:Id} {off n:Nat} {cells cs:List V} (h:oget ob o=some (.box cells)) (hc:cutV cells off n=some cs):CellsAt gl ob (.ptr o 0 off) n cs:=.box h hc
theorem StoreAt.boxM {ob:List (Id×Obj)} {o:Id} {off c:Nat} {cells us ws:List V} (h:oget ob o=some (.box cells)) (hc:cells.length=c) (hl:off+us.length≤c) (hw:putCells cells off us=ws):StoreAt ob (.ptr o 0 off) us o (.box ws):=by
 subst hw;subst hc
 exact .box h (by rw [Nat.ble_eq];exact hl)
theorem CellsAt.sptM {α:Type} [Inhabited α] {f:α→List V} {xs:List α} {ob:List (Id×Obj)} {s off n:Nat} {i:Int} {cs:List V} (h:0≤i∧i < (xs.length:Int)) (hc:cutV (f (gt xs i)) off n=some cs):CellsAt gl ob (.spt s (rws f xs) i.toNat off) n cs :=
 .spt (rws_get h.2 h.1) hc
theorem CellsAt.rowsM {α:Type} [Inhabited α] {f:α→List V} {xs:List α} {ob:List (Id×Obj)} {o:Id} {s off n:Nat} {fz:Bool} {i:Int} {cs:List V} (h:0≤i∧i < (xs.length:Int)) (ho:oget ob o=some (.rows s (rws f xs) fz)) (hc:cutV (f (gt xs i)) off n=some cs):CellsAt gl ob (.ptr o (0+i.toNat) off) n cs :=
 .rows ho (rws_get0 h.2 h.1) hc
theorem sub_rws {α:Type} {f:α→List V} {xs:List α} {l h:Nat}:((rws f xs).drop l).take (h - l)=rws f ((xs.drop l).take (h - l)):=by simp [rws]
theorem QEv.slL {α:Type} {f:α→List V} {xs:List α} {tm:List (Nat×V)} {ob:List (Id×Obj)} {id:Id} {t:Nat} {x lo:Operand} {e sz bt:Nat} {z:List V} {de:Ty} {s:Nat} {k:IntKind} {l:Int}
 (ht:ety E t=some ⟨.sli e,sz,bt,z⟩) (he:ety E e=some de) (hx:ev tm x=.sl s (rws f xs)) (hs:s=de.size) (hl:ev tm lo=.int k l) (hg:0≤l∧l≤(xs.length:Int)) :
 QEv P E gl tm ob id (.slice t x (some lo) none none) (.sl s (rws f (sub xs l xs.length))) []:=by
 have:=QEv.slSl (P:=P) (E:=E) (gl:=gl) (ob:=ob) (id:=id) ht he hx hs (.lim hl hg.1) .no (by rw [rws_len];omega) (Nat.le_refl _)
 rw [sub_rws,rws_len] at this;exact this
theorem QEv.slH {α:Type} {f:α→List V} {xs:List α} {tm:List (Nat×V)} {ob:List (Id×Obj)} {id:Id} {t:Nat} {x hi:Operand} {e sz bt:Nat} {z:List V} {de:Ty} {s:Nat} {k:IntKind} {h:Int}
 (ht:ety E t=some ⟨.sli e,sz,bt,z⟩) (he:ety E e=some de) (hx:ev tm x=.sl s (rws f xs)) (hs:s=de.size) (hh:ev tm hi=.int k h) (hg:0≤h∧h≤(xs.length:Int)) :
 QEv P E gl tm ob id (.slice t x none (some hi) none) (.sl s (rws f (sub xs 0 h))) []:=by
 have:=QEv.slSl (P:=P) (E:=E) (gl:=gl) (ob:=ob) (id:=id) ht he hx hs .no (.lim hh hg.1) (by omega) (by rw [rws_len];omega)
 rw [sub_rws] at this;exact this
theorem QEv.makeM {α:Type} {f:α→List V} {d:α} {tm:List (Nat×V)} {ob:List (Id×Obj)} {id:Id} {t:Nat} {l c:Operand} {e sz bt:Nat} {z:List V} {de:Ty} {k1 k2:IntKind} {n m:Int}
 (ht:ety E t=some ⟨.sli e,sz,bt,z⟩) (he:ety E e=some de) (hl:ev tm l=.int k1 n) (hc:ev tm c=.int k2 m) (hg:0≤n∧n≤m∧m≤549755813888) (hb:Nat.ble de.bytes 256=true) (hz:f d=de.zero) (hf:V.free.frees de.zero=true) :
 QEv P E gl tm ob id (.makeSlice t l c) (.ref id 0 (rws f (List.replicate n.toNat d)).length) [(id,.rows de.size (rws f (List.replicate n.toNat d)) false)]:=by
 have hb':=Nat.le_of_ble_eq_true hb
 have:=QEv.make (P:=P) (E:=E) (gl:=gl) (tm:=tm) (ob:=ob) (id:=id) ht he hl hc hg.1 hg.2.1 (by omega) (by
  have h0:0≤m:=by omega
  have h1:(de.bytes:Int)*m≤256*m:=Int.mul_le_mul_of_nonneg_right (by omega) h0
  omega) hf .rfl
 have e1:rws f (List.replicate n.toNat d)=List.replicate n.toNat de.zero:=by simp [rws,hz]
 rw [e1,List.length_replicate]
 exact this
theorem QEv.litM {α:Type} {f:α→List V} {xs:List α} {tm:List (Nat×V)} {ob:List (Id×Obj)} {id:Id} {t:Nat} {n:Nat} {parts:Array (Nat×Operand)} {e sz bt:Nat} {z cells:List V} {de:Ty}
 (ht:ety E t=some ⟨.sli e,sz,bt,z⟩) (he:ety E e=some de) (hn:n*de.size≤16777216) (hc:fillV (fun i=>some (i*de.size,de.size)) (repV n de.zero) (evParts tm parts.toList)=some cells) (hf:V.free.frees cells=true) (h1:V.ones cells=true)
 (hr:chunkV de.size n cells=rws f xs) (hl:(rws f xs).length=n) :
 QEv P E gl tm ob id (.buildSlice t n parts) (.ref id 0 (rws f xs).length) [(id,.rows de.size (rws f xs) false)]:=by
 have:=QEv.lit (P:=P) (gl:=gl) (ob:=ob) (id:=id) ht he hn hc hf h1 .rfl
 rw [hr] at this
 rw [hl]
 exact this
theorem putRow_rws {α:Type} [Inhabited α] {f:α→List V} {xs:List α} {i:Int} {off:Nat} {us:List V} {y:α} (h:0≤i∧i < (xs.length:Int)) (hy:putCells (f (gt xs i)) off us=f y):putRow (rws f xs) (0+i.toNat) off us=rws f (st xs i y):=by
 have hi:i.toNat < xs.length:=by omega
 rw [Nat.zero_add]
 unfold st rws
 generalize hn:i.toNat=n at *
 have hg:gt xs i=xs[n]:=by simp [gt,hn,List.getD,hi]
 rw [hg] at hy
 clear hg hn h
 induction xs generalizing n with
 | nil=>simp at hi
 | cons x r ih =>
  cases n with
  | zero=>simp only [List.getElem_cons_zero] at hy;simp [putRow,hy]
  | succ n=>simp only [List.getElem_cons_succ] at hy;simp [putRow,ih n (by simpa using hi) hy]
theorem StoreAt.rowsM {α:Type} [Inhabited α] {f:α→List V} {xs:List α} {ob:List (Id×Obj)} {o:Id} {off s:Nat} {i:Int} {us:List V} {y:α} (h:0≤i∧i < (xs.length:Int)) (ho:oget ob o=some (.rows s (rws f xs) false)) (hl:Nat.ble (off+us.length) s=true) (hf:V.free.frees us=true) (hy:putCells (f (gt xs i)) off us=f y) :
 StoreAt ob (.ptr o (0+i.toNat) off) us o (.rows s (rws f (st xs i y)) false):=by
 rw [←putRow_rws h hy]
 exact .rows ho (by rw [rws_len];omega) hl hf
inductive RowsL {α:Type} (f:α→List V) (ob:List (Id×Obj)) (s:Nat):V→List α→Prop
 | sl (xs:List α):RowsL f ob s (.sl s (rws f xs)) xs
 | nils:RowsL f ob s .nils []
 | emp:RowsL f ob s .emp []
 | own {o:Id} {xs:List α} {fz:Bool} (h:oget ob o=some (.rows s (rws f xs) fz)):RowsL f ob s (.ref o 0 (rws f xs).length) xs
theorem RowsL.of {α:Type} {f:α→List V} {ob:List (Id×Obj)} {s:Nat} {v:V} {xs:List α} (h:RowsL f ob s v xs):RowsOf ob v s (rws f xs):=by
 cases h with
 | sl=>exact .sl ..
 | nils=>exact .nils ..
 | emp=>exact .emp ..
 | own h=>exact .full h rfl
inductive AppL {α:Type} (f:α→List V) (ob:List (Id×Obj)) (s:Nat):V→List α→List (Id×Obj)→Prop
 | nils:AppL f ob s .nils [] []
 | emp:AppL f ob s .emp [] []
 | own {o:Id} {xs:List α} (h:oget ob o=some (.rows s (rws f xs) false)):AppL f ob s (.ref o 0 (rws f xs).length) xs [(o,.dead)]
theorem AppL.of {α:Type} {f:α→List V} {ob:List (Id×Obj)} {s:Nat} {v:V} {xs:List α} {kl:List (Id×Obj)} (h:AppL f ob s v xs kl):AppD ob v s (rws f xs) kl:=by
 cases h with
 | nils=>exact .nils _
 | emp=>exact .emp _
 | own h=>exact .full h rfl
theorem SafeOps.appendM {α:Type} (f:α→List V) (hE:E.good P=true) {l rest:List Oper} {op:Oper} {Q:Exit→St→Prop} {n t tx e sz bt sz' bt' e' d:Nat} {x y:Operand} {z z':List V} {de:Ty} {tm:List (Nat×V)} {ob kl:List (Id×Obj)} {out:List (Nat×List (Nat×V))} {pa:Id} {xs ys:List α}
 (hg:gd l tm op=some true) (hop:op.op=.call ⟨.builtin .append,#[x,y],#[t,tx]⟩) (hd:op.dst=some d) (hn:Nat.blt d n=true)
 (ht:ety E t=some ⟨.sli e,sz,bt,z⟩) (htx:ety E tx=some ⟨.sli e',sz',bt',z'⟩) (he:ety E e=some de) (hb:Nat.ble de.bytes 256=true) (hf:oget ob (pa++[d])=none)
 (hx:AppL f ob de.size (ev tm x) xs kl) (hy:RowsL f ob de.size (ev tm y) ys) (h1:∀a,V.ones (f a)=true) (hfew:few (xs++ys).length)
 (h:SafeOps r P gl l rest Q ⟨n,(d,.ref (pa++[d]) 0 (rws f (xs++ys)).length)::tm,(pa++[d],.rows de.size (rws f (xs++ys)) false)::(kl++ob),out,pa⟩):SafeOps r P gl l (op::rest) Q ⟨n,tm,ob,out,pa⟩:=by
 have hb':=Nat.le_of_ble_eq_true hb
 have hm:(rws f (xs++ys)).length≤549755813888:=by rw [rws_len];exact hfew
 refine SafeOps.append hE hg hop hd hn ht htx he hf hx.of hy.of (fun r hr=>?_) (List.map_append ..).symm rfl ?_ ?_ h
 ·obtain ⟨a,_,rfl⟩:=List.mem_map.1 hr
  exact h1 a
 ·calc (rws f (xs++ys)).length*de.bytes≤549755813888*256:=Nat.mul_le_mul hm hb'
   _=140737488355328:=rfl
 ·exact Nat.le_trans hm (by decide)
theorem DOp.appendM {α:Type} (f:α→List V) {Z:List Id} {l:List Oper} {sp:Bool} {op:Oper} {K:St→Prop} {n t tx e sz bt sz' bt' e' d:Nat} {x y:Operand} {z z':List V} {de:Ty} {tm:List (Nat×V)} {ob kl:List (Id×Obj)} {out:List (Nat×List (Nat×V))} {pa:Id} {xs ys:List α}
 (hg:gd l tm op=some true) (hop:op.op=.call ⟨.builtin .append,#[x,y],#[t,tx]⟩) (hd:op.dst=some d) (hn:Nat.blt d n=true)
 (ht:ety E t=some ⟨.sli e,sz,bt,z⟩) (htx:ety E tx=some ⟨.sli e',sz',bt',z'⟩) (he:ety E e=some de) (hb:Nat.ble de.bytes 256=true) (hf:oget ob (pa++[d])=none)
 (hx:AppL f ob de.size (ev tm x) xs kl) (hy:RowsL f ob de.size (ev tm y) ys) (h1:∀a,V.ones (f a)=true) (hfew:few (xs++ys).length) (hz:kl.all (fun p=>Z.any (idEq p.1))=true)
 (h:K ⟨n,(d,.ref (pa++[d]) 0 (rws f (xs++ys)).length)::tm,(pa++[d],.rows de.size (rws f (xs++ys)) false)::(kl++ob),out,pa⟩):DOp r P E gl Z l sp op K ⟨n,tm,ob,out,pa⟩:=by
 have hb':=Nat.le_of_ble_eq_true hb
 have hm:(rws f (xs++ys)).length≤549755813888:=by rw [rws_len];exact hfew
 refine .append hg hop hd hn ht htx he hf hx.of hy.of (fun r hr=>?_) (List.map_append ..).symm rfl ?_ ?_ (fun p hp=>List.all_eq_true.1 hz p hp) h
 ·obtain ⟨a,_,rfl⟩:=List.mem_map.1 hr
  exact h1 a
 ·calc (rws f (xs++ys)).length*de.bytes≤549755813888*256:=Nat.mul_le_mul hm hb'
   _=140737488355328:=rfl
 ·exact Nat.le_trans hm (by decide)
theorem NoSl.ownM {α:Type} {f:α→List V} {s:Nat} {xs:List α} (h:∀x,(f x).all plainV=true):NoSl (.own s (rws f xs)):=.own fun r hr v hv=>by
 obtain ⟨a,_,rfl⟩:=List.mem_map.1 hr
 exact List.all_eq_true.1 (h a) v hv
inductive NoSls:List V→Prop
 | nil:NoSls []
 | cons {v:V} {vs:List V} (h:NoSl v) (t:NoSls vs):NoSls (v::vs)
theorem NoSls.all:∀{vs:List V},NoSls vs→∀v∈vs,NoSl v
 | _,.nil,v,h=>by cases h
 | _,.cons h t,v,hv=>by
  cases hv with
  | head=>exact h
  | tail _ hm=>exact NoSls.all t v hm
theorem NoSl.tupL {vs:List V} (h:NoSls vs):NoSl (.tup vs):=.tup h.all
theorem NoSl.aggL {vs:List V} (h:NoSls vs):NoSl (.agg vs):=.agg h.all
theorem retQ.gen {fn:Func} {res:V} {vs:List V} {rs:List ResultVar} {n:Nat} {tm:List (Nat×V)} {ob:List (Id×Obj)} {out:List (Nat×List (Nat×V))} {pa:Id} {ids:List Id}
 (hr:fn.results.toList=rs) (hv:RVs E gl tm ob rs vs) (h:Res ob (oneV vs) res ids) (hn:ids.Nodup) {e:Exit} (he:e=.normal∨e=.ret):retQ E gl fn res e ⟨n,tm,ob,out,pa⟩ :=
 ⟨he,vs,ids,by rw [hr];exact hv,h,hn⟩
theorem inQ.gen {fn:Func} {d m:Nat} {pa pb:Id} {R:St→Prop} {v:V} {vs:List V} {rs:List ResultVar} {n:Nat} {tm tm':List (Nat×V)} {ob:List (Id×Obj)} {out:List (Nat×List (Nat×V))} {e:Exit}
 (he:e=.normal∨e=.ret) (hr:fn.results.toList=rs) (hv:RVs E gl tm ob rs vs) (ho:oneV vs=v) (h:R ⟨m,(d,v)::tm',ob,out,pa⟩):inQ E gl fn d pa R e ⟨n,tm,ob,(m,tm')::out,pb⟩ :=
 ⟨he,_,_,_,vs,rfl,by rw [hr];exact hv,by rw [ho];exact h⟩
theorem Safe.condK {b:Bool} {c:Operand} {x y:Code} {Q:Exit→St→Prop} {n:Nat} {tm:List (Nat×V)} {ob:List (Id×Obj)} {out:List (Nat×List (Nat×V))} {pa:Id} (hb:ev tm c=.bool b) (hk:b=true)
 (h:Safe r P gl x Q ⟨n,tm,ob,out,pa⟩):Safe r P gl (.cond c x y) Q ⟨n,tm,ob,out,pa⟩:=Safe.cond hb (fun _=>h) (fun e=>by rw [hk] at e;cases e)
def gone (tm:List (Nat×V)) (d:Nat):List (Nat×V)→Bool
 | []=>true
 | (t,_)::r=>(Nat.beq t d||match tget tm t with|.undef=>true|_=>false)&&gone tm d r
theorem gone_get {tm:List (Nat×V)} {d:Nat}:∀{mid:List (Nat×V)},gone tm d mid=true→∀t,t≠d→tget tm t=.undef∨tget (mid++tm) t=tget tm t
 | [],_,t,_=>.inr rfl
 | (s,v)::r,h,t,hd=>by
  simp only [gone,Bool.and_eq_true,Bool.or_eq_true] at h
  rw [List.cons_append,tget_put]
  by_cases e:s=t
  ·subst e
   rcases h.1 with h1|h1
   ·exact absurd (Nat.eq_of_beq_eq_true h1) hd
   ·left
    split at h1
    ·assumption
    ·cases h1
  ·rw [if_neg e];exact gone_get h.2 t hd
theorem SafeOps.drop {l rest:List Oper} {Q:Exit→St→Prop} {n d:Nat} {v:V} (mid:List (Nat×V)) {tm tm':List (Nat×V)} {ob:List (Id×Obj)} {out:List (Nat×List (Nat×V))} {pa:Id} (hm:tm'=mid++tm) (hv:tget tm' d=v) (hg:gone tm d mid=true)
 (h:SafeOps r P gl l rest Q ⟨n,(d,v)::tm,ob,out,pa⟩):SafeOps r P gl l rest Q ⟨n,tm',ob,out,pa⟩:=fun w0 pr0 ow a ao w B pr hs=>by
 refine h w0 pr0 ow a ao w B pr { hs with tms:=⟨hs.tms.1,fun t=>?_⟩ }
 have h0:=hs.tms.2 t
 simp only at h0
 rw [tget_put]
 split
 ·rename_i e;subst e;rw [←hv];exact h0
 ·rename_i e
  rcases gone_get hg t (fun e'=>e e'.symm) with h1|h1
  ·rw [h1];exact RC.undefs ..
  ·rw [←h1,←hm];exact h0
theorem SafeOps.drop' {l rest:List Oper} {Q:Exit→St→Prop} {n d:Nat} {v:V} (m:Nat) {tm tm':List (Nat×V)} {ob:List (Id×Obj)} {out:List (Nat×List (Nat×V))} {pa:Id} (hm:tm'.drop m=tm) (hv:tget tm' d=v) (hg:gone tm d (tm'.take m)=true)
 (h:SafeOps r P gl l rest Q ⟨n,(d,v)::tm,ob,out,pa⟩):SafeOps r P gl l rest Q ⟨n,tm',ob,out,pa⟩ :=
 SafeOps.drop (tm'.take m) (by rw [←hm,List.take_append_drop]) hv hg h
theorem bj_or {c b:Bool}:(c||b)=(bif c then true else b):=by cases c<;>rfl
theorem Safe.see {c:Code} {Q:Exit→St→Prop} {n:Nat} {tm:List (Nat×V)} {ob:List (Id×Obj)} {out:List (Nat×List (Nat×V))} {pa:Id} (d:Nat) {u v:V} (hv:tget tm d=v) (hu:Up ob v u)
 (h:Safe r P gl c Q ⟨n,(d,u)::tm,ob,out,pa⟩):Safe r P gl c Q ⟨n,tm,ob,out,pa⟩:=fun w0 pr0 ow a ao w B pr hs=>by
 refine h w0 pr0 ow a ao w B pr { hs with tms:=⟨hs.tms.1,fun t=>?_⟩ }
 rw [tget_put]
 split
 ·rename_i e;subst e
  have:=hs.tms.2 d
  simp only at this
  rw [hv] at this
  exact hu.rc hs.q this
 ·exact hs.tms.2 t
theorem slice_nil {w:World} {B:BM} {pr:Nat→Prop} {s:Nat} {rows:List (List V)} {c:Value} (h:RC w B pr (.sl s rows) c):∃a len cap,c=.slice a len cap∧(a.isNone=true→rows=[]):=by
 cases h with
 | base h =>
  cases h with
  | sl0 s a cap=>exact ⟨_,_,_,rfl,fun _=>rfl⟩
  | sl hp hn hc h=>exact ⟨_,_,_,rfl,fun h=>by cases h⟩
theorem SafeOps.nilcmp (hE:E.good P=true) {l rest:List Oper} {op:Oper} {Q:Exit→St→Prop} {n t t' d e sz bt s:Nat} {x y:Operand} {z:List V} {tm:List (Nat×V)} {ob:List (Id×Obj)} {out:List (Nat×List (Nat×V))} {pa:Id} {rows:List (List V)}
 (hg:gd l tm op=some true) (hop:op.op=.binOp .eql t x y t') (hd:op.dst=some d) (hn:Nat.blt d n=true) (ht:ety E t=some ⟨.sli e,sz,bt,z⟩) (hx:ev tm x=.sl s rows) (hy:ev tm y=.nils)
 (h:∀b:Bool,(b=true→rows=[])→SafeOps r P gl l rest Q ⟨n,(d,.bool b)::tm,ob,out,pa⟩):SafeOps r P gl l (op::rest) Q ⟨n,tm,ob,out,pa⟩ :=
 SafeOps.done hg fun w0 pr0 ow a ao w B pr hs K hK=>by
  have h1:=ev_rc hs.tms x
  have h2:=ev_rc hs.tms y
  rw [hx] at h1
  rw [hy] at h2
  obtain ⟨ad,len,cap,e1,e2⟩:=slice_nil h1
  have e3:=h2.nils_inv
  have hu:=ty_sli (Env.ok hE ht)
  have hrun:(execOp a.eval op).run P w=.ok (.value (.bool ad.isNone)) w:=by
   unfold execOp
   rw [hop]
   have hq:(eqGuard .eql t x y (.slice ad len cap) (.slice none 0 0)).run P w=.ok () w:=by unfold eqGuard;simp
   simp only [e1,e3,Sem.run_bind,hq,binOp,Go.run_equal_slice_nil w t e ad len cap hu,Result.andThen_ok,Sem.run_pure]
  refine wp_value hrun ?_
  rw [hd]
  exact hK _ _ (h ad.isNone e2 _ _ _ _ _ _ _ _ { hs with tms:=hs.tms.put (by simpa using hn) (.base (.bool _)) })
end Go.AM
namespace Go.AM
open Go Go.RowKit
variable {r:Bool} {P:Program} {E:Env} {gl:List (Nat×List V)}
theorem One.put {w:World} {b:Nat} {o o':Go.Obj} (hb:w.heap[b]?=some o):One w { w with heap:=w.heap.setIfInBounds b o' } b∧({ w with heap:=w.heap.setIfInBounds b o' }:World).heap[b]?=some o' :=
 ⟨⟨rfl,rfl,rfl,Nat.le_refl _,by simp,fun i hi=>(MapKept.heap_set hb).2 i hi⟩,(MapKept.heap_set hb).1⟩
theorem Sim.mapAt {w0:World} {pr0 ow:Nat→Prop} {n:Nat} {tm:List (Nat×V)} {ob:List (Id×Obj)} {out:List (Nat×List (Nat×V))} {pa:Id} {a:Act} {ao:List (Array Value)} {w:World} {B:BM} {pr:Nat→Prop}
 (h:Sim gl w0 pr0 ow ⟨n,tm,ob,out,pa⟩ a ao w B pr) {o:Id} {es:List (V×V)} (ho:oget ob o=some (.map es)) {c:Value} (hc:RC w B pr (.mapr o) c) :
 ∃bd ms clock,B o=some bd∧¬pr bd.b∧bd.b < w.heap.size∧c=.map (some bd.b)∧w.heap[bd.b]?=some (.map ms clock)∧RCm w pr es ms.toList∧Stamps ms clock:=by
 cases hc with
 | base h=>cases h
 | mapr hB =>
  rcases h.obs _ _ ho with ⟨g1,_⟩|⟨_,⟨bd',hB',⟨q1,q2,ms,clock,q3,q4,q5⟩,_⟩|⟨hB',_,_,e⟩⟩
  ·cases g1
  ·rw [hB] at hB';injection hB' with hB';subst hB'
   exact ⟨_,ms,clock,hB,q1,q2,rfl,q3,q4,q5⟩
  ·cases e
theorem Stamps.push {ms:Array MapEntry} {clock:Nat} (h:Stamps ms clock) (k v:Value):Stamps (ms.push ⟨k,v,clock⟩) (clock+1):=by
 refine ⟨fun x hx=>?_,?_⟩
 ·rw [Array.toList_push] at hx
  rcases List.mem_append.1 hx with h1|h1
  ·have:=h.1 x h1;omega
  ·rw [List.mem_singleton.1 h1];exact Nat.lt_succ_self _
 ·rw [Array.toList_push,List.pairwise_append]
  refine ⟨h.2,by simp,fun x hx y hy=>?_⟩
  rw [List.mem_singleton.1 hy]
  exact Nat.ne_of_lt (h.1 x hx)
theorem Stamps.modify {ms:Array MapEntry} {clock:Nat} (h:Stamps ms clock) (j:Nat) (k v:Value):Stamps (ms.modify j fun e=>{ e with key:=k,val:=v }) clock:=by
 have hb:(ms.modify j fun e=>{ e with key:=k,val:=v }).toList.map (·.born)=ms.toList.map (·.born):=by
  rw [Array.toList_modify]
  apply List.ext_getElem?
  intro q
  simp only [List.getElem?_map,List.getElem?_modify]
  split
  ·cases ms.toList[q]?<;>rfl
  ·cases ms.toList[q]?<;>rfl
 refine ⟨fun x hx=>?_,?_⟩
 ·have:x.born∈(ms.modify j fun e=>{ e with key:=k,val:=v }).toList.map (·.born):=List.mem_map.2 ⟨x,hx,rfl⟩
  rw [hb] at this
  obtain ⟨y,hy,e⟩:=List.mem_map.1 this
  rw [←e];exact h.1 y hy
 ·have h2:(ms.toList.map (·.born)).Pairwise (·≠·):=List.pairwise_map.2 h.2
  rw [←hb] at h2
  exact List.pairwise_map.1 h2
theorem Stamps.erase {ms:Array MapEntry} {clock:Nat} (h:Stamps ms clock) (j:Nat) {ms':Array MapEntry} (e:ms'.toList=ms.toList.eraseIdx j):Stamps ms' clock :=
 ⟨fun x hx=>h.1 x (by rw [e] at hx;exact List.mem_of_mem_eraseIdx hx),by rw [e];exact h.2.sublist (List.eraseIdx_sublist _ _)⟩
theorem SafeOps.mput (hE:E.good P=true) {l rest:List Oper} {op:Oper} {Q:Exit→St→Prop} {n t:Nat} {x i y:Operand} {k e sz bt:Nat} {z:List V} {dk:Ty} {tm:List (Nat×V)} {ob:List (Id×Obj)} {out:List (Nat×List (Nat×V))} {pa:Id} {o:Id} {es es':List (V×V)}
 (hg:gd l tm op=some true) (hop:op.op=.mapUpdate t x i y∨op.op=.insert t x i y) (hd:op.dst=none) (ht:ety E t=some ⟨.map k e,sz,bt,z⟩) (hk:ety E k=some dk) (hx:ev tm x=.mapr o) (ho:oget ob o=some (.map es)) (hi:kKind dk.k (ev tm i)=true) (hf:V.free.frees [ev tm y]=true)
 (hr:vput (ev tm i) (ev tm y) es=some es')
 (h:SafeOps r P gl l rest Q ⟨n,tm,(o,.map es')::ob,out,pa⟩):SafeOps r P gl l (op::rest) Q ⟨n,tm,ob,out,pa⟩ :=
 SafeOps.done hg fun w0 pr0 ow a ao w B pr hsim K hK=>by
  have hxc:=ev_rc hsim.tms x
  rw [hx] at hxc
  obtain ⟨bd,ms,clock,hB,hnp,hlt,e1,e2,e3,est⟩:=hsim.mapAt ho hxc
  obtain ⟨u,hu,hkey,hk0⟩:=kKind_key (Env.ok hE hk) hi (ev_rc hsim.tms i)
  have hv0:RC0 w pr (ev tm y) (a.eval y):=by
   have:=RCl.free hf (.cons (ev_rc hsim.tms y) .nil)
   cases this with
   | cons h _=>exact h
  have key:∃ms' clock',(Instr.mapUpdate t (a.eval x) (a.eval i) (a.eval y)).run P w=.ok () { w with heap:=w.heap.setIfInBounds bd.b (.map ms' clock') }∧RCm w pr es' ms'.toList∧Stamps ms' clock':=by
   rcases vput_now hkey hk0 hv0 0 e3 hr with ⟨h1,h2⟩|⟨j,x',e',h1,h2,h3,h4⟩
   ·refine ⟨ms.push ⟨a.eval i,a.eval y,clock⟩,clock+1,?_,by rw [Array.toList_push];exact h2 clock,est.push _ _⟩
    simp [Instr.mapUpdate,e1,run_underlying (ty_map (Env.ok hE ht)),MapKept.run_getObj_map e2,MapKept.run_checkKey hu hkey,MapKept.run_findKey hu h1,MapKept.run_setObj_map _ e2,Result.andThen]
   ·rw [Nat.zero_add] at h1
    have hj:ms[j]?=some e':=by simpa using h2
    refine ⟨ms.modify j (fun e''=>{ e'' with key:=a.eval i,val:=a.eval y }),clock,?_,?_,est.modify j _ _⟩
    ·simp [Instr.mapUpdate,e1,run_underlying (ty_map (Env.ok hE ht)),MapKept.run_getObj_map e2,MapKept.run_checkKey hu hkey,MapKept.run_findKey hu h1,hj,Instr.keyThatStays,h3,MapKept.run_setObj_map _ e2,Result.andThen]
    ·have:(ms.modify j (fun e''=>{ e'' with key:=a.eval i,val:=a.eval y })).toList=ms.toList.set j { e' with key:=a.eval i,val:=a.eval y }:=by
      rw [Array.toList_modify]
      apply List.ext_getElem?
      intro q
      rw [List.getElem?_modify,List.getElem?_set]
      by_cases e:j=q
      ·subst e
       have hjl:=(List.getElem?_eq_some_iff.1 h2).1
       rw [if_pos rfl,if_pos hjl,h2];simp
      ·rw [if_neg e];simp [e]
     rw [this];exact h4
  obtain ⟨ms',clock',hrun,hrc,hst'⟩:=key
  obtain ⟨hone,hget⟩:=One.put (o':=.map ms' clock') e2
  have hlk:Like pr w ({ w with heap:=w.heap.setIfInBounds bd.b (.map ms' clock') }:World):=fun b hb=>hone.block b (fun e=>hnp (e▸hb))
  have hsim':=hsim.upd (x':=.map es') ho (by simp) (by simp) hB hnp hone ⟨hnp,by rw [hone.size];exact hlt,ms',clock',hget,hrc.move hlk (fun _ h=>h),hst'⟩
  unfold Oper.wp execOp
  rcases hop with hop|hop <;>
  ·rw [hop]
   simp only [hrun,Sem.run_bind,Result.andThen_ok,Sem.run_pure,Oper.upon]
   rw [hd]
   exact hK _ _ (h _ _ _ _ _ _ _ _ hsim')
theorem SafeOps.mdel (hE:E.good P=true) {l rest:List Oper} {op:Oper} {Q:Exit→St→Prop} {n t tk:Nat} {x i:Operand} {k e sz bt:Nat} {z:List V} {dk:Ty} {tm:List (Nat×V)} {ob:List (Id×Obj)} {out:List (Nat×List (Nat×V))} {pa:Id} {o:Id} {es es':List (V×V)}
 (hg:gd l tm op=some true) (hop:op.op=.call ⟨.builtin .delete,#[x,i],#[t,tk]⟩) (hd:op.dst=none) (ht:ety E t=some ⟨.map k e,sz,bt,z⟩) (hk:ety E k=some dk) (hx:ev tm x=.mapr o) (ho:oget ob o=some (.map es)) (hi:kKind dk.k (ev tm i)=true)
 (hr:vdel (ev tm i) es=some es')
 (h:SafeOps r P gl l rest Q ⟨n,tm,(o,.map es')::ob,out,pa⟩):SafeOps r P gl l (op::rest) Q ⟨n,tm,ob,out,pa⟩ :=
 SafeOps.done hg fun w0 pr0 ow a ao w B pr hsim K hK=>by
  have hxc:=ev_rc hsim.tms x
  rw [hx] at hxc
  obtain ⟨bd,ms,clock,hB,hnp,hlt,e1,e2,e3,est⟩:=hsim.mapAt ho hxc
  obtain ⟨u,hu,hkey,hk0⟩:=kKind_key (Env.ok hE hk) hi (ev_rc hsim.tms i)
  have key:∃ms' clock',(∀ty,(Builtin.delete_ #[t,tk] ty #[a.eval x,a.eval i]).run P w=.ok (.tuple #[]) { w with heap:=w.heap.setIfInBounds bd.b (.map ms' clock') })∧RCm w pr es' ms'.toList∧Stamps ms' clock':=by
   rcases vdel_now hkey hk0 0 e3 hr with ⟨h1,h2⟩|⟨j,x',h1,h2,h4⟩
   ·refine ⟨ms,clock,fun ty=>?_,h2,est⟩
    simp [Builtin.delete_,e1,run_underlying (ty_map (Env.ok hE ht)),MapKept.run_getObj_map e2,MapKept.run_checkKey hu hkey,MapKept.run_findKey hu h1,MapKept.run_setObj_map _ e2,Result.andThen]
   ·rw [Nat.zero_add] at h1
    have hjs:j < ms.size:=by simpa using h2
    have hsub:(ms.eraseIdxIfInBounds j).toList=ms.toList.eraseIdx j:=by
     unfold Array.eraseIdxIfInBounds
     rw [dif_pos hjs]
     simp
    refine ⟨ms.eraseIdxIfInBounds j,clock,fun ty=>?_,by rw [hsub];exact h4,est.erase j hsub⟩
    simp [Builtin.delete_,e1,run_underlying (ty_map (Env.ok hE ht)),MapKept.run_getObj_map e2,MapKept.run_checkKey hu hkey,MapKept.run_findKey hu h1,MapKept.run_setObj_map _ e2,Result.andThen]
  obtain ⟨ms',clock',hrun,hrc,hst'⟩:=key
  obtain ⟨hone,hget⟩:=One.put (o':=.map ms' clock') e2
  have hlk:Like pr w ({ w with heap:=w.heap.setIfInBounds bd.b (.map ms' clock') }:World):=fun b hb=>hone.block b (fun e=>hnp (e▸hb))
  have hsim':=hsim.upd (x':=.map es') ho (by simp) (by simp) hB hnp hone ⟨hnp,by rw [hone.size];exact hlt,ms',clock',hget,hrc.move hlk (fun _ h=>h),hst'⟩
  unfold Oper.wp execOp
  rw [hop]
  simp only [resolve,invoke,builtin,List.map_toArray,List.map_cons,List.map_nil,hrun,Sem.run_bind,Result.andThen_ok,Sem.run_pure,Oper.upon]
  rw [hd]
  exact hK _ _ (h _ _ _ _ _ _ _ _ hsim')
section
variable {κ β:Type} [DecidableEq κ]
def mget (m:List (κ×β)) (k:κ):Option β:=match m with
 | []=>none
 | (x,v)::r=>if k=x then some v else mget r k
def mput (m:List (κ×β)) (k:κ) (v:β):List (κ×β):=match m with
 | []=>[(k,v)]
 | (x,u)::r=>if k=x then (k,v)::r else (x,u)::mput r k v
def mdel (m:List (κ×β)) (k:κ):List (κ×β):=match m with
 | []=>[]
 | (x,u)::r=>if k=x then r else (x,u)::mdel r k
def mps (fk:κ→V) (fv:β→V) (m:List (κ×β)):List (V×V):=m.map fun p=>(fk p.1,fv p.2)
def KeyF (fk:κ→V):Prop:=∀a b,kSame (fk a) (fk b)=some (decide (a=b))
theorem mps_len {fk:κ→V} {fv:β→V} {m:List (κ×β)}:(mps fk fv m).length=m.length:=List.length_map _
theorem vget_mps {fk:κ→V} {fv:β→V} (hf:KeyF fk) (k:κ):∀(m:List (κ×β)),vget (fk k) (mps fk fv m)=some ((mget m k).map fv)
 | []=>rfl
 | (x,v)::r=>by
  have ih:=vget_mps (fv:=fv) hf k r
  have h:=hf k x
  simp only [mps,List.map_cons,vget,mget] at ih ⊢
  rw [h]
  by_cases e:k=x
  ·rw [decide_eq_true e,if_pos e];rfl
  ·rw [decide_eq_false e,if_neg e];exact ih
theorem vput_mps {fk:κ→V} {fv:β→V} (hf:KeyF fk) (k:κ) (v:β):∀(m:List (κ×β)),vput (fk k) (fv v) (mps fk fv m)=some (mps fk fv (mput m k v))
 | []=>rfl
 | (x,u)::r=>by
  have ih:=vput_mps (fv:=fv) hf k v r
  have h:=hf k x
  simp only [mps,List.map_cons,vput,mput] at ih ⊢
  rw [h]
  by_cases e:k=x
  ·rw [decide_eq_true e,if_pos e];rfl
  ·rw [decide_eq_false e,if_neg e];simp only [ih]<;>rfl
end
theorem keyI (k:IntKind):KeyF (fun n:Int=>V.int k n):=fun a b=>by simp [kSame]
theorem look_get {β:Type} {fv:β→V} (z:β) (r:Option β):lookV (fv z) false (r.map fv)=fv (r.getD z):=by cases r<;>rfl
theorem look_is {β:Type} {fv:β→V} (z:β) (r:Option β):lookV (fv z) true (r.map fv)=.tup [fv (r.getD z),.bool r.isSome]:=by cases r<;>rfl
section
variable {κ β:Type} [DecidableEq κ]
theorem QEv.lookM {tm:List (Nat×V)} {ob:List (Id×Obj)} {id:Id} {t:Nat} {x i:Operand} {k e sz bt:Nat} {z:List V} {dk de:Ty} {o:Id} {fk:κ→V} {fv:β→V} {m:List (κ×β)} {kk:κ} {z0:β} {v:V}
 (hf:KeyF fk) (ht:ety E t=some ⟨.map k e,sz,bt,z⟩) (hk:ety E k=some dk) (he:ety E e=some de) (hz:de.zero=[fv z0]) (hag:de.k.isAgg=false) (hx:ev tm x=.mapr o) (ho:oget ob o=some (.map (mps fk fv m))) (hi:ev tm i=fk kk) (hkk:kKind dk.k (fk kk)=true)
 (hv:fv ((mget m kk).getD z0)=v) :
 QEv P E gl tm ob id (.lookup t x i false) v []:=by
 subst hv
 rw [←look_get (fv:=fv)]
 exact .look ht hk he hz hag hx ho (by rw [hi];exact hkk) (by rw [hi];exact vget_mps hf kk m)
theorem QEv.lookM2 {tm:List (Nat×V)} {ob:List (Id×Obj)} {id:Id} {t:Nat} {x i:Operand} {k e sz bt:Nat} {z:List V} {dk de:Ty} {o:Id} {fk:κ→V} {fv:β→V} {m:List (κ×β)} {kk:κ} {z0:β} {v:V}
 (hf:KeyF fk) (ht:ety E t=some ⟨.map k e,sz,bt,z⟩) (hk:ety E k=some dk) (he:ety E e=some de) (hz:de.zero=[fv z0]) (hag:de.k.isAgg=false) (hx:ev tm x=.mapr o) (ho:oget ob o=some (.map (mps fk fv m))) (hi:ev tm i=fk kk) (hkk:kKind dk.k (fk kk)=true)
 (hv:.tup [fv ((mget m kk).getD z0),.bool (mget m kk).isSome]=v) :
 QEv P E gl tm ob id (.lookup t x i true) v []:=by
 subst hv
 rw [←look_is (fv:=fv)]
 exact .look ht hk he hz hag hx ho (by rw [hi];exact hkk) (by rw [hi];exact vget_mps hf kk m)
theorem QEv.lenMM {tm:List (Nat×V)} {ob:List (Id×Obj)} {id:Id} {t:Nat} {x:Operand} {k e sz bt:Nat} {z:List V} {o:Id} {fk:κ→V} {fv:β→V} {m:List (κ×β)}
 (ht:ety E t=some ⟨.map k e,sz,bt,z⟩) (hx:ev tm x=.mapr o) (ho:oget ob o=some (.map (mps fk fv m))) :
 QEv P E gl tm ob id (.call ⟨.builtin .len,#[x],#[t]⟩) (.int .i64 ((m.length:Nat):Int)) []:=by
 have:=QEv.lenM (P:=P) (gl:=gl) (id:=id) ht hx ho
 rwa [mps_len] at this
theorem QEv.mkMapM {tm:List (Nat×V)} {ob:List (Id×Obj)} {id:Id} {t:Nat} (fk:κ→V) (fv:β→V):QEv P E gl tm ob id (.makeMap t none) (.mapr id) [(id,.map (mps fk fv []))]:=.mkMap
theorem SafeOps.mputM (fk:κ→V) (fv:β→V) (m:List (κ×β)) (kk:κ) (v:β) (hE:E.good P=true) {l rest:List Oper} {op:Oper} {Q:Exit→St→Prop} {n t:Nat} {x i y:Operand} {k e sz bt:Nat} {z:List V} {dk:Ty} {tm:List (Nat×V)} {ob:List (Id×Obj)} {out:List (Nat×List (Nat×V))} {pa:Id} {o:Id}
 (hf:KeyF fk) (hg:gd l tm op=some true) (hop:op.op=.mapUpdate t x i y∨op.op=.insert t x i y) (hd:op.dst=none) (ht:ety E t=some ⟨.map k e,sz,bt,z⟩) (hk:ety E k=some dk) (hx:ev tm x=.mapr o) (ho:oget ob o=some (.map (mps fk fv m)))
 (hi:ev tm i=fk kk) (hkk:kKind dk.k (fk kk)=true) (hy:ev tm y=fv v) (hfr:V.free.frees [fv v]=true)
 (h:SafeOps r P gl l rest Q ⟨n,tm,(o,.map (mps fk fv (Go.AM.mput m kk v)))::ob,out,pa⟩):SafeOps r P gl l (op::rest) Q ⟨n,tm,ob,out,pa⟩ :=
 SafeOps.mput hE hg hop hd ht hk hx ho (by rw [hi];exact hkk) (by rw [hy];exact hfr) (by rw [hi,hy];exact vput_mps hf kk v m) h
end
def fewB (b n:Nat):Prop:=n*b≤140737488355328∧n≤9223372036854775807
instance (b n:Nat):Decidable (fewB b n):=inferInstanceAs (Decidable (n*b≤140737488355328∧n≤9223372036854775807))
theorem QEv.slRefH {α:Type} {f:α→List V} {xs:List α} {tm:List (Nat×V)} {ob:List (Id×Obj)} {id:Id} {t:Nat} {x hi:Operand} {e sz bt:Nat} {z:List V} {de:Ty} {o:Id} {k:IntKind} {n:Int}
 (ht:ety E t=some ⟨.sli e,sz,bt,z⟩) (he:ety E e=some de) (hx:ev tm x=.ref o 0 (rws f xs).length) (ho:oget ob o=some (.rows de.size (rws f xs) false)) (hh:ev tm hi=.int k n) (hb:0≤n∧n≤(xs.length:Int)) :
 QEv P E gl tm ob id (.slice t x none (some hi) none) (.ref o 0 n.toNat) []:=by
 have:=QEv.slRef (P:=P) (gl:=gl) (id:=id) (lo:=none) (hi:=some hi) (l:=0) (h:=n.toNat) ht he hx ho rfl .no (.lim hh hb.1) (by omega) (by rw [rws_len];omega)
 simpa using this
end Go.AM
namespace Go.AM
open Go Go.RowKit
variable {r:Bool} {P:Program} {E:Env} {gl:List (Nat×List V)}
inductive Fit:List (Id×Obj)→List (Id×Obj)→Prop
 | nil:Fit [] []
 | box {o:Id} {cs:List V} {r r':List (Id×Obj)} (h:Fit r r'):Fit ((o,.box cs)::r) ((o,.box cs)::r')
 | map {o:Id} {es es':List (V×V)} {r r':List (Id×Obj)} (h:Fit r r'):Fit ((o,.map es)::r) ((o,.map es')::r')
theorem Fit.get:∀{a b:List (Id×Obj)},Fit a b→∀{o:Id} {x':Obj},oget b o=some x'→(∃cs,oget a o=some (.box cs)∧x'=.box cs)∨(∃es es',oget a o=some (.map es)∧x'=.map es')
 | _,_,.nil,o,x',h=>by simp [oget] at h
 | _,_,.box h,o,x',hx=>by
  simp only [oget] at hx ⊢
  split at hx
  ·injection hx with hx;subst hx;exact .inl ⟨_,rfl,rfl⟩
  ·exact Fit.get h hx
 | _,_,.map h,o,x',hx=>by
  simp only [oget] at hx ⊢
  split at hx
  ·injection hx with hx;subst hx;exact .inr ⟨_,_,rfl,rfl⟩
  ·exact Fit.get h hx
theorem Fit.none:∀{a b:List (Id×Obj)},Fit a b→∀{o:Id},(oget a o=none↔oget b o=none)
 | _,_,.nil,o=>by simp [oget]
 | _,_,.box h,o=>by simp only [oget];split<;>simp [Fit.none h]
 | _,_,.map h,o=>by simp only [oget];split<;>simp [Fit.none h]
theorem Fit.self:∀{a b:List (Id×Obj)},Fit a b→Fit a a
 | _,_,.nil=>.nil
 | _,_,.box h=>.box h.self
 | _,_,.map h=>.map h.self
def subO:List (Id×Obj)→List (Id×Obj)→Prop
 | [],_=>True
 | (o,x)::r,ob=>oget ob o=some x∧subO r ob
theorem subO.get:∀{a ob:List (Id×Obj)},subO a ob→∀{o:Id} {x:Obj},oget a o=some x→oget ob o=some x
 | [],_,_,o,x,h=>by simp [oget] at h
 | (k,y)::r,ob,hs,o,x,h=>by
  simp only [oget] at h
  split at h
  ·rename_i e
   injection h with h;subst h
   rw [←idEq_iff.1 e];exact hs.1
  ·exact subO.get hs.2 h
def hasO:List (Id×Obj)→Id→Bool
 | [],_=>false
 | (k,_)::r,o=>idEq k o||hasO r o
theorem hasO_get:∀{a:List (Id×Obj)} {o:Id},hasO a o=true→oget a o≠none
 | [],o,h=>by simp [hasO] at h
 | (k,y)::r,o,h=>by
  simp only [hasO,Bool.or_eq_true] at h
  simp only [oget]
  split
  ·simp
  ·rename_i e
   rcases h with h|h
   ·rw [h] at e;cases e
   ·exact hasO_get h
def hasB:List (Id×Obj)→Id→Bool
 | [],_=>false
 | (k,.box _)::r,o=>idEq k o||hasB r o
 | _::r,o=>hasB r o
mutual
def V.pts (a:List (Id×Obj)):V→Bool
 | .ref ..|.bref ..|.yld ..|.itr ..=>false
 | .ptr o row _=>Nat.beq row 0&&hasB a o
 | .mapr o=>hasO a o
 | .agg cs=>V.ptss a cs
 | .tup cs=>V.ptss a cs
 | .fn _ cs=>V.ptss a cs
 | _=>true
def V.ptss (a:List (Id×Obj)):List V→Bool
 | []=>true
 | v::r=>V.pts a v&&V.ptss a r
end
def boxPts (a:List (Id×Obj)):List (Id×Obj)→Bool
 | []=>true
 | (_,.box cs)::r=>V.ptss a cs&&boxPts a r
 | _::r=>boxPts a r
theorem boxPts_get {a:List (Id×Obj)}:∀{b:List (Id×Obj)},boxPts a b=true→∀{o:Id} {cs:List V},oget b o=some (.box cs)→V.ptss a cs=true
 | [],_,o,cs,h=>by simp [oget] at h
 | (k,x)::r,hb,o,cs,h=>by
  simp only [oget] at h
  split at h
  ·injection h with h;subst h
   simp only [boxPts,Bool.and_eq_true] at hb
   exact hb.1
  ·refine boxPts_get (b:=r) ?_ h
   cases x<;>simp_all [boxPts]
mutual
theorem RC.conv {w:World} {B B':BM} {pr:Nat→Prop} {a:List (Id×Obj)} (h:∀o bd,hasO a o=true→B o=some bd→∃bd',B' o=some bd'∧bd'.b=bd.b) (hb:∀o bd,hasB a o=true→B o=some bd→∃bd',B' o=some bd'∧bd'.b=bd.b∧bd'.base=bd.base) :
 ∀{v:V} {c:Value},RC w B pr v c→V.pts a v=true→RC w B' pr v c
 | _,_,.base h0,_=>.base h0
 | _,_,.ref ..,hp=>by simp [V.pts] at hp
 | _,_,.ref0 ..,hp=>by simp [V.pts] at hp
 | _,_,.bref ..,hp=>by simp [V.pts] at hp
 | _,_,.yld ..,hp=>by simp [V.pts] at hp
 | _,_,.itr ..,hp=>by simp [V.pts] at hp
 | _,_,.ptr (o:=o) (row:=row) (off:=off) (bd:=bd) ho,hp=>by
  simp only [V.pts,Bool.and_eq_true] at hp
  obtain ⟨bd',h1,h2,h3⟩:=hb o bd hp.2 ho
  have hr:row=0:=Nat.eq_of_beq_eq_true hp.1
  subst hr
  have:=RC.ptr (w:=w) (pr:=pr) (row:=0) (off:=off) h1
  simpa [h2,h3] using this
 | _,_,.mapr (o:=o) (bd:=bd) ho,hp=>by
  simp only [V.pts] at hp
  obtain ⟨bd',h1,h2⟩:=h o bd hp ho
  have:=RC.mapr (w:=w) (pr:=pr) h1
  rwa [h2] at this
 | _,_,.agg h0,hp=>.agg (RCl.conv h hb h0 (by simpa [V.pts] using hp))
 | _,_,.tup h0,hp=>.tup (RCl.conv h hb h0 (by simpa [V.pts] using hp))
 | _,_,.fn h0,hp=>.fn (RCl.conv h hb h0 (by simpa [V.pts] using hp))
theorem RCl.conv {w:World} {B B':BM} {pr:Nat→Prop} {a:List (Id×Obj)} (h:∀o bd,hasO a o=true→B o=some bd→∃bd',B' o=some bd'∧bd'.b=bd.b) (hb:∀o bd,hasB a o=true→B o=some bd→∃bd',B' o=some bd'∧bd'.b=bd.b∧bd'.base=bd.base) :
 ∀{vs:List V} {cs:List Value},RCl w B pr vs cs→V.ptss a vs=true→RCl w B' pr vs cs
 | _,_,.nil,_=>.nil
 | _,_,.cons h0 t,hp=>by
  simp only [V.ptss,Bool.and_eq_true] at hp
  exact .cons (RC.conv h hb h0 hp.1) (RCl.conv h hb t hp.2)
end
def SI (P:Program) (gl:List (Nat×List V)) (f:FuncId) (us:List V) (obs obs':List (Id×Obj)) (res:V):Prop :=
 (∀(xs:Array Value) (w:World),(callFunc f xs).run P w=.ok (.enter f xs) w) ∧
 ∀(w:World) (B:BM) (pr ow:Nat→Prop) (cs:List Value),(∀b,pr b→b < w.heap.size)→GlobAt w pr gl→RCl w B pr us cs →
  (∀o x,oget obs o=some x→∃bd,B o=some bd∧ObjAt w B pr bd x∧ow bd.b)→(∀o,oget obs o=none→B o=none) →
  (∀o o' bd bd',B o=some bd→B o'=some bd'→bd.b=bd'.b→o=o') →
  Calls P f cs.toArray w fun e w'=>∃c pr',e=.returned c∧Keep w ow w'∧(∀b,pr b→pr' b)∧(∀b,pr' b→pr b∨ow b∨w.heap.size≤b)∧(∀b,pr' b→b < w'.heap.size)∧GlobAt w' pr' gl ∧
   RC0 w' pr' res c∧∀o x,oget obs' o=some x→∃bd,B o=some bd∧ObjAt w' B pr' bd x
def lk:Nat→List (Id×Obj)→List (Nat×V)
 | _,[]=>[]
 | k,(o,.box _)::r=>(k,.ptr o 0 0)::lk (k+1) r
 | k,(o,.map _)::r=>(k,.mapr o)::lk (k+1) r
 | k,_::r=>lk (k+1) r
def siQ (E:Env) (gl:List (Nat×List V)) (fn:Func) (obs obs':List (Id×Obj)) (res:V):Exit→St→Prop:=fun e σ =>
 (e=.normal∨e=.ret)∧∃vs,RVs E gl σ.tm σ.ob fn.results.toList vs∧oneV vs=res∧σ.out=[(obs.length,lk 0 obs)]∧subO obs' σ.ob
theorem siQ.gen {fn:Func} {obs obs':List (Id×Obj)} {res:V} {vs:List V} {rs:List ResultVar} {n:Nat} {tm:List (Nat×V)} {ob:List (Id×Obj)} {out:List (Nat×List (Nat×V))} {pa:Id}
 (hr:fn.results.toList=rs) (hv:RVs E gl tm ob rs vs) (h1:oneV vs=res) (h2:out=[(obs.length,lk 0 obs)]) (h3:subO obs' ob) {e:Exit} (he:e=.normal∨e=.ret):siQ E gl fn obs obs' res e ⟨n,tm,ob,out,pa⟩ :=
 ⟨he,vs,by rw [hr];exact hv,h1,h2,h3⟩
def lkv (B:BM):List (Id×Obj)→List Value
 | []=>[]
 | (o,.box _)::r=>(match B o with|some bd=>.pointer (some ⟨bd.b,bd.base,none⟩)|none=>undef)::lkv B r
 | (o,.map _)::r=>(match B o with|some bd=>.map (some bd.b)|none=>undef)::lkv B r
 | _::r=>undef::lkv B r
theorem lkv_length (B:BM):∀a,(lkv B a).length=a.length
 | []=>rfl
 | (_,.box _)::r=>by simp [lkv,lkv_length B r]
 | (_,.map _)::r=>by simp [lkv,lkv_length B r]
 | (_,.dead)::r=>by simp [lkv,lkv_length B r]
 | (_,.rows ..)::r=>by simp [lkv,lkv_length B r]
 | (_,.gmap ..)::r=>by simp [lkv,lkv_length B r]
 | (_,.pmap ..)::r=>by simp [lkv,lkv_length B r]
 | (_,.iter ..)::r=>by simp [lkv,lkv_length B r]
 | (_,.loop ..)::r=>by simp [lkv,lkv_length B r]
theorem lk_rc {w:World} {B:BM} {pr:Nat→Prop}:∀{a b:List (Id×Obj)},Fit a b→(∀o,oget a o≠none→B o≠none)→∀(k t:Nat),RC w B pr (tget (lk k a) t) ((lkv B a).getD (t - k) undef)∨t < k
 | _,_,.nil,_,k,t=>by
  by_cases h:t < k
  ·exact .inr h
  ·exact .inl (by simp only [lk,tget];exact .base (.undef _))
 | _,_,.box (o:=o) (cs:=cs) (r:=r) h,hB,k,t=>by
  by_cases h0:t < k
  ·exact .inr h0
  ·refine .inl ?_
   simp only [lk,lkv,tget_put]
   by_cases e:k=t
   ·subst e
    rw [if_pos rfl,Nat.sub_self]
    cases hb:B o with
    | none=>exact absurd hb (hB o (by simp [oget,idEq_iff.2 rfl]))
    | some bd =>
     have:=RC.ptr (w:=w) (pr:=pr) (row:=0) (off:=0) hb
     simpa using this
   ·rw [if_neg e,show t - k=(t - (k+1))+1 by omega]
    rcases lk_rc (w:=w) (B:=B) (pr:=pr) h (fun o' ho'=>hB o' (by simp only [oget];split<;>simp_all)) (k+1) t with h1|h1
    ·simpa using h1
    ·omega
 | _,_,.map (o:=o) (es:=es) (r:=r) h,hB,k,t=>by
  by_cases h0:t < k
  ·exact .inr h0
  ·refine .inl ?_
   simp only [lk,lkv,tget_put]
   by_cases e:k=t
   ·subst e
    rw [if_pos rfl,Nat.sub_self]
    cases hb:B o with
    | none=>exact absurd hb (hB o (by simp [oget,idEq_iff.2 rfl]))
    | some bd=>simpa using RC.mapr (w:=w) (pr:=pr) hb
   ·rw [if_neg e,show t - k=(t - (k+1))+1 by omega]
    rcases lk_rc (w:=w) (B:=B) (pr:=pr) h (fun o' ho'=>hB o' (by simp only [oget];split<;>simp_all)) (k+1) t with h1|h1
    ·simpa using h1
    ·omega
theorem RC.mapr_inv {w:World} {B:BM} {pr:Nat→Prop} {o:Id} {c:Value} (h:RC w B pr (.mapr o) c):∃bd,B o=some bd∧c=.map (some bd.b):=by
 cases h with
 | base h=>cases h
 | mapr ho=>exact ⟨_,ho,rfl⟩
theorem lk_same {w:World} {B Bf:BM} {pr:Nat→Prop}:∀{a b:List (Id×Obj)},Fit a b→∀(k:Nat),(∀t,RC w Bf pr (tget (lk k a) t) ((lkv B a).getD (t - k) undef)∨t < k) →
 ∀o bd,oget a o≠none→B o=some bd→(∀cs,oget a o=some (.box cs)→∃bdf,Bf o=some bdf∧bdf.b=bd.b∧bdf.base=bd.base)∧(∀es,oget a o=some (.map es)→∃bdf,Bf o=some bdf∧bdf.b=bd.b)
 | _,_,.nil,k,_,o,bd,ho,_=>by simp [oget] at ho
 | _,_,.box (o:=o0) (cs:=cs0) (r:=r) h,k,ht,o,bd,ho,hb=>by
  simp only [oget]
  by_cases e:idEq o0 o=true
  ·rw [e]
   have e':=idEq_iff.1 e
   subst e'
   refine ⟨fun cs _=>?_,fun es he=>(by cases he)⟩
   rcases ht k with h1|h1
   ·simp only [lk,lkv,tget_put,if_true,Nat.sub_self,hb] at h1
    obtain ⟨bdf,g1,g2⟩:=RC.ptr_inv (by simpa using h1)
    simp at g2
    exact ⟨bdf,g1,g2.1.symm,g2.2.symm⟩
   ·omega
  ·rw [Bool.not_eq_true] at e
   rw [e]
   have ho':oget r o≠none:=by simpa [oget,e] using ho
   refine lk_same (w:=w) (pr:=pr) h (k+1) (fun t=>?_) o bd ho' hb
   by_cases h0:t < k+1
   ·exact .inr h0
   ·refine .inl ?_
    rcases ht t with h1|h1
    ·simp only [lk,lkv,tget_put] at h1
     rw [if_neg (by omega),show t - k=(t - (k+1))+1 by omega] at h1
     simpa using h1
    ·omega
 | _,_,.map (o:=o0) (es:=es0) (r:=r) h,k,ht,o,bd,ho,hb=>by
  simp only [oget]
  by_cases e:idEq o0 o=true
  ·rw [e]
   have e':=idEq_iff.1 e
   subst e'
   refine ⟨fun cs he=>(by cases he),fun es _=>?_⟩
   rcases ht k with h1|h1
   ·simp only [lk,lkv,tget_put,if_true,Nat.sub_self,hb] at h1
    have h2:RC w Bf pr (.mapr o0) (.map (some bd.b)):=by simpa using h1
    obtain ⟨bdf,g,e⟩:=h2.mapr_inv
    injection e with e;injection e with e
    exact ⟨bdf,g,e.symm⟩
   ·omega
  ·rw [Bool.not_eq_true] at e
   rw [e]
   have ho':oget r o≠none:=by simpa [oget,e] using ho
   refine lk_same (w:=w) (pr:=pr) h (k+1) (fun t=>?_) o bd ho' hb
   by_cases h0:t < k+1
   ·exact .inr h0
   ·refine .inl ?_
    rcases ht t with h1|h1
    ·simp only [lk,lkv,tget_put] at h1
     rw [if_neg (by omega),show t - k=(t - (k+1))+1 by omega] at h1
     simpa using h1
    ·omega
theorem Fit.alive {a b:List (Id×Obj)} (h:Fit a b) {o:Id} {x:Obj} (hx:oget a o=some x):(∃cs,x=.box cs)∨∃es,x=.map es:=by
 rcases h.self.get hx with ⟨cs,_,h2⟩|⟨es,es',_,h2⟩
 ·exact .inl ⟨cs,h2⟩
 ·exact .inr ⟨es',h2⟩
theorem hasO_some {a:List (Id×Obj)} {o:Id} (h:hasO a o=true):∃x,oget a o=some x:=Option.ne_none_iff_exists'.1 (hasO_get h)
def once:List (Id×Obj)→Bool
 | []=>true
 | (k,_)::r=>!hasO r k&&once r
theorem hasB_get:∀{a b:List (Id×Obj)},Fit a b→once a=true→∀{o:Id},hasB a o=true→∃cs,oget a o=some (.box cs)
 | _,_,.nil,_,o,h=>by simp [hasB] at h
 | _,_,.box (o:=k) (r:=r) h,hn,o,hb=>by
  simp only [hasB,Bool.or_eq_true] at hb
  simp only [once,Bool.and_eq_true] at hn
  simp only [oget]
  split
  ·exact ⟨_,rfl⟩
  ·rename_i e
   rcases hb with hb|hb
   ·rw [hb] at e;cases e
   ·exact hasB_get h hn.2 hb
 | _,_,.map (o:=k) (r:=r) h,hn,o,hb=>by
  simp only [hasB] at hb
  simp only [once,Bool.and_eq_true,Bool.not_eq_true'] at hn
  obtain ⟨cs,h1⟩:=hasB_get h hn.2 hb
  simp only [oget]
  split
  ·rename_i e
   have e':=idEq_iff.1 e
   subst e'
   exfalso
   have:hasO r k=true:=by
    have key:∀(l:List (Id×Obj)),oget l k=some (.box cs)→hasO l k=true:=by
     intro l
     induction l with
     | nil=>intro h;simp [oget] at h
     | cons p l ih =>
      obtain ⟨q,y⟩:=p
      intro h
      simp only [hasO,Bool.or_eq_true]
      simp only [oget] at h
      split at h
      ·rename_i e;exact .inl e
      ·exact .inr (ih h)
    exact key r h1
   rw [this] at hn;cases hn.1
  ·exact ⟨cs,h1⟩
theorem SI.of (hE:E.good P=true) {f:FuncId} {fn:Func} {c:Code} {us:List V} {obs obs':List (Id×Obj)} {res:V} {pa:Id} (hf:P.funcs[f]?=some fn) (hb:fn.body=some c) (hc:∀(xs:Array Value) (w:World),(callFunc f xs).run P w=.ok (.enter f xs) w)
 (hn:Nat.ble us.length fn.ntmps=true) (hfit:Fit obs obs') (hon:once obs=true) (hbp:boxPts obs obs=true) (hfree:res.free=true)
 (h:Safe false P gl c (siQ E gl fn obs obs' res) ⟨fn.ntmps,initTm 0 us,obs,[(obs.length,lk 0 obs)],pa⟩):SI P gl f us obs obs' res:=by
 refine ⟨hc,fun w B pr ow cs hpr hg hrc hobs hnone hinj=>?_⟩
 have hlen:=hrc.length
 have hle:us.length≤fn.ntmps:=Nat.le_of_ble_eq_true hn
 have hBne:∀o,oget obs o≠none→B o≠none:=fun o ho=>by
  obtain ⟨x,hx⟩:=Option.ne_none_iff_exists'.1 ho
  obtain ⟨bd,h1,_⟩:=hobs o x hx
  rw [h1];simp
 refine calls_of_safe hf hb h (w0:=w) (pr0:=pr) (ow:=ow) (ao:=[(lkv B obs).toArray]) (B:=B) (pr:=pr) ?_ ?_
 ·refine ⟨.nil,⟨by simp;omega,fun t=>?_⟩,⟨⟨by simp [lkv_length],fun t=>?_⟩,trivial⟩,hnone,fun o x hx=>?_,fun o o' bd bd' _ _=>hinj o o' bd bd',hpr,fun _ h=>h,fun _ h=>.inl h,hg,.refl _ _⟩
  ·simp only [initTm_get,Nat.zero_le,if_true,Nat.sub_zero]
   cases hx:us[t]? with
   | none=>exact .base (.undef _)
   | some v =>
    obtain ⟨c',h1,h2⟩:=hrc.get hx
    have hlt:t < cs.length:=(List.getElem?_eq_some_iff.1 h1).1
    have:(cs.toArray++Array.replicate (fn.ntmps - cs.toArray.size) undef).getD t undef=c':=by
     rw [Array.getD_eq_getD_getElem?,Array.getElem?_append_left (by simpa using hlt)]
     simp [h1]
    rw [this]
    exact h2
  ·rcases lk_rc (w:=w) (B:=B) (pr:=pr) hfit hBne 0 t with h1|h1
   ·simpa using h1
   ·omega
  ·obtain ⟨bd,h1,h2,h3⟩:=hobs o x hx
   refine .inr ⟨?_,.inl ⟨bd,h1,h2,.inl h3⟩⟩
   rcases hfit.alive hx with ⟨_,rfl⟩|⟨_,rfl⟩<;>simp
 ·rintro e σ a' w'0 Bf prf ⟨he,vs,h1,h2,h3,h4⟩ hs0
  refine ⟨he,fun w' hs=>?_⟩
  obtain ⟨cs',g1,g2⟩:=rvs_run (P:=P) hE hs.q h1
  have hres:(results fn a'.tmps).run P w'=.ok (if h:cs'.toArray.size=1 then cs'.toArray[0] else .tuple cs'.toArray) w':=by
   unfold results
   rw [Array.mapM_eq_mapM_toList,Sem.run_bind,Sem.run_map]
   erw [g1]
   rfl
  have hrv:RC w' Bf prf (oneV vs) (if h:cs'.toArray.size=1 then cs'.toArray[0] else .tuple cs'.toArray):=by
   cases g2 with
   | nil=>simp [oneV];exact .tup .nil
   | cons p1 p2 =>
    cases p2 with
    | nil=>simpa [oneV] using p1
    | cons p2 p3=>simpa [oneV] using RC.tup (.cons p1 (.cons p2 p3))
  rw [h2] at hrv
  have hout:=hs.outs
  rw [h3] at hout
  have hlink:=lk_same (w:=w') (Bf:=Bf) (B:=B) (pr:=prf) hfit 0 (fun t=>by
   have:=hout.1.2 t
   left;simpa using this)
  have hB1:∀o bdf,hasO obs o=true→Bf o=some bdf→∃bd',B o=some bd'∧bd'.b=bdf.b:=fun o bdf ho hbf=>by
   obtain ⟨x,hx⟩:=hasO_some ho
   obtain ⟨bd,q1,_⟩:=hobs o x hx
   have hl:=hlink o bd (by rw [hx];simp) q1
   rcases hfit.alive hx with ⟨cs,rfl⟩|⟨es,rfl⟩
   ·obtain ⟨b',r1,r2,_⟩:=hl.1 cs hx
    rw [hbf] at r1;injection r1 with r1;subst r1
    exact ⟨bd,q1,r2.symm⟩
   ·obtain ⟨b',r1,r2⟩:=hl.2 es hx
    rw [hbf] at r1;injection r1 with r1;subst r1
    exact ⟨bd,q1,r2.symm⟩
  have hB2:∀o bdf,hasB obs o=true→Bf o=some bdf→∃bd',B o=some bd'∧bd'.b=bdf.b∧bd'.base=bdf.base:=fun o bdf ho hbf=>by
   obtain ⟨cs,hx⟩:=hasB_get hfit hon ho
   obtain ⟨bd,q1,_⟩:=hobs o _ hx
   obtain ⟨b',r1,r2,r3⟩:=(hlink o bd (by rw [hx];simp) q1).1 cs hx
   rw [hbf] at r1;injection r1 with r1;subst r1
   exact ⟨bd,q1,r2.symm,r3.symm⟩
  have hobj:∀o x,oget obs' o=some x→∃bd,B o=some bd∧ObjAt w' B prf bd x:=fun o x hx=>by
   have hx2:=h4.get hx
   rcases hfit.get hx with ⟨cs0,k1,rfl⟩|⟨es0,es1,k1,rfl⟩
   ·obtain ⟨bd,q1,q2,_⟩:=hobs o _ k1
    obtain ⟨b',r1,r2,r3⟩:=(hlink o bd (by rw [k1];simp) q1).1 cs0 k1
    rcases hs.obs o _ hx2 with ⟨z,_⟩|⟨_,⟨bdf,z1,⟨y1,y2,y3,y4,y5,ds,y6,y7⟩,_⟩|⟨_,_,_,z⟩⟩
    ·cases z
    ·rw [r1] at z1;injection z1 with z1;subst z1
     refine ⟨bd,q1,q2.1,q2.2.1,by rw [←r2];exact y3,by rw [←r2];exact y4,by rw [←r2,←r3];exact y5,ds,by rw [←r2,←r3];exact y6,?_⟩
     exact RCl.conv hB1 hB2 y7 (boxPts_get hbp k1)
    ·cases z
   ·obtain ⟨bd,q1,q2,_⟩:=hobs o _ k1
    obtain ⟨b',r1,r2⟩:=(hlink o bd (by rw [k1];simp) q1).2 es0 k1
    rcases hs.obs o _ hx2 with ⟨z,_⟩|⟨_,⟨bdf,z1,⟨y1,y2,ms,clock,y3,y4,y5⟩,_⟩|⟨_,_,_,z⟩⟩
    ·cases z
    ·rw [r1] at z1;injection z1 with z1;subst z1
     exact ⟨bd,q1,by rw [←r2];exact y1,by rw [←r2];exact y2,ms,clock,by rw [←r2];exact y3,y4,y5⟩
    ·cases z
  exact ⟨_,hres,_,prf,rfl,hs.kp,hs.prm,hs.prn,hs.pra,hs.glo,hrv.free hfree,hobj⟩
end Go.AM
