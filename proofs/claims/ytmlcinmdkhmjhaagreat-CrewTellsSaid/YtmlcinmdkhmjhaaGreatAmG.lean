/- Helper lemmas for the claim's theorem: an abstract machine over the model, proved sound; no condition beyond each lemma's own. -/
import Derived.Test.YtmlcinmdkhmjhaaGreatAmF
import Derived.RangeFuncRecord
import Derived.RangeFuncIn
set_option linter.unusedVariables false
set_option linter.unusedSimpArgs false
set_option linter.unnecessarySimpa false
set_option linter.unusedSectionVars false
namespace Go.AM
open Go Go.RowKit
variable {P:Program} {E:Env} {gl:List (Nat×List V)}
theorem Sim.other {w0:World} {pr0 ow:Nat→Prop} {σ:St} {a:Act} {ao:List (Array Value)} {w w':World} {B:BM} {pr:Nat→Prop} (h:Sim gl w0 pr0 ow σ a ao w B pr) {b:Nat} (hw:One w w' b) (hnp:¬pr b)
 (hno:∀o bd,oget σ.ob o≠some .dead→B o=some bd→bd.b≠b) (hlo:ow b∨w0.heap.size≤b) (hmk:w.heap[b]?≠some (.deferred (some []))):Sim gl w0 pr0 ow σ a ao w' B pr:=by
 have hl:Like pr w w':=fun i hi=>hw.block i (fun e=>hnp (e▸hi))
 refine ⟨h.dfr.to fun r m=>⟨(hw.block r (fun e=>hmk (e▸m.here))).trans m.here,m.lo,m.np,m.nb⟩,h.tms.move hl (fun _ h=>h) (fun _ _ h=>h),h.outs.move hl (fun _ h=>h) (fun _ _ h=>h),h.obn,fun o x hx=>?_,h.inj,fun i hi=>by rw [hw.size];exact h.pra i hi,h.prm,h.prn,h.glo.move hl (fun _ h=>h),?_⟩
 ·rcases h.obs o x hx with ⟨g1,g2⟩|⟨g1,⟨bd,q1,q2,q3⟩|q⟩
  ·exact .inl ⟨g1,fun bd hb=>by rw [hw.size];exact g2 bd hb⟩
  ·exact .inr ⟨g1,.inl ⟨bd,q1,q2.move (hw.block _ (hno o bd (by rw [hx];intro e;injection e with e;exact g1 e) q1)) (by rw [hw.size];exact Nat.le_refl _) hl (fun _ h=>h) (fun _ h=>.inl h) (fun _ _ h=>h),q3⟩⟩
  ·exact .inr ⟨g1,.inr q⟩
 ·exact ⟨hw.os.trans h.kp.os,hw.tape.trans h.kp.tape,hw.output.trans h.kp.output,Nat.le_trans h.kp.drawn hw.drawn,by rw [hw.size];exact h.kp.size,fun i hi ho=>by
   rw [hw.block i (fun e=>?_)]
   ·exact h.kp.block i hi ho
   ·subst e
    rcases hlo with h1|h1
    ·exact ho h1
    ·omega⟩
theorem One.putObj {w:World} {b:Nat} (o':Go.Obj):One w (w.putObj b o') b:=⟨rfl,rfl,rfl,Nat.le_refl _,World.putObj_size,fun _ hi=>World.putObj_heap_other hi⟩
theorem Sim.loopAt {w0:World} {pr0 ow:Nat→Prop} {σ:St} {a:Act} {ao:List (Array Value)} {w:World} {B:BM} {pr:Nat→Prop} (h:Sim gl w0 pr0 ow σ a ao w B pr) {o:Id} {n:Nat} {tm:List (Nat×V)} {ps:List Nat} {asg body:Code} {st:LoopState} {pe:Option Code}
 (ho:oget σ.ob o=some (.loop n tm ps asg body st pe)) {c:Value} (hc:RC w B pr (.yld o) c) :
 ∃bd r,B o=some bd∧c=.func (.yield bd.b) #[] #[]∧¬pr bd.b∧bd.b < w.heap.size∧(ow bd.b∨w0.heap.size≤bd.b)∧w.heap[bd.b]?=some (.loop r)∧r.state=st∧r.pending=pe∧r.params=ps.toArray∧r.assign=asg∧r.body=body∧TMs w B pr n tm r.tmps:=by
 cases hc with
 | base h=>cases h
 | yld hB =>
  rcases h.obs _ _ ho with ⟨g1,_⟩|⟨_,⟨bd',hB',⟨q1,q2,r,q3,q4,q5,q6,q7,q8,q9⟩,hlo⟩|⟨hB',_,_,e⟩⟩
  ·cases g1
  ·rw [hB] at hB';injection hB' with hB';subst hB'
   exact ⟨_,r,hB,rfl,q1,q2,hlo,q3,q4,q5,q6,q7,q8,q9⟩
  ·cases e
theorem Sim.loopSet {w0:World} {pr0 ow:Nat→Prop} {n0:Nat} {tm0:List (Nat×V)} {ob:List (Id×Obj)} {out:List (Nat×List (Nat×V))} {pa:Id} {a:Act} {ao:List (Array Value)} {w:World} {B:BM} {pr:Nat→Prop} (h:Sim gl w0 pr0 ow ⟨n0,tm0,ob,out,pa⟩ a ao w B pr)
 {o:Id} {n:Nat} {tm:List (Nat×V)} {ps:List Nat} {asg body:Code} {st:LoopState} {pe:Option Code}
 (ho:oget ob o=some (.loop n tm ps asg body st pe)) {bd:Bd} {r:Loop} (hB:B o=some bd) (hr:w.heap[bd.b]?=some (.loop r)) (st':LoopState) (pe':Option Code) :
 Sim gl w0 pr0 ow ⟨n0,tm0,(o,.loop n tm ps asg body st' pe')::ob,out,pa⟩ a ao (w.putObj bd.b (.loop { r with state:=st',pending:=pe' })) B pr:=by
 rcases h.obs _ _ ho with ⟨g1,_⟩|⟨_,⟨bd',hB',⟨q1,q2,r',q3,q4,q5,q6,q7,q8,q9⟩,hlo⟩|⟨hB',_,_,e⟩⟩
 ·cases g1
 ·rw [hB] at hB';injection hB' with hB';subst hB'
  have hrr:r'=r:=by
   have:=q3.symm.trans hr
   injection this with this
   injection this
  subst hrr
  have hone:=One.putObj (w:=w) (b:=bd.b) (.loop { r' with state:=st',pending:=pe' })
  have hl:Like pr w (w.putObj bd.b (.loop { r' with state:=st',pending:=pe' })):=fun i hi=>hone.block i (fun e=>q1 (e▸hi))
  exact h.upd ho (by simp) (by simp) hB q1 hone ⟨q1,by rw [hone.size];exact q2,{ r' with state:=st',pending:=pe' },World.putObj_heap_same q2,rfl,rfl,q6,q7,q8,q9.move hl (fun _ h=>h) (fun _ _ h=>h)⟩
 ·cases e
def putTm:List Nat→List V→List (Nat×V)→List (Nat×V)
 | p::ps,v::vs,tm=>putTm ps vs ((p,v)::tm)
 | _,_,tm=>tm
theorem putTm_rc {w:World} {B:BM} {pr:Nat→Prop} {n:Nat}:∀{ps:List Nat} {vs:List V} {cs:List Value} {tm:List (Nat×V)} {ts:Array Value},TMs w B pr n tm ts→RCl w B pr vs cs→ps.all (Nat.blt · n)=true →
 TMs w B pr n (putTm ps vs tm) ((ps.zip cs).foldl (fun ts (p,c)=>ts.setIfInBounds p c) ts)
 | [],_,_,_,_,h,_,_=>h
 | _::_,[],_,_,_,h,.nil,_=>h
 | p::ps,v::vs,c::cs,tm,ts,h,h2,hb=>by
  simp only [List.all_cons,Bool.and_eq_true] at hb
  cases h2 with
  | cons hc t=>exact putTm_rc (tm:=(p,v)::tm) (ts:=ts.setIfInBounds p c) (TMs.put h (by simpa using hb.1) hc) t hb.2
 | _::_,_::_,[],_,_,_,h2,_=>by cases h2
def rfQ (P:Program) (gl:List (Nat×List V)) (o:Id) (pa:Id) (Q:Exit→St→Prop):Exit→St→Prop:=fun e σ =>
 (e=.normal∨e=.ret)∧∃n1 tm1 rest n2 tm2 ps asg body st pe,σ.out=(1,[(0,.yld o)])::(n1,tm1)::rest∧oget σ.ob o=some (.loop n2 tm2 ps asg body st pe)∧st≠.busy ∧
  match pe with
  | none=>Q .normal ⟨n1,tm1,(o,.dead)::σ.ob,rest,pa⟩
  | some c=>Safe false P gl c Q ⟨n1,tm1,(o,.dead)::σ.ob,rest,pa⟩
theorem Safe.rangeFunc {g:Operand} {ps:Array Nat} {pl:List Nat} {asg body:Code} {Q:Exit→St→Prop} {n k:Nat} {tm:List (Nat×V)} {ob:List (Id×Obj)} {out:List (Nat×List (Nat×V))} {pa:Id} {f:FuncId} {caps:List V} {fn:Func} {c:Code}
 (hg:ev tm g=.fn f caps) (hps:ps.toList=pl) (hf:P.funcs[f]?=some fn) (hb:fn.body=some c) (hc:∀(xs:Array Value) (w:World),(callFunc f xs).run P w=.ok (.enter f xs) w) (hl:Nat.ble (1+caps.length) fn.ntmps=true) (hr:fn.results=#[])
 (hfr:oget ob (pa++[k])=none)
 (h:Safe false P gl c (rfQ P gl (pa++[k]) pa Q) ⟨fn.ntmps,initTm 0 (.yld (pa++[k])::caps),(pa++[k],.loop n tm pl asg body .ready none)::ob,(1,[(0,.yld (pa++[k]))])::(n,tm)::out,(pa++[k])++[0]⟩) :
 Safe false P gl (.rangeFunc g ps asg body) Q ⟨n,tm,ob,out,pa⟩:=by
 intro w0 pr0 ow a ao w B pr hs ro hro
 have hro:ro=none:=by cases ro with|none=>rfl|some _=>cases hro
 subst hro
 generalize ho:pa++[k]=o at *
 have hfv:=ev_rc hs.tms g
 rw [hg] at hfv
 obtain ⟨cs,hcs,hrc⟩:=hfv.fn_inv
 have hBo:B o=none:=hs.obn o hfr
 refine wpIn_rangeFunc fun fn' _=>?_
 let W1:World:=w.alloc (.deferred (some []))
 let rec0:Loop:={ state:=.ready,pending:=none,fn:=fn',tmps:=a.tmps,params:=ps,assign:=asg,body:=body,defers:=w.heap.size }
 let W2:World:=W1.alloc (.loop rec0)
 let bd:Bd:=⟨W1.heap.size,0,0,1⟩
 have hsz1:W1.heap.size=w.heap.size+1:=alloc_size ..
 have hs1:Sim gl w0 pr0 ow ⟨n,tm,ob,out,pa⟩ a ao W1 B pr :=
  hs.grow (w':=W1) (nw:=[]) ⟨rfl,rfl,rfl,Nat.le_refl _,by rw [hsz1];omega,fun b hb=>alloc_old _ _ hb,fun _ h=>h,fun _ h=>.inl h,fun b hb=>by rw [hsz1];have:=hs.pra b hb;omega,fun _ _=>rfl,fun o x h=>by simp [oget] at h,fun o _ _ _ h=>absurd rfl h⟩ (fun o x h=>by simp [oget] at h)
 have hl1:Like pr W1 W2:=fun b hb=>alloc_old _ _ (hs1.pra b hb)
 have hs2:Sim gl w0 pr0 ow ⟨n,tm,(o,.loop n tm pl asg body .ready none)::ob,out,pa⟩ a ao W2 (AM.upd B o bd) pr:=by
  refine hs1.grow (w':=W2) (nw:=[(o,.loop n tm pl asg body .ready none)]) (Ext.new hs1.pra _ (by simp) ?_) (fun o' x hx=>?_)
  ·refine ⟨fun hp=>absurd (hs1.pra _ hp) (Nat.lt_irrefl _),by have h9:=alloc_size W1 (.loop rec0);show W1.heap.size < (W1.alloc (.loop rec0)).heap.size;rw [h9];exact Nat.lt_succ_self _,rec0,alloc_new ..,rfl,rfl,(by rw [←hps]),rfl,rfl,?_⟩
   exact hs1.tms.move hl1 (fun _ h=>h) (upd_mono hBo)
  ·simp only [oget] at hx
   split at hx
   ·rename_i e;rw [←idEq_iff.1 e];exact hfr
   ·cases hx
 obtain ⟨ks,k1,k2,k3⟩:=hs2.dfr
 have hks:∀r∈ks,r < w.heap.size:=fun r hr=>by
  obtain ⟨ks0,j1,_,j3⟩:=hs.dfr
  have:mkD r∈ks0.map mkD:=by rw [←j1,k1];exact List.mem_map.2 ⟨r,hr,rfl⟩
  obtain ⟨r',hr',e⟩:=List.mem_map.1 this
  have:r'=r:=by simpa [mkD] using e
  subst this
  exact (Array.getElem?_eq_some_iff.1 (j3 r' hr').here).1
 have hmk:MarkAt w0 W2 ((o,.loop n tm pl asg body .ready none)::ob) (AM.upd B o bd) pr w.heap.size:=by
  refine ⟨(alloc_old W1 _ (by rw [hsz1];omega)).trans (alloc_new ..),hs.kp.size,fun hp=>absurd (hs.pra _ hp) (Nat.lt_irrefl _),fun o' bd' hd hb=>?_⟩
  by_cases e:o'=o
  ·subst e
   rw [upd_self] at hb
   injection hb with hb;subst hb
   show W1.heap.size≠_
   omega
  ·rw [upd_other _ _ e] at hb
   have:=hs.lt hb
   omega
 have hm3:∀r∈w.heap.size::ks,MarkAt w0 W2 ((o,.loop n tm pl asg body .ready none)::ob) (AM.upd B o bd) pr r:=fun r hr=>by
  rcases List.mem_cons.1 hr with rfl|hr
  ·exact hmk
  ·exact k3 r hr
 have hn3:(w.heap.size::ks).Nodup:=List.nodup_cons.2 ⟨fun h=>by have:=hks _ h;omega,k2⟩
 let a2:Act:={ a with defers:=mkD w.heap.size::a.defers }
 have ha2:a2.defers=(w.heap.size::ks).map mkD:=by show mkD w.heap.size::a.defers=_;rw [k1];rfl
 have hs3:Sim gl w0 pr0 ow ⟨n,tm,(o,.loop n tm pl asg body .ready none)::ob,out,pa⟩ a2 ao W2 (AM.upd B o bd) pr:={ hs2 with dfr:=⟨_,ha2,hn3,hm3⟩ }
 have hb0:=hs3.rebase hm3
 have hxs:(#[Value.func (.yield bd.b) #[] #[]]++cs.toArray)=(Value.func (.yield bd.b) #[] #[]::cs).toArray:=by simp
 have hrc2:RCl W2 (AM.upd B o bd) pr caps cs:=hrc.move (fun b hb=>(hl1 b hb).trans (alloc_old _ _ (hs.pra b hb))) (fun _ h=>h) (upd_mono hBo)
 have hyld:RC W2 (AM.upd B o bd) pr (.yld o) (.func (.yield bd.b) #[] #[]):=.yld (upd_self ..)
 have hlen:=hrc.length
 have hle:1+caps.length≤fn.ntmps:=Nat.le_of_ble_eq_true hl
 refine ⟨bd.b,[mkD w.heap.size],W2,{ target:=.fn (.func f) cs.toArray,args:=#[.func (.yield bd.b) #[] #[]] },W2,f,#[.func (.yield bd.b) #[] #[]]++cs.toArray,W2,?_,?_,fun _ _=>trivial,?_,(fun h=>(by cases h)),?_⟩
 ·have:=run_enterLoop_outer (P:=P) (w:=w) fn' a.tmps ps asg body
  have e:bd.b=w.heap.size+1:=hsz1
  rw [e]
  exact this
 ·simp only [resolve,hcs]
  simp [go_sem]
 ·simp only [invoke,hc]
 ·refine calls_fen (calls_of_safe hf hb h (w0:=W2) (pr0:=pr) (ow:=ownK ow w0 (w.heap.size::ks)) (ao:=#[.func (.yield bd.b) #[] #[]]::a.tmps::ao) (B:=AM.upd B o bd) (pr:=pr) ?_ ?_) none
  ·refine ⟨.nil,⟨by rw [hxs];simp only [Array.size_append,List.size_toArray,Array.size_replicate,List.length_cons];omega,fun t=>?_⟩,⟨⟨rfl,fun t=>?_⟩,hb0.tms,hb0.outs⟩,hb0.obn,hb0.obs,hb0.inj,hb0.pra,hb0.prm,hb0.prn,hb0.glo,hb0.kp⟩
   ·simp only [initTm_get,Nat.zero_le,if_true,Nat.sub_zero]
    cases hx:(V.yld o::caps)[t]? with
    | none=>exact RC.undefs ..
    | some v =>
     obtain ⟨c',h1,h2⟩:=(RCl.cons hyld hrc2).get hx
     have hlt:t < (Value.func (.yield bd.b) #[] #[]::cs).length:=(List.getElem?_eq_some_iff.1 h1).1
     have:((Value.func (.yield bd.b) #[] #[]::cs).toArray++Array.replicate (fn.ntmps - (Value.func (.yield bd.b) #[] #[]::cs).toArray.size) undef).getD t undef=c':=by
      rw [Array.getD_eq_getD_getElem?,Array.getElem?_append_left (by simpa using hlt)]
      simp only [List.getElem?_toArray,h1,Option.getD_some]
     rw [hxs]
     simp only [this,Option.getD_some]
     exact h2
   ·cases t with
    | zero=>simpa [tget,Nat.beq] using hyld
    | succ t=>exact RC.undefs ..
  ·rintro e σ' a' w'0 B' pr' ⟨he,n1,tm1,rest,n2,tm2,ps2,asg2,body2,st,pe,q1,q2,q3,q4⟩ hs0
   refine ⟨he,fun w' hs'=>?_⟩
   have hU:=hs3.unbase ha2 hn3 hm3 hs'
   obtain ⟨n0,tm0,ob',out',pa'⟩:=σ'
   simp only at q1 q2 q4
   subst q1
   have hyl:=hU.outs.1.2 0
   simp only [tget,Nat.beq] at hyl
   obtain ⟨bd',r,z1,z2,z3,z4,z5,z6,z7,z8,_⟩:=hU.loopAt q2 (by simpa using hyl)
   have hbb:bd'.b=bd.b:=by
    injection z2 with z2
    injection z2 with z2
    exact z2.symm
   refine ⟨.tuple #[],by unfold results;rw [hr];simp,?_⟩
   show ∃jump w₄,_
   refine ⟨pe,w'.putObj bd.b (.loop { r with state:=.exhausted }),?_,?_⟩
   ·rw [hbb] at z6
    rw [←z8]
    exact run_endLoop z6 (by rw [z7];exact q3)
   ·have hk:=hU.kill q2
    have hone:=One.putObj (w:=w') (b:=bd.b) (.loop { r with state:=.exhausted })
    have hfin:Sim gl w0 pr0 ow ⟨n1,tm1,(o,.dead)::ob',rest,pa⟩ a2 ao (w'.putObj bd.b (.loop { r with state:=.exhausted })) B' pr':=by
     have h4:=hk.other hone (by rw [←hbb];exact z3) (fun o' b' hd hb' e=>?_) (by rw [←hbb];exact z5) (by rw [←hbb,z6];simp)
     ·exact ⟨h4.dfr,h4.outs.2.1,h4.outs.2.2,h4.obn,h4.obs,h4.inj,h4.pra,h4.prm,h4.prn,h4.glo,h4.kp⟩
     ·have hne:o'≠o:=fun e'=>by
       subst e'
       apply hd
       simp [oget,idEq_iff.2 rfl]
      have hd':oget ob' o'≠some .dead:=fun e'=>hd (by
       simp only [oget]
       split
       ·rfl
       ·exact e')
      exact hne (hU.inj o' o b' bd' hd' (by simp only;rw [q2];simp) hb' z1 (by rw [e,hbb]))
    cases pe with
    | none=>exact ⟨_,B',pr',q4,hfin⟩
    | some cc=>exact q4 w0 pr0 ow a2 ao _ B' pr' hfin none rfl
end Go.AM
namespace Go.AM
open Go Go.RowKit
variable {P:Program} {E:Env} {gl:List (Nat×List V)}
def jumpOf:Exit→Option (Option Code)
 | .normal=>some none
 | .ret=>some (some .ret)
 | .exit i=>some (some (.exit i))
 | .goto t=>some (some (.goto t))
 | _=>none
def roundQ (o:Id) (d:Nat) (pa:Id) (K:St→Prop):Exit→St→Prop:=fun e σ =>
 ∃nI tmI rest n2 tm2 ps asg body pe j,σ.out=(nI,tmI)::(1,[(0,.yld o)])::rest∧oget σ.ob o=some (.loop n2 tm2 ps asg body .busy pe)∧jumpOf e=some j ∧
  K ⟨nI,(d,.bool j.isNone)::tmI,(o,.loop n2 tm2 ps asg body (if j.isNone then .ready else .done) j)::σ.ob,(1,[(0,.yld o)])::rest,pa⟩
def asgQ (P:Program) (gl:List (Nat×List V)) (o:Id) (body:Code) (Q:Exit→St→Prop):Exit→St→Prop:=fun e σ=>e=.normal ∧
 ∃nI tmI rest n2 tm2 ps asg,σ.out=(nI,tmI)::(1,[(0,.yld o)])::rest∧oget σ.ob o=some (.loop n2 tm2 ps asg body .ready none) ∧
  Safe true P gl body Q ⟨σ.n,σ.tm,(o,.loop n2 tm2 ps asg body .busy none)::σ.ob,σ.out,σ.pa⟩
theorem SafeOps.yield {l rest:List Oper} {op:Oper} {Q:Exit→St→Prop} {n d:Nat} {tm:List (Nat×V)} {ob:List (Id×Obj)} {out:List (Nat×List (Nat×V))} {pa:Id} {fx:Operand} {args:Array Operand} {tys:Array Nat} {o:Id} {n1:Nat} {tm1:List (Nat×V)} {pl:List Nat} {asg body:Code}
 (hg:gd l tm op=some true) (hop:op.op=.call ⟨.value fx,args,tys⟩) (hd:op.dst=some d) (hn:Nat.blt d n=true) (hfx:ev tm fx=.yld o) (ho:oget ob o=some (.loop n1 tm1 pl asg body .ready none)) (hlen:Nat.beq args.toList.length pl.length=true) (hpl:pl.all (Nat.blt · n1)=true)
 (h:Safe true P gl asg (asgQ P gl o body (roundQ o d pa (SafeOps false P gl l rest Q))) ⟨n1,putTm pl (evs tm args.toList) tm1,ob,(n,tm)::(1,[(0,.yld o)])::out,pa++[d]⟩) :
 SafeOps false P gl l (op::rest) Q ⟨n,tm,ob,(1,[(0,.yld o)])::out,pa⟩:=by
 intro w0 pr0 ow a ao w B pr hs hnd ro hro
 have hro:ro=none:=by cases ro with|none=>rfl|some _=>cases hro
 subst hro
 refine wpListIn_step fun K hK=>?_
 simp only [List.all_cons,Bool.and_eq_true] at hnd
 rw [if_pos (gd_wanted hg hs.tms)]
 have hfv:=ev_rc hs.tms fx
 rw [hfx] at hfv
 obtain ⟨a0,ao,rfl⟩:∃a0 ao',ao=a0::ao':=by
  cases ao with
  | nil=>exact hs.outs.elim
  | cons a0 ao'=>exact ⟨a0,ao',rfl⟩
 obtain ⟨bd,r,hB,hv,hnp,hlt,hlo,hr,r1,r2,r3,r4,r5,r6⟩:=hs.loopAt ho hfv
 have hargs:=evs_rc hs.tms args.toList
 have hv0:a0.getD 0 undef=.func (.yield bd.b) #[] #[]:=by
  obtain ⟨bd0,_,g1,g2,_⟩:=hs.loopAt (c:=a0.getD 0 undef) ho (hs.outs.1.2 0)
  rw [hB] at g1;injection g1 with g1;subst g1
  exact g2
 have hll:args.size=pl.length:=by have:=Nat.eq_of_beq_eq_true hlen;simpa using this
 obtain ⟨T,hT⟩:∃T,(r.params.zip (args.map a.eval)).foldl (fun tmps (t,a)=>tmps.setIfInBounds t a) r.tmps=T:=⟨_,rfl⟩
 have hyr:(Instr.yield bd.b (args.map a.eval)).run P w=.ok (.round bd.b r.fn T r.assign r.body) w:=by
  rw [←hT];exact run_yield hr (by rw [r3];simp [hll])
 refine ⟨fun _ _=>trivial,?_⟩
 rw [show (op.semAt (fen none).round a.eval)=execOp a.eval op from rfl]
 have hex:(execOp a.eval op).run P w=.ok (.round bd.b r.fn T r.assign r.body) w:=by
  unfold execOp;rw [hop]
  simp only [resolve,hv,Deferred.ofValue,Sem.run_bind,Sem.run_pure,Result.andThen_ok,invoke,Array.empty_append,Array.append_empty,hyr]
 rw [hex]
 rw [Oper.uponIn_round]
 refine ⟨(fun h=>(by cases h)),?_⟩
 obtain ⟨ks,k1,k2,k3⟩:=hs.dfr
 have hb0:=hs.rebase k3
 have htm:TMs w B pr n1 (putTm pl (evs tm args.toList) tm1) T:=by
  have:=putTm_rc r6 hargs hpl
  rw [←hT,r3,←Array.foldl_toList]
  simpa using this
 rw [r4,r5]
 refine roundIn_of_wpIn trivial (wpIn_mono (h w pr (ownK ow w0 ks) { tmps:=T,defers:=[] } (a.tmps::a0::ao) w B pr ⟨.nil,htm,⟨hb0.tms,hb0.outs⟩,hb0.obn,hb0.obs,hb0.inj,hb0.pra,hb0.prm,hb0.prn,hb0.glo,hb0.kp⟩ (some bd.b) rfl) ?_)
 rintro e a1 w1 ⟨⟨nS,tmS,obS,outS,paS⟩,B1,pr1,⟨rfl,nI,tmI,rest1,n2,tm2,ps2,asg2,q1,q2,q3⟩,hs1⟩
 simp only at q1 q2 q3
 subst q1
 obtain ⟨bd1,r1',z1,z2,z3,z4,z5,z6,z7,z8,_⟩:=hs1.loopAt (c:=a0.getD 0 undef) q2 (hs1.outs.2.1.2 0)
 have hbb1:bd1.b=bd.b:=by
  have:=z2.symm.trans hv0
  injection this with this;injection this
 refine ⟨w1.putObj bd.b (.loop { r1' with state:=.busy }),run_beginRound (by rw [←hbb1];exact z6) z7,?_⟩
 have hs2:=hs1.loopSet q2 z1 z6 .busy none
 have hre:({ r1' with state:=.busy,pending:=none }:Loop)={ r1' with state:=.busy }:=by
  cases r1';simp only at z8;subst z8;rfl
 rw [hre,hbb1] at hs2
 refine wpIn_mono (q3 w pr (ownK ow w0 ks) a1 (a.tmps::a0::ao) _ B1 pr1 hs2 (some bd.b) rfl) ?_
 rintro e a3 w3 ⟨⟨nT,tmT,obT,outT,paT⟩,B3,pr3,⟨nI3,tmI3,rest3,n23,tm23,ps3,asg3,body3,pe3,j,t1,t2,t3,t4⟩,hs3⟩
 simp only at t1 t2 t4
 subst t1
 obtain ⟨bd3,r3',y1,y2,y3,y4,y5,y6,y7,y8,_⟩:=hs3.loopAt (c:=a0.getD 0 undef) t2 (hs3.outs.2.1.2 0)
 have hbb3:bd3.b=bd.b:=by
  have:=y2.symm.trans hv0
  injection this with this;injection this
 have fin:∃w4,(Instr.endRound bd.b j).run P w3=.ok (.bool j.isNone) w4∧K (a.put op.dst (.bool j.isNone)) w4:=by
  refine ⟨_,run_endRound j (by rw [←hbb3];exact y6),?_⟩
  have hs4:=hs3.loopSet t2 y1 y6 (if j.isNone then .ready else .done) j
  rw [hbb3] at hs4
  have hU:=hs.unbase k1 k2 k3 hs4
  have hn1:nI3=n:=by
   have e1:=hU.outs.1.1
   have e2:=hs.tms.1
   simp only at e2
   omega
  subst hn1
  refine hK _ _ (t4 w0 pr0 ow (a.put op.dst (.bool j.isNone)) (a0::ao) _ B3 pr3 ?_ hnd.2 none rfl)
  rw [hd]
  exact ⟨hU.dfr,TMs.put hU.outs.1 (show d < nI3 by simpa using hn) (.base (.bool _)),hU.outs.2,hU.obn,hU.obs,hU.inj,hU.pra,hU.prm,hU.prn,hU.glo,hU.kp⟩
 obtain ⟨w4,f1,f2⟩:=fin
 cases e<;>simp only [jumpOf] at t3<;>first
  | (cases t3;done)
  | (injection t3 with t3;subst t3;exact ⟨_,w4,f1,f2⟩)
end Go.AM
namespace Go.AM
open Go Go.RowKit
variable {P:Program} {E:Env} {gl:List (Nat×List V)}
def rfs:Code→List (Code×Code)
 | .seq a b=>rfs a++rfs b
 | .cond _ a b=>rfs a++rfs b
 | .block _ b=>rfs b
 | .loop b=>rfs b
 | .scope b=>rfs b
 | .rangeFunc _ _ a b=>(a,b)::(rfs a++rfs b)
 | _=>[]
def rfA (f:Func) (k:Nat):Code:=match f.body with
 | some c=>match (rfs c)[k]? with|some p=>p.1|none=>.skip
 | none=>.skip
def rfB (f:Func) (k:Nat):Code:=match f.body with
 | some c=>match (rfs c)[k]? with|some p=>p.2|none=>.skip
 | none=>.skip
theorem rfQ.n {o pa:Id} {Q:Exit→St→Prop} {e:Exit} {n n1 n2:Nat} {tm tm1 tm2:List (Nat×V)} {ob:List (Id×Obj)} {out rest:List (Nat×List (Nat×V))} {pa':Id} {ps:List Nat} {asg body:Code} {st:LoopState}
 (he:e=.normal∨e=.ret) (ho:out=(1,[(0,.yld o)])::(n1,tm1)::rest) (hob:oget ob o=some (.loop n2 tm2 ps asg body st none)) (hs:st≠.busy) (h:Q .normal ⟨n1,tm1,(o,.dead)::ob,rest,pa⟩):rfQ P gl o pa Q e ⟨n,tm,ob,out,pa'⟩ :=
 ⟨he,n1,tm1,rest,n2,tm2,ps,asg,body,st,none,ho,hob,hs,h⟩
theorem rfQ.j {o pa:Id} {Q:Exit→St→Prop} {e:Exit} {n n1 n2:Nat} {tm tm1 tm2:List (Nat×V)} {ob:List (Id×Obj)} {out rest:List (Nat×List (Nat×V))} {pa':Id} {ps:List Nat} {asg body c:Code} {st:LoopState}
 (he:e=.normal∨e=.ret) (ho:out=(1,[(0,.yld o)])::(n1,tm1)::rest) (hob:oget ob o=some (.loop n2 tm2 ps asg body st (some c))) (hs:st≠.busy) (h:Safe false P gl c Q ⟨n1,tm1,(o,.dead)::ob,rest,pa⟩):rfQ P gl o pa Q e ⟨n,tm,ob,out,pa'⟩ :=
 ⟨he,n1,tm1,rest,n2,tm2,ps,asg,body,st,some c,ho,hob,hs,h⟩
theorem asgQ.go {o:Id} {Q:Exit→St→Prop} {n nI n2:Nat} {tm tmI tm2:List (Nat×V)} {ob:List (Id×Obj)} {out rest:List (Nat×List (Nat×V))} {pa:Id} {ps:List Nat} {asg body:Code}
 (ho:out=(nI,tmI)::(1,[(0,.yld o)])::rest) (hob:oget ob o=some (.loop n2 tm2 ps asg body .ready none)) (h:Safe true P gl body Q ⟨n,tm,(o,.loop n2 tm2 ps asg body .busy none)::ob,out,pa⟩):asgQ P gl o body Q .normal ⟨n,tm,ob,out,pa⟩ :=
 ⟨rfl,nI,tmI,rest,n2,tm2,ps,asg,ho,hob,h⟩
theorem roundQ.go {o:Id} {d:Nat} {pa pa':Id} {K:St→Prop} {e:Exit} {n nI n2:Nat} {tm tmI tm2:List (Nat×V)} {ob:List (Id×Obj)} {out rest:List (Nat×List (Nat×V))} {ps:List Nat} {asg body:Code} {pe j:Option Code} {b:Bool} {st:LoopState}
 (ho:out=(nI,tmI)::(1,[(0,.yld o)])::rest) (hob:oget ob o=some (.loop n2 tm2 ps asg body .busy pe)) (hj:jumpOf e=some j) (hb:j.isNone=b) (hst:(if b then LoopState.ready else .done)=st)
 (h:K ⟨nI,(d,.bool b)::tmI,(o,.loop n2 tm2 ps asg body st j)::ob,(1,[(0,.yld o)])::rest,pa⟩):roundQ o d pa K e ⟨n,tm,ob,out,pa'⟩:=by
 subst hb;subst hst
 exact ⟨nI,tmI,rest,n2,tm2,ps,asg,body,pe,j,ho,hob,hj,h⟩
end Go.AM
namespace Go.AM
open Go
@[simp] theorem inrO_some {S K:Type} (k:K):(inrO (some k):Option (S ⊕ K))=some (.inr k):=rfl
@[simp] theorem inrO_none {S K:Type}:(inrO none:Option (S ⊕ K))=none:=rfl
theorem w64_id {n:Int} (h0:-9223372036854775808≤n) (h1:n≤9223372036854775807):IntKind.i64.wrap n=n:=by unfold IntKind.wrap;simp [IntKind.signed,IntKind.bits];omega
theorem w64_nat {n:Nat} (h:n≤9223372036854775806):IntKind.i64.wrap ((n:Int)+1)=((n+1:Nat):Int):=by rw [w64_id (by omega) (by omega)];rfl
section
variable {S K:Type}
theorem whileO_run {step:S→Option (S ⊕ K)} (f:Nat→S):∀(i:Nat),(∀j,j < i→step (f j)=some (.inl (f (j+1))))→whileO step (f 0)=whileO step (f i)
 | 0,_=>rfl
 | i+1,h=>by rw [whileO_run f i (fun j hj=>h j (by omega)),whileO_inl (h i (by omega))]
def forO (body:Nat→S→Option (S ⊕ K)) (rest:S→Option K):Nat→Nat→S→Option K
 | 0,_,s=>rest s
 | m+1,i,s=>match body i s with
  | none=>none
  | some (.inl s')=>forO body rest m (i+1) s'
  | some (.inr k)=>some k
end
def idxOf {α:Type} (p:α→Bool) (xs:List α):Int:=match xs.findIdx? p with|some i=>i|none=>-1
theorem idxOf_any {α:Type} (p:α→Bool) (xs:List α):decide (idxOf p xs≥0)=xs.any p:=by
 unfold idxOf
 cases h:xs.findIdx? p with
 | none =>
  have:=List.findIdx?_eq_none_iff.1 h
  simp
  intro x hx
  simpa using this x hx
 | some i =>
  have:=List.findIdx?_eq_some_iff_getElem.1 h
  obtain ⟨h1,h2,_⟩:=this
  simp
  exact ⟨xs[i],List.getElem_mem h1,h2⟩
theorem gt_nat {α:Type} [Inhabited α] {xs:List α} {i:Nat} (h:i < xs.length):gt xs (i:Int)=xs[i]:=by simp [gt,List.getD,h]
theorem gt_cons0 {α:Type} [Inhabited α] (x:α) (xs:List α):gt (x::xs) 0=x:=rfl
def seek {α β:Type} (p:α→Bool) (found:Nat→β) (rest:β):Nat→List α→β
 | _,[]=>rest
 | i,x::r=>if p x=true then found i else seek p found rest (i+1) r
theorem seek_idx {α:Type} (p:α→Bool) (xs:List α):∀i,seek p (fun k=>((k:Nat):Int)) (-1) i xs=match xs.findIdx? p with|some k=>((i+k:Nat):Int)|none=>-1:=by
 induction xs with
 | nil=>intro i;rfl
 | cons x r ih =>
  intro i
  rw [seek,List.findIdx?_cons]
  cases hp:p x with
  | true=>simp
  | false =>
   simp only [Bool.false_eq_true,if_false]
   rw [ih]
   cases List.findIdx? p r with
   | none=>rfl
   | some k=>show ((i+1+k:Nat):Int)=((i+(k+1):Nat):Int);congr 1;omega
theorem seek_any {α β:Type} (p:α→Bool) (a b:β) (xs:List α):∀i,seek p (fun _=>a) b i xs=if xs.any p=true then a else b:=by
 induction xs with
 | nil=>intro i;simp [seek]
 | cons x r ih =>
  intro i
  rw [seek,List.any_cons]
  cases hp:p x<;>simp [ih]
theorem whileO_seek {α K:Type} [Inhabited α] {step:Int→Option (Int ⊕ K)} (p:α→Bool) (xs:List α) (found:Nat→Option K) (rest:Option K) (hl:xs.length≤9223372036854775807)
 (hs:∀i:Nat,i < xs.length→step i=if p (gt xs i)=true then inrO (found i) else nextO (IntKind.i64.wrap ((i:Int)+1))) (he:step (xs.length:Int)=inrO rest) :
 whileO step 0=seek p found rest 0 xs:=by
 have key:∀(m i:Nat),i+m=xs.length→whileO step (i:Int)=seek p found rest i (xs.drop i):=by
  intro m
  induction m with
  | zero =>
   intro i h
   have:i=xs.length:=by omega
   subst this
   rw [List.drop_length,seek]
   cases hr:rest with
   | none=>rw [whileO_none];rw [he,hr];rfl
   | some k=>rw [whileO_inr];rw [he,hr];rfl
  | succ m ih =>
   intro i h
   have hi:i < xs.length:=by omega
   have h1:=hs i hi
   rw [List.drop_eq_getElem_cons hi,seek,←gt_nat hi]
   cases hp:p (gt xs (i:Int)) with
   | true =>
    rw [hp] at h1
    simp only [if_true] at h1 ⊢
    cases hr:found i with
    | none=>rw [whileO_none];rw [h1,hr];rfl
    | some k=>rw [whileO_inr];rw [h1,hr];rfl
   | false =>
    rw [hp] at h1
    simp only [Bool.false_eq_true,if_false] at h1 ⊢
    rw [w64_nat (by omega)] at h1
    rw [whileO_inl h1]
    exact ih (i+1) (by omega)
 exact key xs.length 0 (by omega)
theorem idx_seek {α:Type} (p:α→Bool) (xs:List α):seek p (fun k=>some ((k:Nat):Int)) (some (-1)) 0 xs=some (idxOf p xs):=by
 have:∀i,seek p (fun k=>some ((k:Nat):Int)) (some (-1)) i xs=some (seek p (fun k=>((k:Nat):Int)) (-1) i xs):=by
  induction xs with
  | nil=>intro i;rfl
  | cons x r ih=>intro i;rw [seek,seek];split<;>simp [ih]
 rw [this,seek_idx]
 unfold idxOf
 cases xs.findIdx? p<;>simp
theorem whileO_index {α:Type} [Inhabited α] {step:Int→Option (Int ⊕ Int)} (p:α→Bool) (xs:List α) (hl:xs.length≤9223372036854775807)
 (hs:∀v:Int,step v=if (decide (v < (xs.length:Int)))=true then (if 0≤v∧v < (xs.length:Int) then (if p (gt xs v)=true then inrO (some v) else nextO (IntKind.i64.wrap (v+1))) else none) else inrO (some (-1))) :
 whileO step 0=some (idxOf p xs):=by
 rw [whileO_seek p xs (fun i=>some (i:Int)) (some (-1)) hl,idx_seek]
 ·intro i hi
  rw [hs,if_pos (by simpa using hi),if_pos (by omega)]
 ·rw [hs,if_neg (by simp)]
end Go.AM
namespace Go.AM
def i64ok (n:Int):Prop:=-9223372036854775808≤n∧n≤9223372036854775807
def u8ok (n:Int):Prop:=0≤n∧n≤255
def i8ok (n:Int):Prop:=-128≤n∧n≤127
def wfl {α:Type} (p:α→Prop) (xs:List α):Prop:=xs.length≤9223372036854775807∧∀y∈xs,p y
end Go.AM
namespace Go.AM
open Go
end Go.AM
