/- Helper lemmas for the claim's theorem: an abstract machine over the model, proved sound; no condition beyond each lemma's own. -/
import Derived.Test.YtmlcinmdkhmjhaaGreatAmB
import Derived.MapKept
import Derived.TacticsIn
import Derived.OrdersIn
import Derived.RangeFuncRecord
import Derived.RangeFuncLeaves
import Derived.ProofKit
import Derived.OpenShut
import Derived.ChangeSame
import Derived.ChangeVars
import Derived.JoinedOf
import Derived.Carry
set_option linter.unusedVariables false
set_option linter.unusedSimpArgs false
set_option linter.unnecessarySimpa false
set_option linter.unusedSectionVars false
namespace Go.AM
open Go Go.RowKit
variable {P:Program} {E:Env} {gl:List (Nat×List V)} {n0:Nat} {tm:List (Nat×V)} {ob:List (Id×Obj)} {w:World} {B:BM} {pr:Nat→Prop} {a:Act}
theorem ty_sli {t e sz bt:Nat} {z:List V} (h:Ty.Ok P t ⟨.sli e,sz,bt,z⟩):P.underlying t=some (.slice e):=by
 obtain ⟨u,hu,hf⟩:=ty_under h
 rw [fits_sli hf] at hu;exact hu
theorem ty_arr {t m e sz bt:Nat} {z:List V} (h:Ty.Ok P t ⟨.arr m e,sz,bt,z⟩):P.underlying t=some (.array m e):=by
 obtain ⟨u,hu,hf⟩:=ty_under h
 rw [fits_arr hf] at hu;exact hu
theorem execOp_index {o:Oper} {t:Nat} {x i:Operand} (ho:o.op=.indexAddr t x i) {c:Value} (h:(Instr.indexAt t (a.eval x) (a.eval i)).run P w=.ok c w):(execOp a.eval o).run P w=.ok (.value c) w:=by
 unfold execOp;rw [ho];simp only [Sem.run_bind,h,Result.andThen_ok,Sem.run_pure]
theorem execOp_slice {o:Oper} {t:Nat} {x:Operand} {l h m:Option Operand} (ho:o.op=.slice t x l h m) {c:Value} (hr:(Instr.sliceAt t (a.eval x) (l.map a.eval) (h.map a.eval) (m.map a.eval)).run P w=.ok c w):(execOp a.eval o).run P w=.ok (.value c) w:=by
 unfold execOp;rw [ho];simp only [Sem.run_bind,hr,Result.andThen_ok,Sem.run_pure]
theorem ref_bd (q:QSim gl n0 tm ob a.tmps w B pr) {o:Id} {s:Nat} {rs:List (List V)} {fz:Bool} (ho:oget ob o=some (.rows s rs fz)) {bd:Bd} (hB:B o=some bd):ObjAt w B pr bd (.rows s rs fz):=by
 rcases q.obs _ _ ho (by simp) with ⟨bd',hB',h,_⟩|⟨hB',_⟩
 ·rw [hB] at hB';injection hB' with hB';subst hB';exact h
 ·rw [hB] at hB';cases hB'
theorem call_enter {o:Oper} {fx:Operand} {args:Array Operand} {tys:Array Nat} (ho:o.op=.call ⟨.value fx,args,tys⟩) {f:FuncId} {cs:List Value} (hf:a.eval fx=.func (.func f) #[] cs.toArray)
 (hc:∀(xs:Array Value) (w:World),(callFunc f xs).run P w=.ok (.enter f xs) w):(execOp a.eval o).run P w=.ok (.enter f (args.toList.map a.eval++cs).toArray) w:=by
 unfold execOp;rw [ho]
 simp only [resolve,hf,Deferred.ofValue,Sem.run_bind,Sem.run_pure,Result.andThen_ok,invoke,hc]
 congr 2
 apply Array.ext'
 simp
theorem call_sound {o:Oper} {id:Id} {f:FuncId} {us:List V} {res v:V} {nw:List (Id×Obj)} {k:Nat} {prc:Nat→Prop} {xs:List Value} (hs:SC P gl f us res) (hr:fl id 0 res=(v,nw,k)) (hfr:∀k x,oget nw k=some x→B k=none)
 (he:(execOp a.eval o).run P w=.ok (.enter f xs.toArray) w) (hb:∀b,prc b→b < w.heap.size) (hpp:∀b,pr b→prc b) (hg:GlobAt w prc gl) (hus:RCs w prc us xs) (hns:NoSl res∨∀b,prc b→pr b)
 {next:Act→World→Prop} {Q:Exit→Act→World→Prop} (hn:∀c w' B' pr',Ext w w' B B' pr pr' nw→RC w' B' pr' v c→next (a.put o.dst c) w'):o.wp P a w next Q:=by
 unfold Oper.wp
 rw [he]
 refine (hs.2 w prc xs hb hg hus).mono fun e w' h=>?_
 obtain ⟨c,pr1,fp,rfl,hk,hp1,hp2,hp3,hrt,hnd⟩:=h
 obtain ⟨pr',hm,hnew,hbd,hrt'⟩:∃pr':Nat→Prop,(∀b,pr b→pr' b)∧(∀b,pr' b→pr b∨w.heap.size≤b)∧(∀b,pr' b→b < w'.heap.size)∧RT w' pr' w.heap.size res c fp:=by
  rcases hns with h|h
  ·refine ⟨pr,fun _ h=>h,fun _ h=>.inl h,fun b hb'=>Nat.lt_of_lt_of_le (hb b (hpp b hb')) hk.size,hrt.nosl h fun b hb' hpb=>?_⟩
   have:=hrt.fresh b hb'
   have:=hb b (hpp b hpb)
   omega
  ·exact ⟨pr1,fun b hb'=>hp1 b (hpp b hb'),fun b hb'=>(hp2 b hb').imp (h b) fun h=>h,hp3,hrt⟩
 obtain ⟨N,hL,hRC⟩:=hrt'.lay id 0 hnd
 rw [hr] at hL hRC
 simp only at hL hRC
 refine hn c w' (over B nw N) pr' ?_ (hRC _ fun o' ho'=>?_)
 ·refine ⟨hk.os,hk.tape,hk.output,hk.drawn,hk.size,fun b hb'=>hk.block b hb' (fun h=>h),hm,hnew,hbd,fun o' ho'=>by simp only [over,ho'],fun o' x hx=>?_,fun o1 o2 b1 b2 h1 h2 h3 h4 h5=>?_⟩
  ·refine ⟨?_,?_⟩
   ·rintro rfl
    have:=fl_keys id 0 res
    rw [hr] at this
    obtain ⟨_,s,rows,h2⟩:=this.2 _ _ hx
    cases h2
   ·rcases hL.obs _ _ hx with ⟨bd,g1,g2,g3,g4⟩|⟨g1,g2⟩
    ·exact .inl ⟨bd,by simp only [over,hx];exact g1,g2 _,g3⟩
    ·exact .inr ⟨by simp only [over,hx];exact g1,g2⟩
  ·obtain ⟨x1,hx1⟩:=Option.ne_none_iff_exists'.1 h1
   obtain ⟨x2,hx2⟩:=Option.ne_none_iff_exists'.1 h2
   simp only [over,hx1] at h3
   simp only [over,hx2] at h4
   exact hL.inj _ _ _ _ h1 h2 h3 h4 h5
 ·obtain ⟨x,hx⟩:=Option.ne_none_iff_exists'.1 ho'
  simp only [over,hx]
theorem glob_mono {pr pr':Nat→Prop} (h:∀b,pr b→pr' b) (hg:GlobAt w pr gl):GlobAt w pr' gl:=fun g cells hc=>by
 obtain ⟨h1,cs,h2,h3⟩:=hg g cells hc
 exact ⟨h _ h1,cs,h2,h3.move (Like.refl _ _) h⟩
end Go.AM
namespace Go.AM
open Go Go.RowKit
variable {P:Program} {E:Env} {gl:List (Nat×List V)} {n0:Nat} {tm:List (Nat×V)} {ob:List (Id×Obj)} {w:World} {B:BM} {pr:Nat→Prop} {a:Act}
theorem ty_map {t k e sz bt:Nat} {z:List V} (h:Ty.Ok P t ⟨.map k e,sz,bt,z⟩):P.underlying t=some (.map k e):=by
 obtain ⟨u,hu,hf⟩:=ty_under h
 rw [hu]
 cases u<;>simp [K.fits] at hf
 obtain ⟨h1,h2⟩:=hf
 rw [h1,h2]
theorem kKind_key {t:Nat} {d:Ty} (h:Ty.Ok P t d) {k:V} (hk:kKind d.k k=true) {c:Value} (hc:RC w B pr k c):∃u,P.underlying t=some u∧MapKept.IsKey u c∧RC0 w pr k c:=by
 obtain ⟨u,hu,hf⟩:=ty_under h
 refine ⟨u,hu,?_⟩
 unfold kKind at hk
 split at hk
 ·rename_i k1 k2 n hd
  simp only [decide_eq_true_eq] at hk
  subst hk
  rw [hd] at hf
  cases u<;>simp [K.fits] at hf
  subst hf
  rw [hc.int_inv]
  exact ⟨rfl,.int ..⟩
 ·rename_i b hd
  rw [hd] at hf
  cases u<;>simp [K.fits] at hf
  rw [hc.bool_inv]
  exact ⟨trivial,.bool _⟩
 ·cases hk
theorem kSame_now {u:TypeDesc} {k x:V} {c y:Value} (hu:MapKept.IsKey u c) (hk:RC0 w pr k c) (hx:RC0 w pr x y) {b:Bool} (h:kSame k x=some b):Instr.sameNow u c y=some b∧(b=true→x=k∧c=y∧Instr.sameBits 10000 y c=true):=by
 unfold kSame at h
 split at h
 ·rename_i k1 n1 k2 n2
  split at h
  ·rename_i e
   subst e
   injection h with h;subst h
   cases hk;cases hx
   cases u<;>simp [MapKept.IsKey] at hu
   subst hu
   refine ⟨?_,fun h=>?_⟩
   ·simp [Instr.sameNow];rfl
   ·have:=of_decide_eq_true h
    subst this
    simp [Instr.sameBits]
  ·cases h
 ·injection h with h;subst h
  rename_i b1 b2
  cases hk;cases hx
  cases u<;>simp [MapKept.IsKey] at hu
  refine ⟨?_,fun h=>?_⟩
  ·simp only [Instr.sameNow];cases b1<;>cases b2<;>rfl
  ·have:=of_decide_eq_true h
   subst this
   simp [Instr.sameBits]
 ·cases h
theorem vget_now {u:TypeDesc} {k:V} {c:Value} (hu:MapKept.IsKey u c) (hk:RC0 w pr k c):∀{es:List (V×V)} {ms:List MapEntry} {r:Option V} (i:Nat),RCm w pr es ms→vget k es=some r →
 (r=none∧Instr.findNow u c ms i=some none)∨∃v j d,r=some v∧Instr.findNow u c ms i=some (some (j,d))∧RC0 w pr v d
 | [],[],r,i,_,h=>by
  injection h with h;subst h
  exact .inl ⟨rfl,rfl⟩
 | [],_::_,_,_,h,_=>h.elim
 | (_,_)::_,[],_,_,h,_=>h.elim
 | (x,v)::es,e::ms,r,i,h,hr=>by
  simp only [vget] at hr
  cases hs:kSame k x with
  | none=>rw [hs] at hr;cases hr
  | some b =>
   rw [hs] at hr
   have hn:=kSame_now hu hk h.1 hs
   cases b with
   | true =>
    injection hr with hr;subst hr
    refine .inr ⟨v,i,e.val,rfl,?_,h.2.1⟩
    simp only [Instr.findNow,hn.1]
   | false =>
    rcases vget_now hu hk (i+1) h.2.2 hr with ⟨h1,h2⟩|⟨v',j,d,h1,h2,h3⟩
    ·exact .inl ⟨h1,by simp only [Instr.findNow,hn.1];exact h2⟩
    ·exact .inr ⟨v',j,d,h1,by simp only [Instr.findNow,hn.1];exact h2,h3⟩
theorem vput_now {u:TypeDesc} {k v:V} {c d:Value} (hu:MapKept.IsKey u c) (hk:RC0 w pr k c) (hv:RC0 w pr v d):∀{es es':List (V×V)} {ms:List MapEntry} (i:Nat),RCm w pr es ms→vput k v es=some es' →
 (Instr.findNow u c ms i=some none∧∀n,RCm w pr es' (ms++[⟨c,d,n⟩]))∨∃j x e,Instr.findNow u c ms i=some (some (i+j,x))∧ms[j]?=some e∧Instr.sameBits 10000 e.key c=true∧RCm w pr es' (ms.set j { e with key:=c,val:=d })
 | [],es',[],i,_,h=>by
  injection h with h;subst h
  exact .inl ⟨rfl,fun n=>⟨hk,hv,trivial⟩⟩
 | [],_,_::_,_,h,_=>h.elim
 | (_,_)::_,_,[],_,h,_=>h.elim
 | (x,y)::es,es',e::ms,i,h,hr=>by
  simp only [vput] at hr
  cases hs:kSame k x with
  | none=>rw [hs] at hr;cases hr
  | some b =>
   rw [hs] at hr
   have hn:=kSame_now hu hk h.1 hs
   cases b with
   | true =>
    injection hr with hr;subst hr
    refine .inr ⟨0,e.val,e,?_,rfl,(hn.2 rfl).2.2,⟨hk,hv,h.2.2⟩⟩
    simp only [Instr.findNow,hn.1,Nat.add_zero]
   | false =>
    simp only [Option.map_eq_some_iff] at hr
    obtain ⟨es2,h1,rfl⟩:=hr
    rcases vput_now hu hk hv (i+1) h.2.2 h1 with ⟨h2,h3⟩|⟨j,y',e',h2,h3,h4,h5⟩
    ·exact .inl ⟨by simp only [Instr.findNow,hn.1];exact h2,fun n=>⟨h.1,h.2.1,h3 n⟩⟩
    ·exact .inr ⟨j+1,y',e',by simp only [Instr.findNow,hn.1];rw [h2];congr 3;omega,h3,h4,⟨h.1,h.2.1,h5⟩⟩
theorem vdel_now {u:TypeDesc} {k:V} {c:Value} (hu:MapKept.IsKey u c) (hk:RC0 w pr k c):∀{es es':List (V×V)} {ms:List MapEntry} (i:Nat),RCm w pr es ms→vdel k es=some es' →
 (Instr.findNow u c ms i=some none∧RCm w pr es' ms)∨∃j x,Instr.findNow u c ms i=some (some (i+j,x))∧j < ms.length∧RCm w pr es' (ms.eraseIdx j)
 | [],es',[],i,_,h=>by
  injection h with h;subst h
  exact .inl ⟨rfl,trivial⟩
 | [],_,_::_,_,h,_=>h.elim
 | (_,_)::_,_,[],_,h,_=>h.elim
 | (x,y)::es,es',e::ms,i,h,hr=>by
  simp only [vdel] at hr
  cases hs:kSame k x with
  | none=>rw [hs] at hr;cases hr
  | some b =>
   rw [hs] at hr
   have hn:=kSame_now hu hk h.1 hs
   cases b with
   | true =>
    injection hr with hr;subst hr
    refine .inr ⟨0,e.val,?_,by simp,h.2.2⟩
    simp only [Instr.findNow,hn.1,Nat.add_zero]
   | false =>
    simp only [Option.map_eq_some_iff] at hr
    obtain ⟨es2,h1,rfl⟩:=hr
    rcases vdel_now hu hk (i+1) h.2.2 h1 with ⟨h2,h3⟩|⟨j,y',h2,h3,h5⟩
    ·exact .inl ⟨by simp only [Instr.findNow,hn.1];exact h2,⟨h.1,h.2.1,h3⟩⟩
    ·exact .inr ⟨j+1,y',by simp only [Instr.findNow,hn.1];rw [h2];congr 3;omega,by simp;omega,⟨h.1,h.2.1,h5⟩⟩
theorem RCm.length:∀{es:List (V×V)} {ms:List MapEntry},RCm w pr es ms→es.length=ms.length
 | [],[],_=>rfl
 | [],_::_,h=>h.elim
 | (_,_)::_,[],h=>h.elim
 | (_,_)::_,_::_,h=>by simp [RCm.length h.2.2]
theorem map_at (q:QSim gl n0 tm ob a.tmps w B pr) {o:Id} {es:List (V×V)} (ho:oget ob o=some (.map es)) {c:Value} (hc:RC w B pr (.mapr o) c) :
 ∃b ms clock,c=.map (some b)∧w.heap[b]?=some (.map ms clock)∧RCm w pr es ms.toList∧Stamps ms clock:=by
 cases hc with
 | base h=>cases h
 | mapr hB =>
  rcases q.obs _ _ ho (by simp) with ⟨bd',hB',h,_⟩|⟨hB',_⟩
  ·rw [hB] at hB';injection hB' with hB';subst hB'
   obtain ⟨_,_,ms,clock,h1,h2⟩:=h
   exact ⟨_,ms,clock,rfl,h1,h2⟩
  ·rw [hB] at hB';cases hB'
theorem run_look (hE:E.good P=true) (q:QSim gl n0 tm ob a.tmps w B pr) {t k e sz bt:Nat} {z:List V} {dk de:Ty} {o:Id} {es:List (V×V)} {z0:V} {r:Option V} {ok:Bool} {x i:Operand}
 (ht:ety E t=some ⟨.map k e,sz,bt,z⟩) (hk:ety E k=some dk) (he:ety E e=some de) (hz:de.zero=[z0]) (hag:de.k.isAgg=false) (hx:ev tm x=.mapr o) (ho:oget ob o=some (.map es)) (hi:kKind dk.k (ev tm i)=true) (hr:vget (ev tm i) es=some r) :
 ∃c,(Instr.lookup t (a.eval x) (a.eval i) ok).run P w=.ok c w∧RC w B pr (lookV z0 ok r) c:=by
 have hxc:=ev_rc q.tms x
 rw [hx] at hxc
 obtain ⟨b,ms,clock,e1,e2,e3,_⟩:=map_at q ho hxc
 obtain ⟨u,hu,hkey,hk0⟩:=kKind_key (Env.ok hE hk) hi (ev_rc q.tms i)
 obtain ⟨zi,zu,g1,g2,g3,g4,g5,g6,g7,zv,g8,g9,g10⟩:=(Env.ok hE he).ex
 have hzrun:(zeroValue e).run P w=.ok zv w:=by simp [zeroValue,typeInfo,g1,g8]
 have hzrc:RC0 w pr z0 zv:=by
  have hj:=justs_rc (w:=w) (pr:=pr) g9
  rw [hz] at hj
  rw [hag] at g10
  have hcells:zv.cells.toList=[zv]:=by
   cases zv<;>simp [aggFits] at g10<;>rfl
  rw [hcells] at hj
  cases hj with
  | cons h _=>exact h
 rcases vget_now hkey hk0 0 e3 hr with ⟨rfl,h2⟩|⟨v,j,d,rfl,h2,h3⟩
 ·refine ⟨if ok then .tuple #[zv,.bool false] else zv,?_,?_⟩
  ·simp [Instr.lookup,e1,run_underlying (ty_map (Env.ok hE ht)),MapKept.run_getObj_map e2,MapKept.run_checkKey hu hkey,MapKept.run_findKey hu h2,hzrun,Result.andThen]
  ·cases ok with
   | true=>exact .tup (.cons (.base hzrc) (.cons (.base (.bool _)) .nil))
   | false=>exact .base hzrc
 ·refine ⟨if ok then .tuple #[d,.bool true] else d,?_,?_⟩
  ·simp [Instr.lookup,e1,run_underlying (ty_map (Env.ok hE ht)),MapKept.run_getObj_map e2,MapKept.run_checkKey hu hkey,MapKept.run_findKey hu h2,Result.andThen]
  ·cases ok with
   | true=>exact .tup (.cons (.base h3) (.cons (.base (.bool _)) .nil))
   | false=>exact .base h3
theorem mp_at {ks vs:List V} {c:Value} (hc:RC w B pr (.mp ks vs) c) :
 (c=.map none∧ks=[]∧vs=[])∨∃b ms clock,c=.map (some b)∧pr b∧w.heap[b]?=some (.map ms clock)∧RCm w pr (ks.zip vs) ms.toList∧ks.length=ms.size∧Stamps ms clock:=by
 cases hc with
 | base h =>
  cases h with
  | mp0=>exact .inl ⟨rfl,rfl,rfl⟩
  | mp hp hb hst hk hv =>
   refine .inr ⟨_,_,_,rfl,hp,hb,RCm.zip hk hv,?_,hst⟩
   have:=hk.length
   simpa using this
theorem run_lookP (hE:E.good P=true) (q:QSim gl n0 tm ob a.tmps w B pr) {t k e sz bt:Nat} {z:List V} {dk de:Ty} {ks vs:List V} {z0:V} {r:Option V} {ok:Bool} {x i:Operand}
 (ht:ety E t=some ⟨.map k e,sz,bt,z⟩) (hk:ety E k=some dk) (he:ety E e=some de) (hz:de.zero=[z0]) (hag:de.k.isAgg=false) (hx:ev tm x=.mp ks vs) (hi:kKind dk.k (ev tm i)=true) (hr:vget (ev tm i) (ks.zip vs)=some r) :
 ∃c,(Instr.lookup t (a.eval x) (a.eval i) ok).run P w=.ok c w∧RC w B pr (lookV z0 ok r) c:=by
 have hxc:=ev_rc q.tms x
 rw [hx] at hxc
 obtain ⟨u,hu,hkey,hk0⟩:=kKind_key (Env.ok hE hk) hi (ev_rc q.tms i)
 obtain ⟨zi,zu,g1,g2,g3,g4,g5,g6,g7,zv,g8,g9,g10⟩:=(Env.ok hE he).ex
 have hzrun:(zeroValue e).run P w=.ok zv w:=by simp [zeroValue,typeInfo,g1,g8]
 have hzrc:RC0 w pr z0 zv:=by
  have hj:=justs_rc (w:=w) (pr:=pr) g9
  rw [hz] at hj
  rw [hag] at g10
  have hcells:zv.cells.toList=[zv]:=by
   cases zv<;>simp [aggFits] at g10<;>rfl
  rw [hcells] at hj
  cases hj with
  | cons h _=>exact h
 rcases mp_at hxc with ⟨e1,rfl,rfl⟩|⟨b,ms,clock,e1,_,e2,e3,_,_⟩
 ·have hr':r=none:=by simp [vget] at hr;exact hr.symm
  subst hr'
  refine ⟨if ok then .tuple #[zv,.bool false] else zv,?_,?_⟩
  ·simp [Instr.lookup,e1,run_underlying (ty_map (Env.ok hE ht)),MapKept.run_checkKey hu hkey,MapKept.run_findKey hu (show Instr.findNow u (a.eval i) [] 0=some none from rfl),hzrun,Result.andThen]
  ·cases ok with
   | true=>exact .tup (.cons (.base hzrc) (.cons (.base (.bool _)) .nil))
   | false=>exact .base hzrc
 ·rcases vget_now hkey hk0 0 e3 hr with ⟨rfl,h2⟩|⟨v,j,d,rfl,h2,h3⟩
  ·refine ⟨if ok then .tuple #[zv,.bool false] else zv,?_,?_⟩
   ·simp [Instr.lookup,e1,run_underlying (ty_map (Env.ok hE ht)),MapKept.run_getObj_map e2,MapKept.run_checkKey hu hkey,MapKept.run_findKey hu h2,hzrun,Result.andThen]
   ·cases ok with
    | true=>exact .tup (.cons (.base hzrc) (.cons (.base (.bool _)) .nil))
    | false=>exact .base hzrc
  ·refine ⟨if ok then .tuple #[d,.bool true] else d,?_,?_⟩
   ·simp [Instr.lookup,e1,run_underlying (ty_map (Env.ok hE ht)),MapKept.run_getObj_map e2,MapKept.run_checkKey hu hkey,MapKept.run_findKey hu h2,Result.andThen]
   ·cases ok with
    | true=>exact .tup (.cons (.base h3) (.cons (.base (.bool _)) .nil))
    | false=>exact .base h3
end Go.AM
namespace Go.AM
open Go Go.RowKit
variable {P:Program} {E:Env} {gl:List (Nat×List V)} {n0:Nat} {tm:List (Nat×V)} {ob:List (Id×Obj)} {w:World} {B:BM} {pr:Nat→Prop} {a:Act}
theorem RCs.ints {pr:Nat→Prop}:∀{ns:List Int} {cs:List Value},RCs w pr (ns.map fun n=>V.int .u8 n) cs→cs=ns.map fun n=>Value.int .u8 n
 | [],_,h=>by cases h;rfl
 | n::ns,_,h=>by
  rw [List.map_cons] at h
  cases h with
  | cons h1 h2 =>
   cases h1
   rw [RCs.ints h2]
   rfl
theorem RCr.bytes {pr:Nat→Prop} {b:Nat}:∀{ns:List Int} {off:Nat},RCr w pr b 1 off (ns.map fun n=>[V.int .u8 n])→w.rangeAt b off (ns.map fun n=>Value.int .u8 n)
 | [],off,_=>fun j v h=>by simp at h
 | n::ns,off,h=>by
  rw [List.map_cons] at h
  cases h with
  | cons ha hl hr t =>
   cases hr with
   | cons h1 h2 =>
    cases h1;cases h2
    have ih:=RCr.bytes t
    intro j v hj
    cases j with
    | zero=>simp at hj;subst hj;exact ha 0 _ rfl
    | succ j =>
     have:=ih j v (by simpa using hj)
     rwa [show off+1+j=off+(j+1) by omega] at this
theorem run_convB {pr:Nat→Prop} {src dst e:TypeId} {ns:List Int} {c:Value} (hs:P.underlying src=some (.slice e)) (he:P.underlying e=some (.int .u8)) (hd:P.underlying dst=some .string)
 (hc:RC0 w pr (.sl 1 (ns.map fun n=>[V.int .u8 n])) c):(convert src dst c).run P w=.ok (.string (strOfNums ns)) w:=by
 generalize hr:(ns.map fun n=>[V.int .u8 n])=rows at hc
 cases hc with
 | sl0 _ a cap =>
  have:ns=[]:=by simpa using hr
  subst this
  cases a with
  | none=>exact run_convert_bytes_nil w src e hs he 0 cap dst hd
  | some a =>
   rw [run_convert_bytes_string w src dst e _ 0 cap hs he hd,run_bytesToString w _ 0 cap [] (by simp [loadCells,loadCellsFrom])]
   rfl
 | sl hp hn hcap h =>
  rename_i b off cap
  subst hr
  have hrg:=RCr.bytes h
  refine run_convert_bytes_arg w src e hs he b off _ cap ns (by simp) (fun i hi=>?_) dst hd
  have hi':i < ns.length:=by simpa using hi
  have:=hrg i (Value.int .u8 (ns.getD i 0)) (by simp [List.getD,hi'])
  exact this
theorem Nz.rcs {w:World} {pr:Nat→Prop} {vs us:List V} (h:Nz vs us):∀{cs:List Value},RCs w pr vs cs→RCs w pr us cs:=by
 induction h with
 | nil=>intro cs h;exact h
 | same _ ih=>intro cs h;cases h with|cons h t=>exact .cons h (ih t)
 | nz _ ih=>intro cs h;cases h with|cons h t=>cases h;exact .cons (.sl0 _ none 0) (ih t)
theorem NzR.rcr {w:World} {pr:Nat→Prop} {b s:Nat} {rs qs:List (List V)} (h:NzR rs qs):∀{off:Nat},RCr w pr b s off rs→RCr w pr b s off qs:=by
 induction h with
 | nil=>intro off _;exact .nil _ _ _
 | cons h1 _ ih=>intro off h;cases h with|cons ha hl h t=>exact .cons ha (by rw [h1.length];exact hl) (h1.rcs h) (ih t)
theorem lit_run (hE:E.good P=true) (ht:TMs w B pr n0 tm a.tmps) {t n:Nat} {parts:Array (Nat×Operand)} {e sz bt:Nat} {z cells:List V} {de:Ty}
 (hty:ety E t=some ⟨.sli e,sz,bt,z⟩) (he:ety E e=some de) (hn':n*de.size≤16777216) (hc:fillV (fun i=>some (i*de.size,de.size)) (repV n de.zero) (evParts tm parts.toList)=some cells) :
 ∃ds:List Value,ds.length=n*de.size∧RCl w B pr cells ds∧(Instr.buildSlice t n (parts.map fun(i,x)=>(i,a.eval x))).run P w=.ok (.slice (some ⟨w.heap.size,0,none⟩) n n) (w.alloc (.cells ds.toArray e)):=by
 have hu:=ty_sli (Env.ok hE hty)
 obtain ⟨zv,hz,hrc,hlen⟩:=zero_vals (w:=w) (pr:=pr) (Env.ok hE he)
 have hzl:de.zero.length=de.size:=by rw [hrc.length,hlen]
 have hzs:zv.cells.size=de.size:=by simpa using hlen
 have hrep:=rep_zero (n:=n) (RCl.of (B:=B) hrc) hzl n
 obtain ⟨ds,hd1,hd2,hd3⟩:=fill_rc (place':=fun i=>some (i*de.size,de.size)) (fun _ _ h=>h) ht parts.toList _ _ _ hrep hc
 have hzero:((List.range (n*zv.cells.toList.length)).map fun i=>zv.cells.toList[i % zv.cells.toList.length]!).toArray=(Array.range (n*de.size)).map (zv.cells[· % zv.cells.size]!):=by
  apply Array.ext'
  simp [hzs,Array.toList_range]
  intro i _
  cases h:zv.cells[i % de.size]?<;>simp [getElem!_def,h]
 have hds:ds.length=n*de.size:=by
  have h1:=hd2.length
  have h2:=hrep.length
  rw [←h1,hd3,h2]
  simp [hzs]
 have hrun:(Instr.buildSlice t n (parts.map fun(i,x)=>(i,a.eval x))).run P w=.ok (.slice (some ⟨w.heap.size,0,none⟩) n n) (w.alloc (.cells ds.toArray e)):=by
  have hfin:∀zs:Array Value,(zs=zv.cells∨n*de.size=0)→Instr.fill (fun i=>some (i*de.size,de.size)) ((Array.range (n*de.size)).map (zs[· % zs.size]!)) (parts.map fun(i,x)=>(i,a.eval x)).toList=some ds.toArray:=by
   intro zs hzs'
   have:(Array.range (n*de.size)).map (zs[· % zs.size]!)=(Array.range (n*de.size)).map (zv.cells[· % zv.cells.size]!):=by
    rcases hzs' with rfl|h0
    ·rfl
    ·simp [h0]
   rw [this,←hzero]
   simpa [Array.toList_map] using hd1
  simp only [Instr.buildSlice,Sem.run_bind,run_underlying hu,Result.andThen_ok,Sem.run_pure,ty_size (Env.ok hE he)]
  rw [if_neg (by omega)]
  by_cases h0':n*de.size=0
  ·rw [if_pos h0']
   simp only [Sem.run_bind,Sem.run_pure,Result.andThen_ok,hfin #[] (.inr h0'),newRow,newObj]
   rfl
  ·rw [if_neg h0']
   simp only [Sem.run_bind,hz,Sem.run_pure,Result.andThen_ok,hfin _ (.inl rfl),newRow,newObj]
   rfl
 exact ⟨ds,hds,hd2,hrun⟩
theorem QEv.sound (hE:E.good P=true) (q:QSim gl n0 tm ob a.tmps w B pr) {id:Id} {o:Oper} {v:V} {nw:List (Id×Obj)} (h:QEv P E gl tm ob id o.op v nw) (hfr:∀k x,oget nw k=some x→B k=none)
 {next:Act→World→Prop} {Q:Exit→Act→World→Prop} (hn:∀c w' B' pr',Ext w w' B B' pr pr' nw→RC w' B' pr' v c→next (a.put o.dst c) w'):o.wp P a w next Q:=by
 have ht:=q.tms
 generalize hop:o.op=op at h
 cases h with
 | fn h=>exact still q hn (evF_run hE ht (by rw [hop];exact h))
 | @pick c x y b hc =>
  have hcv:=ev_rc ht c
  rw [hc] at hcv
  refine still q hn ⟨_,?_,pickV_rc (ev_rc ht x) (ev_rc ht y)⟩
  unfold execOp;rw [hop]
  simp only [hcv.bool_inv,asBool,Sem.run_bind,Sem.run_pure,Result.andThen_ok]
 | @eqA t t' x y d us vs b hd ha hx hy hok he =>
  have h1:=ev_rc ht x;have h2:=ev_rc ht y
  rw [hx] at h1;rw [hy] at h2
  obtain ⟨cs,e1,hc1⟩:=h1.agg_inv
  obtain ⟨ds,e2,hc2⟩:=h2.agg_inv
  simp only [Bool.and_eq_true,Bool.not_eq_true'] at hok
  have hrun:=eqT_run hE (w:=w) 20 t d us vs cs ds b 10000 (by omega) hok.1 hd he hc1 hc2
  rw [ha] at hrun
  have hrun:(Op.equalIn 10000 t (.agg cs.toArray) (.agg ds.toArray)).run P w=.ok b w:=hrun
  refine still q hn ⟨_,?_,.base (.bool _)⟩
  unfold execOp;rw [hop]
  simp only [e1,e2,Sem.run_bind,run_eqGuard_agg w _ t x y _ _ hok.2,run_eql_struct,hrun,Result.andThen_ok,Sem.run_pure]
 | @neA t t' x y d us vs b hd ha hx hy hok he =>
  have h1:=ev_rc ht x;have h2:=ev_rc ht y
  rw [hx] at h1;rw [hy] at h2
  obtain ⟨cs,e1,hc1⟩:=h1.agg_inv
  obtain ⟨ds,e2,hc2⟩:=h2.agg_inv
  simp only [Bool.and_eq_true,Bool.not_eq_true'] at hok
  have hrun:=eqT_run hE (w:=w) 20 t d us vs cs ds b 10000 (by omega) hok.1 hd he hc1 hc2
  rw [ha] at hrun
  have hrun:(Op.equalIn 10000 t (.agg cs.toArray) (.agg ds.toArray)).run P w=.ok b w:=hrun
  refine still q hn ⟨_,?_,.base (.bool _)⟩
  unfold execOp;rw [hop]
  simp only [e1,e2,Sem.run_bind,run_eqGuard_agg w _ t x y _ _ hok.2,run_neq_struct,hrun,Result.andThen_ok,Sem.run_pure]
 | @shrV t t' x y k k' p q' hx hy h0 =>
  have h1:=ev_rc ht x;have h2:=ev_rc ht y
  rw [hx] at h1;rw [hy] at h2
  refine still q hn ⟨_,?_,.base (.int _ _)⟩
  unfold execOp;rw [hop]
  simp only [h1.int_inv,h2.int_inv,eqGuard,binOp,Op.shift,if_neg (show ¬q' < 0 by omega),Sem.run_bind,Sem.run_pure,Result.andThen_ok]
  rfl
 | @shlV t t' x y k k' p q' hx hy h0 =>
  have h1:=ev_rc ht x;have h2:=ev_rc ht y
  rw [hx] at h1;rw [hy] at h2
  refine still q hn ⟨_,?_,.base (.int _ _)⟩
  unfold execOp;rw [hop]
  simp only [h1.int_inv,h2.int_inv,eqGuard,binOp,Op.shift,if_neg (show ¬q' < 0 by omega),Sem.run_bind,Sem.run_pure,Result.andThen_ok]
  rfl
 | @quoV t t' x y k p q' hx hy h0 =>
  have h1:=ev_rc ht x;have h2:=ev_rc ht y
  rw [hx] at h1;rw [hy] at h2
  refine still q hn ⟨_,?_,.base (.int _ _)⟩
  unfold execOp;rw [hop]
  simp only [h1.int_inv,h2.int_inv,eqGuard,binOp,Op.intDiv,if_neg h0,Sem.run_bind,Sem.run_pure,Result.andThen_ok,ne_eq,not_true_eq_false,if_false]
  rfl
 | @remV t t' x y k p q' hx hy h0 =>
  have h1:=ev_rc ht x;have h2:=ev_rc ht y
  rw [hx] at h1;rw [hy] at h2
  refine still q hn ⟨_,?_,.base (.int _ _)⟩
  unfold execOp;rw [hop]
  simp only [h1.int_inv,h2.int_inv,eqGuard,binOp,Op.intDiv,if_neg h0,Sem.run_bind,Sem.run_pure,Result.andThen_ok,ne_eq,not_true_eq_false,if_false]
  rfl
 | @load t x d p cs v hd hx hc hm =>
  have hp:=ev_rc ht x
  rw [hx] at hp
  obtain ⟨b,off,vs,he,hr,hl,hrc⟩:=cells_at q hc hp
  obtain ⟨c,h1,h2⟩:=loadAt_run (P:=P) (Env.ok hE hd) hr hl hm hrc
  refine still q hn ⟨c,?_,h2⟩
  unfold execOp;rw [hop]
  simp only [he,Sem.run_bind,h1,Result.andThen_ok,Sem.run_pure]
 | @idxRef t x i e sz bt z de o' row len s rs fz k n hty he hx ho hs hi h0 h1 =>
  have hp:=ev_rc ht x
  have hk:=ev_rc ht i
  rw [hx] at hp;rw [hi] at hk
  rcases hp.ref_inv with ⟨hz,_⟩|⟨bd,cap,hB,hcl,hcap,hc⟩
  ·omega
  ·obtain ⟨hs',_⟩:=ref_bd q ho hB
   refine still q hn ⟨_,execOp_index hop (by rw [hc,hk.int_inv];exact index_run (ty_sli (Env.ok hE hty)) (Env.ok hE he) h0 (by omega)),?_⟩
   have:=RC.ptr (w:=w) (pr:=pr) (row:=row+n.toNat) (off:=0) hB
   rw [hs',hs] at this
   rw [hs',hs,show bd.base+row*de.size+n.toNat*de.size=bd.base+(row+n.toNat)*de.size+0 by rw [Nat.add_mul];omega]
   exact this
 | @idxSl t x i e sz bt z de s rows k n hty he hx hs hi h0 h1 =>
  have hp:=ev_rc ht x
  have hk:=ev_rc ht i
  rw [hx] at hp;rw [hi] at hk
  obtain ⟨ad,cap,hc,hcap,hne⟩:=hp.sl_inv
  have:rows≠[]:=by rintro rfl;simp at h1;omega
  obtain ⟨b,off,rfl,hpb,hr⟩:=hne this
  refine still q hn ⟨_,execOp_index hop (by rw [hc,hk.int_inv];exact index_run (ty_sli (Env.ok hE hty)) (Env.ok hE he) h0 (by omega)),?_⟩
  have:=RC0.spt (w:=w) (pr:=pr) (row:=n.toNat) (off:=0) hpb hr
  rw [←hs]
  exact .base this
 | @idxArr t x i m e sz bt z de o' row off k n hty he hx hi h0 h1 =>
  have hp:=ev_rc ht x
  have hk:=ev_rc ht i
  rw [hx] at hp;rw [hi] at hk
  obtain ⟨bd,hB,hc⟩:=hp.ptr_inv
  refine still q hn ⟨_,execOp_index hop (by rw [hc,hk.int_inv];exact index_arr_run (ty_arr (Env.ok hE hty)) (Env.ok hE he) h0 h1),?_⟩
  rw [show bd.base+row*bd.s+off+n.toNat*de.size=bd.base+row*bd.s+(off+n.toNat*de.size) by omega]
  exact .ptr hB
 | @idxArrG t x i m e sz bt z de g off k n hty he hx hi h0 h1 =>
  have hp:=ev_rc ht x
  have hk:=ev_rc ht i
  rw [hx] at hp;rw [hi] at hk
  have hc:=hp.gptr_inv
  exact still q hn ⟨_,execOp_index hop (by rw [hc,hk.int_inv];exact index_arr_run (ty_arr (Env.ok hE hty)) (Env.ok hE he) h0 h1),.base (.gptr _ _)⟩
 | @idxArrS t x i m e sz bt z de s rows row off k n hty he hx hi h0 h1 =>
  have hp:=ev_rc ht x
  have hk:=ev_rc ht i
  rw [hx] at hp;rw [hi] at hk
  obtain ⟨b,base,hc,hpb,hr⟩:=hp.spt_inv
  refine still q hn ⟨_,execOp_index hop (by rw [hc,hk.int_inv];exact index_arr_run (ty_arr (Env.ok hE hty)) (Env.ok hE he) h0 h1),?_⟩
  rw [show base+row*s+off+n.toNat*de.size=base+row*s+(off+n.toNat*de.size) by omega]
  exact .base (.spt hpb hr)
 | @idxV t x i m e sz bt z cs us de k n v hty he hx hi h0 h1 hc hm =>
  have hp:=ev_rc ht x
  have hk:=ev_rc ht i
  rw [hx] at hp;rw [hi] at hk
  obtain ⟨vs,hvs,hcl⟩:=hp.agg_inv
  obtain ⟨g1,g2,g3⟩:=cutV_rc hc hcl
  obtain ⟨c,hc1,hc2⟩:=mkV_rc (P:=P) (Env.ok hE he) hm g1
  refine still q hn ⟨c,?_,hc1⟩
  have hsz:de.k.isAgg=false→0 < de.size:=fun ha=>by
   rw [ha] at hm
   unfold mkV at hm
   simp only at hm
   split at hm
   ·simp at g3;omega
   ·cases hm
  have hpart:=part_run (P:=P) (w:=w) (Env.ok hE he) g2 hsz
  have hval:valOf de.k.isAgg ((vs.drop (n.toNat*de.size)).take de.size)=c:=by
   have h2:=hc2 w
   rw [Sem.run_bind,isAgg_run (Env.ok hE he)] at h2
   simp only [Result.andThen_ok] at h2
   cases ha:de.k.isAgg with
   | true=>rw [ha] at h2;simpa [valOf] using h2
   | false =>
    rw [ha] at h2
    have h3:=hsz ha
    cases hl:(vs.drop (n.toNat*de.size)).take de.size with
    | nil =>
     have:=congrArg List.length hl
     simp at this
     omega
    | cons y r=>rw [hl] at h2;simpa [valOf] using h2
  unfold execOp;rw [hop]
  simp only [hvs,hk.int_inv,Instr.index,asIntOf,Sem.run_bind,Sem.run_pure,Result.andThen_ok,run_underlying (ty_arr (Env.ok hE hty)),if_pos (And.intro h0 h1),ty_size (Env.ok hE he),hpart,hval]
 | @idxStr t x i sz bt z k n s c hty hx hi h0 hc =>
  have hp:=ev_rc ht x
  have hk:=ev_rc ht i
  rw [hx] at hp;rw [hi] at hk
  obtain ⟨u,hu,hf⟩:=ty_under (Env.ok hE hty)
  rw [fits_str hf] at hu
  refine still q hn ⟨_,?_,.base (.int .u8 c.toNat)⟩
  unfold execOp;rw [hop]
  simp only [hp.str_inv,hk.int_inv,Instr.index,asIntOf,Sem.run_bind,Sem.run_pure,Result.andThen_ok,run_underlying hu,if_pos h0,hc]
 | @slSl t x lo hi e sz bt z de s l h rows hty he hx hs hl hh h1 h2 =>
  have hp:=ev_rc ht x
  rw [hx] at hp
  obtain ⟨ad,cap,hc,hcap,hne⟩:=hp.sl_inv
  refine still q hn ⟨_,execOp_slice hop (by rw [hc];exact slice_run (ty_sli (Env.ok hE hty)) (Env.ok hE he) ht hl hh (.no) (by simp) h1 (Nat.le_trans h2 hcap) (Nat.le_refl _)),?_⟩
  have hlen:((rows.drop l).take (h - l)).length=h - l:=by simp;omega
  by_cases hz:h - l=0
  ·rw [hz];simp only [List.take_zero];exact .base (.sl0 ..)
  ·have hne':rows≠[]:=by rintro rfl;simp at h2;omega
   obtain ⟨b,off,rfl,hpb,hr⟩:=hne hne'
   have:=RC0.sl (w:=w) (pr:=pr) (cap:=cap - l) hpb (fun e=>by rw [e] at hlen;simp at hlen;omega) (by rw [hlen];omega) ((hr.drop l).take (h - l))
   rw [hlen] at this
   rw [if_neg (by omega)]
   simp only [Option.map_some,add_mid]
   rw [←hs]
   exact .base this
 | @slSl3 t x hi mx lo e sz bt z de s l h m rows hty he hx hs hl hh hm h1 h2 h3 =>
  have hp:=ev_rc ht x
  rw [hx] at hp
  obtain ⟨ad,cap,hc,hcap,hne⟩:=hp.sl_inv
  have hm':Bnd tm cap (some mx) m:=by
   cases hm with
   | lim q1 q2=>exact .lim q1 q2
  refine still q hn ⟨_,execOp_slice hop (by rw [hc];exact slice_run (ty_sli (Env.ok hE hty)) (Env.ok hE he) ht hl hh hm' (by simp) h1 h2 (Nat.le_trans h3 hcap)),?_⟩
  have hlen:((rows.drop l).take (h - l)).length=h - l:=by simp;omega
  by_cases hz:h - l=0
  ·rw [hz];simp only [List.take_zero];exact .base (.sl0 ..)
  ·have hne':rows≠[]:=by rintro rfl;simp at h3;omega
   obtain ⟨b,off,rfl,hpb,hr⟩:=hne hne'
   have:=RC0.sl (w:=w) (pr:=pr) (cap:=m - l) hpb (fun e=>by rw [e] at hlen;simp at hlen;omega) (by rw [hlen];omega) ((hr.drop l).take (h - l))
   rw [hlen] at this
   rw [if_neg (by omega)]
   simp only [Option.map_some,add_mid]
   rw [←hs]
   exact .base this
 | @slRef t x lo hi e sz bt z de o' row len l h s rs fz hty he hx ho hs hl hh h1 h2 =>
  have hp:=ev_rc ht x
  rw [hx] at hp
  rcases hp.ref_inv with ⟨hz,ad,hc⟩|⟨bd,cap,hB,hcl,hcap,hc⟩
  ·subst hz
   have:h=0:=by omega
   subst this
   have:l=0:=by omega
   subst this
   refine still q hn ⟨_,execOp_slice hop (by rw [hc];exact slice_run (ty_sli (Env.ok hE hty)) (Env.ok hE he) ht hl hh (.no) (by simp) h1 (Nat.le_refl _) (Nat.le_refl _)),?_⟩
   simp only [if_true,Nat.sub_self]
   exact .ref0 ..
  ·obtain ⟨hs',_⟩:=ref_bd q ho hB
   refine still q hn ⟨_,execOp_slice hop (by rw [hc];exact slice_run (ty_sli (Env.ok hE hty)) (Env.ok hE he) ht hl hh (.no) (by simp) h1 (Nat.le_trans h2 hcap) (Nat.le_refl _)),?_⟩
   by_cases hz:cap=l
   ·rw [if_pos hz]
    have:h - l=0:=by omega
    rw [this,show cap - l=0 by omega]
    exact .ref0 ..
   ·rw [if_neg hz]
    simp only [Option.map_some,add_mid]
    have:=RC.ref (w:=w) (pr:=pr) (row:=row+l) (len:=h - l) (cap:=cap - l) hB (by omega) (by omega)
    rw [hs',hs] at this
    rw [hs',hs,show bd.base+row*de.size+l*de.size=bd.base+(row+l)*de.size by rw [Nat.add_mul];omega]
    exact this
 | @slEmp t x lo hi mx e sz bt z de n k1 k2 k3 hty he hx hlo hhi hmx =>
  obtain ⟨ad,cap,len,hc,hlen⟩:=lenV_run hx (ev_rc ht x)
  refine still q hn ⟨_,execOp_slice hop (by
   rw [hc]
   exact slice_run (l:=0) (h:=0) (m:=0) (ty_sli (Env.ok hE hty)) (Env.ok hE he) ht (.lim (i:=0) hlo (by omega)) (.lim (i:=0) hhi (by omega)) (.lim (i:=0) hmx (by omega)) (by simp) (Nat.le_refl _) (Nat.le_refl _) (Nat.zero_le _)),?_⟩
  exact .base (.emp _)
 | @slArr t x m e sz bt z de o' off cells hty he hx ho hcl =>
  have hp:=ev_rc ht x
  rw [hx] at hp
  obtain ⟨bd,hB,hc⟩:=hp.ptr_inv
  have hu:=ty_arr (Env.ok hE hty)
  have hel:P.elem t=e:=by simp [Program.elem,hu]
  have hal:P.arrayLen t=m:=by simp [Program.arrayLen,hu]
  obtain ⟨hs',_⟩:ObjAt w B pr bd (.box cells):=by
   rcases q.obs _ _ ho (by simp) with ⟨bd',hB',h,_⟩|⟨hB',_⟩
   ·rw [hB] at hB';injection hB' with hB';subst hB';exact h
   ·rw [hB] at hB';cases hB'
  have hrun:(Instr.sliceAt t (.pointer (some ⟨bd.b,bd.base+0*bd.s+off,none⟩)) none none none).run P w=.ok (.slice (some ⟨bd.b,bd.base+off,none⟩) m m) w:=by
   have h0:bd.base+0*bd.s+off=bd.base+off:=by omega
   rw [h0]
   simp only [Instr.sliceAt,Sem.run_bind,run_underlying hu,Result.andThen_ok,Instr.sureAddr,Sem.run_pure,Instr.sliceBounds,ty_size (Env.ok hE he)]
   by_cases hm:m=0
   ·subst hm;simp
   ·simp [hm,Addr.add]
  refine still q hn ⟨_,execOp_slice hop (by rw [hc];exact hrun),?_⟩
  exact .bref hB (by rw [hs'];omega) (Nat.le_refl _)
 | @box t x cells hx h1 =>
  have hp:=(ev_rc ht x).cells hx
  have hf:B id=none:=hfr id (.box cells) (by simp [oget,idEq_iff.2 rfl])
  refine new_sound q hn (.cells (a.eval x).cells t) (.pointer (some ⟨w.heap.size,0,none⟩)) cells.length 1 (by simp) ?_ ?_ ?_
  ·unfold execOp;rw [hop]
   simp only [Instr.box,newVar,newRow,newObj,Sem.run_bind,Sem.run_pure,Result.andThen_ok]
   rfl
  ·simpa using box_obj q.pra id hf t hp
  ·have:=RC.ptr (w:=w.alloc (.cells (a.eval x).cells t)) (pr:=pr) (row:=0) (off:=0) (upd_self B id ⟨w.heap.size,0,cells.length,1⟩)
   simpa using this
 | @alloc t d hd h1 =>
  have hf:B id=none:=hfr id (.box d.zero) (by simp [oget,idEq_iff.2 rfl])
  obtain ⟨z,hz,hrc,hlen⟩:=zero_vals (w:=w) (pr:=pr) (Env.ok hE hd)
  refine new_sound q hn (.cells z.cells t) (.pointer (some ⟨w.heap.size,0,none⟩)) d.zero.length 1 (by simp) ?_ ?_ ?_
  ·unfold execOp;rw [hop]
   simp only [Instr.alloc,newVar,newRow,newObj,Sem.run_bind,Sem.run_pure,Result.andThen_ok,hz]
   rfl
  ·simpa using box_obj q.pra id hf t (.of hrc)
  ·have:=RC.ptr (w:=w.alloc (.cells z.cells t)) (pr:=pr) (row:=0) (off:=0) (upd_self B id ⟨w.heap.size,0,d.zero.length,1⟩)
   simpa using this
 | @make t l c e sz bt z de k1 k2 n m zs hty he hl hc h0 h1 h2 h3 hf' hnz =>
  have hk1:=ev_rc ht l
  have hk2:=ev_rc ht c
  rw [hl] at hk1;rw [hc] at hk2
  obtain ⟨zv,hz,hrc,hlen⟩:=zero_vals (w:=w) (pr:=pr) (Env.ok hE he)
  have hzl:de.zero.length=de.size:=by rw [hrc.length,hlen]
  have hu:=ty_sli (Env.ok hE hty)
  obtain ⟨ie,ue,hie,_,hse,hbe,_⟩:=(Env.ok hE he).ex
  have hwl:IntKind.i64.wrap n=n:=by unfold IntKind.wrap;simp [IntKind.signed,IntKind.bits];omega
  have hwm:IntKind.i64.wrap m=m:=by unfold IntKind.wrap;simp [IntKind.signed,IntKind.bits];omega
  have hrep:=rep_zero (n:=m.toNat) (RCl.of (B:=B) hrc) hzl m.toNat
  let cells:Array Value:=((Array.range (m.toNat*de.size)).map (zv.cells[· % zv.cells.size]!))
  have hzs:zv.cells.size=de.size:=by simpa using hlen
  have hcs:cells.size=m.toNat*de.size:=by simp [cells]
  have hrow:∀i j,i < m.toNat→j < de.size→cells[i*de.size+j]?=zv.cells[j]?:=by
   intro i j hi hj
   have hlt:i*de.size+j < m.toNat*de.size:=by
    calc i*de.size+j < i*de.size+de.size:=by omega
     _=(i+1)*de.size:=by rw [Nat.add_mul];omega
     _≤m.toNat*de.size:=Nat.mul_le_mul_right _ hi
   simp only [cells,Array.getElem?_map,hzs]
   rw [Array.getElem?_range,if_pos hlt]
   simp only [Option.map_some]
   rw [Nat.mul_comm,Nat.mul_add_mod,Nat.mod_eq_of_lt hj]
   have:j < zv.cells.size:=by omega
   simp [this]
  have hrun:(Instr.makeSlice t (.int k1 n) (.int k2 m)).run P w=.ok (.slice (some ⟨w.heap.size,0,none⟩) n.toNat m.toNat) (w.alloc (.cells cells e)):=by
   have hbm:(ie.bytes:Int)*m≤140737488355328:=by rw [hbe];exact h3
   have hroom:¬(m.toNat*ie.bytes > roomBytes):=by
    unfold roomBytes
    have:((m.toNat*ie.bytes:Nat):Int)≤140737488355328:=by
     rw [Int.natCast_mul,Int.toNat_of_nonneg (by omega),Int.mul_comm];exact hbm
    omega
   have hnew:∀zs:Array Value,(zs=zv.cells∨m.toNat*de.size=0)→(newRow e ((Array.range (m.toNat*de.size)).map (zs[· % zs.size]!))).run P w=.ok ⟨w.heap.size,0,none⟩ (w.alloc (.cells cells e)):=by
    intro zs hzs'
    have:(Array.range (m.toNat*de.size)).map (zs[· % zs.size]!)=cells:=by
     rcases hzs' with rfl|h0
     ·rfl
     ·simp [cells,h0]
    rw [this]
    simp only [newRow,newObj,Sem.run_bind,Sem.run_pure]
    rfl
   simp only [Instr.makeSlice,asInt,asIntOf,Sem.run_bind,run_underlying hu,Result.andThen_ok,Sem.run_pure,typeInfo,run_program,hie,hwl,hwm]
   rw [if_neg (by simp only [Bool.or_eq_true,decide_eq_true_eq];omega)]
   simp only [Sem.run_bind,Sem.run_pure,Result.andThen_ok,askRoom,if_neg hroom,hie,ty_size (Env.ok hE he)]
   by_cases h0':m.toNat*de.size=0
   ·rw [if_pos h0']
    simp only [Sem.run_bind,Sem.run_pure,Result.andThen_ok,hnew #[] (.inr h0')]
   ·rw [if_neg h0']
    simp only [Sem.run_bind,hz,Sem.run_pure,Result.andThen_ok,hnew _ (.inl rfl)]
  refine new_sound q hn (.cells cells e) (.slice (some ⟨w.heap.size,0,none⟩) n.toNat m.toNat) de.size m.toNat (by simp) ?_ ?_ ?_
  ·unfold execOp;rw [hop]
   simp only [hk1.int_inv,hk2.int_inv,Sem.run_bind,hrun,Result.andThen_ok,Sem.run_pure]
  ·refine ⟨rfl,by simp;omega,by simp;intro hb;have:=q.pra _ hb;omega,by rw [alloc_size];simp,fun _=>?_,?_⟩
   ·have:=there_new w cells e
    rwa [hcs] at this
   ·refine repl_rcr (cs:=zv.cells.toList) (hnz.rcs (hrc.move (like_alloc w _ q.pra) (fun _ h=>h))) (by rw [hnz.length];exact hzl) _ _ fun i hi j v hv=>?_
    have hj:j < de.size:=by
     have:=(List.getElem?_eq_some_iff.1 hv).1
     omega
    have hnew:=range_new w cells e (i*de.size+j) v (by
     rw [Array.getElem?_toList,hrow i j (by omega) hj,←Array.getElem?_toList];exact hv)
    rwa [show 0+i*de.size+j=0+(i*de.size+j) by omega]
  ·have:=RC.ref (w:=w.alloc (.cells cells e)) (pr:=pr) (row:=0) (len:=n.toNat) (cap:=m.toNat) (upd_self B id ⟨w.heap.size,0,de.size,m.toNat⟩) (by simp) (by omega)
   simpa using this
 | @lit t n parts e sz bt z cells de rows hty he hn' hc hf' h1 hnz =>
  obtain ⟨ds,hds,hd2,hrun⟩:=lit_run hE ht hty he hn' hc
  refine new_sound q hn (.cells ds.toArray e) (.slice (some ⟨w.heap.size,0,none⟩) n n) de.size n (by simp) ?_ ?_ ?_
  ·unfold execOp;rw [hop]
   simp only [Sem.run_bind,hrun,Result.andThen_ok,Sem.run_pure]
  ·have hrl:rows.length=n:=by rw [hnz.length,chunk_length]
   refine ⟨rfl,by rw [hrl];exact Nat.le_refl _,by simp;intro hb;have:=q.pra _ hb;omega,by rw [alloc_size];simp,fun _=>?_,?_⟩
   ·have:=there_new w ds.toArray e
    simpa [hds] using this
   ·refine hnz.rcr (chunk_rcr n 0 cells ds ((hd2.free hf').move (like_alloc w _ q.pra) (fun _ h=>h)) ?_ (range_new w ds.toArray e))
    rw [hd2.length,hds]
  ·have:=RC.ref (w:=w.alloc (.cells ds.toArray e)) (pr:=pr) (row:=0) (len:=n) (cap:=n) (upd_self B id ⟨w.heap.size,0,de.size,n⟩) (by simp) (Nat.le_refl _)
   simpa using this
 | @litF t n parts e sz bt z cells de rows hty he hn' hc hf' h1 hnz h0 =>
  obtain ⟨ds,hds,hd2,hrun⟩:=lit_run hE ht hty he hn' hc
  have hrow:RCr (w.alloc (.cells ds.toArray e)) (fun b=>pr b∨b=w.heap.size) w.heap.size de.size 0 rows :=
   hnz.rcr (chunk_rcr n 0 cells ds ((hd2.free hf').move (like_alloc w _ q.pra) (fun _ h=>.inl h)) (by rw [hd2.length,hds]) (range_new w ds.toArray e))
  have hrl:rows.length=n:=by rw [hnz.length,chunk_length]
  have hrc:=RC0.sl (w:=w.alloc (.cells ds.toArray e)) (pr:=fun b=>pr b∨b=w.heap.size) (cap:=n) (.inr rfl) h0 (by rw [hrl];exact Nat.le_refl _) hrow
  rw [hrl] at hrc
  refine wp_value (c:=.slice (some ⟨w.heap.size,0,none⟩) n n) (w':=w.alloc (.cells ds.toArray e)) ?_ (hn _ _ B (fun b=>pr b∨b=w.heap.size) ?_ (.base hrc))
  ·unfold execOp;rw [hop]
   simp only [Sem.run_bind,hrun,Result.andThen_ok,Sem.run_pure]
  ·have hpra:∀b,(pr b∨b=w.heap.size)→b < (w.alloc (.cells ds.toArray e)).heap.size:=fun b h=>by
    rw [alloc_size]
    rcases h with h|h
    ·have:=q.pra b h;omega
    ·omega
   have hsz:w.heap.size≤(w.alloc (.cells ds.toArray e)).heap.size:=by rw [alloc_size];omega
   have hprn:∀b,(pr b∨b=w.heap.size)→pr b∨w.heap.size≤b:=fun b h=>h.imp (fun h=>h) (fun e=>Nat.le_of_eq e.symm)
   exact ⟨rfl,rfl,rfl,Nat.le_refl _,hsz,fun b hb=>alloc_old w _ hb,fun _ h=>.inl h,hprn,hpra,fun _ _=>rfl,fun o x h=>(by simp [oget] at h),fun o o' b b' h=>absurd rfl h⟩
 | @mkMap t =>
  refine new_sound q hn (.map #[] 0) (.map (some w.heap.size)) 0 1 (by simp) ?_ ?_ ?_
  ·unfold execOp;rw [hop]
   simp [Instr.makeMap,newObj,Result.andThen]
   rfl
  ·refine ⟨fun hb=>?_,by rw [alloc_size];simp,#[],0,alloc_new ..,trivial,fun _ h=>by simp at h,by simp⟩
   have:=q.pra _ hb
   simp at this
  ·exact .mapr (bd:=⟨w.heap.size,0,0,1⟩) (upd_self ..)
 | @look t x i ok k e sz bt z dk de o' es z0 r hty hk he hz hag hx ho hi hr =>
  obtain ⟨c,h1,h2⟩:=run_look hE q (ok:=ok) hty hk he hz hag hx ho hi hr
  refine still q hn ⟨c,?_,h2⟩
  unfold execOp;rw [hop]
  simp only [Sem.run_bind,h1,Result.andThen_ok,Sem.run_pure]
 | @lenM t x k e sz bt z o' es hty hx ho =>
  have hxc:=ev_rc ht x
  rw [hx] at hxc
  obtain ⟨b,ms,clock,e1,e2,e3,_⟩:=map_at q ho hxc
  refine still q hn ⟨.int .i64 (es.length:Nat),?_,.base (.int ..)⟩
  unfold execOp;rw [hop]
  have hlen:ms.size=es.length:=by rw [RCm.length e3];simp
  simp [resolve,invoke,builtin,Builtin.len_,e1,run_underlying (ty_map (Env.ok hE hty)),MapKept.run_getObj_map e2,Result.andThen,hlen,goInt]
 | @convB src dst x e sz bt sz' bt' z z' de ns hs he hk hd hx =>
  have hc:=Snap.rc q hx (ev_rc ht x)
  obtain ⟨u,hu,hfit⟩:=ty_under (Env.ok hE he)
  rw [hk] at hfit
  have hu':=fits_int hfit
  subst hu'
  obtain ⟨u2,hu2,hfit2⟩:=ty_under (Env.ok hE hd)
  have hu2':=fits_str hfit2
  subst hu2'
  have hrun:=run_convB (P:=P) (ty_sli (Env.ok hE hs)) hu hu2 hc
  refine still q hn ⟨_,?_,.base (.str _)⟩
  unfold execOp;rw [hop]
  simp only [Sem.run_bind,hrun,Result.andThen_ok,Sem.run_pure]
 | @lookP t x i ok k e sz bt z dk de ks vs z0 r hty hk he hz hag hx hi hr =>
  obtain ⟨c,h1,h2⟩:=run_lookP hE q (ok:=ok) hty hk he hz hag hx hi hr
  refine still q hn ⟨c,?_,h2⟩
  unfold execOp;rw [hop]
  simp only [Sem.run_bind,h1,Result.andThen_ok,Sem.run_pure]
 | @lenP t x k e sz bt z ks vs hty hx =>
  have hxc:=ev_rc ht x
  rw [hx] at hxc
  rcases mp_at hxc with ⟨e1,rfl,rfl⟩|⟨b,ms,clock,e1,_,e2,e3,hlen,_⟩
  ·refine still q hn ⟨.int .i64 0,?_,.base (.int ..)⟩
   unfold execOp;rw [hop]
   simp [resolve,invoke,builtin,Builtin.len_,e1,run_underlying (ty_map (Env.ok hE hty)),Result.andThen,goInt]
  ·refine still q hn ⟨.int .i64 (ks.length:Nat),?_,.base (.int ..)⟩
   unfold execOp;rw [hop]
   simp [resolve,invoke,builtin,Builtin.len_,e1,run_underlying (ty_map (Env.ok hE hty)),MapKept.run_getObj_map e2,Result.andThen,←hlen,goInt]
 | @callP fx args tys f caps res v nw k hf hfre hs hr =>
  have hfx:=ev_rc ht fx
  rw [hf] at hfx
  obtain ⟨cs,hcs,hrc⟩:=hfx.fn_inv
  refine call_sound hs hr hfr (call_enter hop hcs hs.1) q.pra (fun _ h=>h) q.glo ?_ (.inr fun _ h=>h) hn
  exact ((evs_rc ht args.toList).append hrc).free hfre
 | @callS fx args tys f caps us res v nw k hf hsn hs hns hr =>
  have hfx:=ev_rc ht fx
  rw [hf] at hfx
  obtain ⟨cs,hcs,hrc⟩:=hfx.fn_inv
  have hlt:∀b,prB B pr b→b < w.heap.size:=fun b hb=>hb.elim (q.pra b) fun⟨o',bd,h1,h2⟩=>h2▸q.bsz o' bd h1
  exact call_sound hs hr hfr (call_enter hop hcs hs.1) hlt (fun _ h=>.inl h) (glob_mono (fun _ h=>.inl h) q.glo) (Snaps.rc q hsn ((evs_rc ht args.toList).append hrc)) (.inl hns) hn
end Go.AM
namespace Go.AM
open Go Go.RowKit
theorem there_block {w w':World} {b o n:Nat} (hb:w'.heap[b]?=w.heap[b]?) (h:w.there b o n):w'.there b o n:=fun j hj=>by
 obtain ⟨h1,h2⟩:=h j hj
 refine ⟨by rw [World.cell?_of_block (w:=w) (a:=⟨b,o+j,none⟩) hb];exact h1,?_⟩
 rw [World.frozen?_of_block (w:=w) (a:=⟨b,o+j,none⟩) hb];exact h2
theorem TMs.move {w w':World} {B B':BM} {pr pr':Nat→Prop} {n:Nat} {tm:List (Nat×V)} {ts:Array Value} (hl:Like pr w w') (hp:∀b,pr b→pr' b) (hB:∀o bd,B o=some bd→B' o=some bd) (h:TMs w B pr n tm ts):TMs w' B' pr' n tm ts :=
 ⟨h.1,fun t=>(h.2 t).move hl hp hB⟩
theorem ObjAt.move {w w':World} {B B':BM} {pr pr':Nat→Prop} {bd:Bd} {x:Obj} (hb:w'.heap[bd.b]?=w.heap[bd.b]?) (hsz:w.heap.size≤w'.heap.size) (hl:Like pr w w') (hp:∀b,pr b→pr' b) (hp':∀b,pr' b→pr b∨w.heap.size≤b)
 (hB:∀o bd,B o=some bd→B' o=some bd) (h:ObjAt w B pr bd x):ObjAt w' B' pr' bd x:=by
 cases x with
 | dead=>exact h.elim
 | map es =>
  obtain ⟨h1,h2,ms,clock,h3,h4,h5⟩:=h
  exact ⟨fun hb'=>(hp' _ hb').elim h1 (fun h=>by omega),by omega,ms,clock,by rw [hb];exact h3,h4.move hl hp,h5⟩
 | pmap es =>
  obtain ⟨h1,h2,ms,clock,h3,h4,h5⟩:=h
  exact ⟨fun hb'=>(hp' _ hb').elim h1 (fun h=>by omega),by omega,ms,clock,by rw [hb];exact h3,h4.move hl hp hB,h5⟩
 | gmap es ms clock =>
  obtain ⟨h1,h2,h3,h4,h5⟩:=h
  exact ⟨fun hb'=>(hp' _ hb').elim h1 (fun h=>by omega),by omega,by rw [hb];exact h3,h4.move hl hp,h5⟩
 | iter src es ms clock since seen =>
  obtain ⟨h0,h1,h2,h3⟩:=h
  refine ⟨h0,fun hb'=>(hp' _ hb').elim h1 (fun h=>by omega),by omega,?_⟩
  rcases h3 with ⟨bm,h4,h5⟩|⟨e1,e2,c1,c2,c3,h4⟩
  ·exact .inl ⟨bm,by rw [hb];exact h4,h5.move hl hp hB⟩
  ·exact .inr ⟨e1,e2,c1,c2,c3,by rw [hb];exact h4⟩
 | loop n tm ps asg body st pend =>
  obtain ⟨h1,h2,r,h3,h4,h5,h6,h7,h8,h9⟩:=h
  exact ⟨fun hb'=>(hp' _ hb').elim h1 (fun h=>by omega),by omega,r,by rw [hb];exact h3,h4,h5,h6,h7,h8,h9.move hl hp hB⟩
 | box cells =>
  obtain ⟨h1,h2,h3,h4,h5,cs,h6,h7⟩:=h
  exact ⟨h1,h2,fun hb'=>(hp' _ hb').elim h3 (fun h=>by omega),by omega,there_block hb h5,cs,range_block hb h6,h7.move hl hp hB⟩
 | rows s rs fz =>
  obtain ⟨h1,h2,h3,h4,h5,h6⟩:=h
  refine ⟨h1,h2,⟨fun hb'=>(hp' _ hb').elim h3.1 (fun h=>by omega),fun hf=>hp _ (h3.2 hf)⟩,by omega,fun hf=>there_block hb (h5 hf),h6.move hl hp hb⟩
theorem ObjAt.lt {w:World} {B:BM} {pr:Nat→Prop} {bd:Bd} {x:Obj} (h:ObjAt w B pr bd x):bd.b < w.heap.size:=by
 cases x with
 | dead=>exact h.elim
 | map _=>exact h.2.1
 | gmap _ _ _=>exact h.2.1
 | pmap _=>exact h.2.1
 | iter _ _ _ _ _ _=>exact h.2.2.1
 | loop _ _ _ _ _ _ _=>exact h.2.1
 | box cells=>exact h.2.2.2.1
 | rows s rs fz=>exact h.2.2.2.1
theorem Outs.move {w w':World} {B B':BM} {pr pr':Nat→Prop} (hl:Like pr w w') (hp:∀b,pr b→pr' b) (hB:∀o bd,B o=some bd→B' o=some bd):∀{out:List (Nat×List (Nat×V))} {ao:List (Array Value)},Outs w B pr out ao→Outs w' B' pr' out ao
 | [],[],_=>trivial
 | [],_::_,h=>h.elim
 | _::_,[],h=>h.elim
 | (_,_)::r,_::s,h=>⟨h.1.move hl hp hB,Outs.move hl hp hB h.2⟩
theorem GlobAt.move {gl:List (Nat×List V)} {w w':World} {pr pr':Nat→Prop} (hl:Like pr w w') (hp:∀b,pr b→pr' b) (h:GlobAt w pr gl):GlobAt w' pr' gl:=fun g cells hc=>by
 obtain ⟨h1,cs,h2,h3⟩:=h g cells hc
 exact ⟨hp _ h1,cs,hl.range h1 h2,h3.move hl hp⟩
def St.put (σ:St) (d:Nat) (v:V):St:={ σ with tm:=(d,v)::σ.tm }
def St.add (σ:St) (nw:List (Id×Obj)):St:={ σ with ob:=nw++σ.ob }
theorem put_get (ts:Array Value) (d t:Nat) (c:Value) (h:d < ts.size):(ts.setIfInBounds d c).getD t undef=if d=t then c else ts.getD t undef:=by
 simp only [Array.getD_eq_getD_getElem?,Array.getElem?_setIfInBounds]
 split
 ·rename_i e;subst e;simp [h]
 ·rfl
theorem tget_put (tm:List (Nat×V)) (d t:Nat) (v:V):tget ((d,v)::tm) t=if d=t then v else tget tm t:=by
 simp only [tget]
 cases h:Nat.beq d t with
 | true=>rw [if_pos (Nat.eq_of_beq_eq_true h)]
 | false=>rw [if_neg (Nat.ne_of_beq_eq_false h)]
theorem TMs.put {w:World} {B:BM} {pr:Nat→Prop} {n:Nat} {tm:List (Nat×V)} {ts:Array Value} (h:TMs w B pr n tm ts) {d:Nat} {v:V} {c:Value} (hd:d < n) (hc:RC w B pr v c):TMs w B pr n ((d,v)::tm) (ts.setIfInBounds d c):=by
 refine ⟨by simp [h.1],fun t=>?_⟩
 rw [tget_put,put_get _ _ _ _ (by rw [h.1];exact hd)]
 split
 ·exact hc
 ·exact h.2 t
theorem Sim.lt {gl:List (Nat×List V)} {w0:World} {pr0 ow:Nat→Prop} {σ:St} {a:Act} {ao:List (Array Value)} {w:World} {B:BM} {pr:Nat→Prop}
 (h:Sim gl w0 pr0 ow σ a ao w B pr) {o:Id} {bd:Bd} (hb:B o=some bd):bd.b < w.heap.size:=by
 cases ho:oget σ.ob o with
 | none=>rw [h.obn o ho] at hb;cases hb
 | some x =>
  rcases h.obs o x ho with ⟨_,h1⟩|⟨_,⟨bd',h1,h2,_⟩|⟨h1,_⟩⟩
  ·exact h1 _ hb
  ·rw [h1] at hb;injection hb with hb;subst hb;exact h2.lt
  ·rw [h1] at hb;cases hb
theorem Sim.q {gl:List (Nat×List V)} {w0:World} {pr0 ow:Nat→Prop} {σ:St} {a:Act} {ao:List (Array Value)} {w:World} {B:BM} {pr:Nat→Prop}
 (h:Sim gl w0 pr0 ow σ a ao w B pr):QSim gl σ.n σ.tm σ.ob a.tmps w B pr where
 tms:=h.tms
 obs:=fun o x hx hd=>by
  rcases h.obs o x hx with ⟨h1,_⟩|⟨_,⟨bd,h1,h2,_⟩|h1⟩
  ·exact absurd h1 hd
  ·exact .inl ⟨bd,h1,h2,trivial⟩
  ·exact .inr h1
 pra:=h.pra
 bsz:=fun o bd hb=>h.lt hb
 glo:=h.glo
theorem Sim.grow {gl:List (Nat×List V)} {w0:World} {pr0 ow:Nat→Prop} {σ:St} {a:Act} {ao:List (Array Value)} {w w':World} {B B':BM} {pr pr':Nat→Prop} {nw:List (Id×Obj)}
 (h:Sim gl w0 pr0 ow σ a ao w B pr) (e:Ext w w' B B' pr pr' nw) (hf:∀o x,oget nw o=some x→oget σ.ob o=none):Sim gl w0 pr0 ow (σ.add nw) a ao w' B' pr':=by
 have hl:Like pr w w':=fun b hb=>e.block b (h.pra b hb)
 have hB0:∀o x,oget nw o=some x→B o=none:=fun o x hx=>h.obn o (hf o x hx)
 have hB:∀o bd,B o=some bd→B' o=some bd:=fun o bd hb=>by
  cases hn:oget nw o with
  | none=>rw [e.bm o hn];exact hb
  | some x=>rw [hB0 o x hn] at hb;cases hb
 have hlt:∀o bd,B o=some bd→bd.b < w.heap.size:=fun o bd hb=>h.lt hb
 have hnew:∀o x bd,oget nw o=some x→B' o=some bd→w.heap.size≤bd.b:=fun o x bd hx hb=>by
  rcases (e.obs o x hx).2 with ⟨bd',h1,_,h3⟩|⟨h1,_⟩
  ·rw [h1] at hb;injection hb with hb;subst hb;exact h3
  ·rw [h1] at hb;cases hb
 have hdf:Dfr w0 w' (σ.add nw).ob B' pr' a.defers:=h.dfr.to fun r m=>by
  have hr:r < w.heap.size:=(Array.getElem?_eq_some_iff.1 m.here).1
  refine ⟨(e.block r hr).trans m.here,m.lo,fun hp=>(e.prn r hp).elim m.np (fun h=>by omega),fun o bd hd hb hq=>?_⟩
  cases hn:oget nw o with
  | some x=>have:=hnew o x bd hn hb;omega
  | none =>
   simp only [St.add,oget_append,hn] at hd
   exact m.nb o bd hd (by rw [←e.bm o hn];exact hb) hq
 refine ⟨hdf,h.tms.move hl e.prm hB,h.outs.move hl e.prm hB,fun o ho=>?_,fun o x hx=>?_,fun o1 o2 b1 b2 a1 a2 h1 h2 h3=>?_,e.pra,fun b hb=>e.prm b (h.prm b hb),fun b hb=>?_,h.glo.move hl e.prm,?_⟩
 ·simp only [St.add,oget_append] at ho
  cases hn:oget nw o with
  | some x=>rw [hn] at ho;cases ho
  | none=>rw [hn] at ho;rw [e.bm o hn];exact h.obn o ho
 ·simp only [St.add,oget_append] at hx
  cases hn:oget nw o with
  | some y =>
   rw [hn] at hx
   injection hx with hx;subst hx
   have hk:=h.kp.size
   obtain ⟨hd,h2⟩:=e.obs o y hn
   refine .inr ⟨hd,?_⟩
   rcases h2 with ⟨bd,g1,g2,g3⟩|g
   ·exact .inl ⟨bd,g1,g2,.inr (by omega)⟩
   ·exact .inr g
  | none =>
   rw [hn] at hx
   have hb':=e.bm o hn
   rcases h.obs o x hx with ⟨g1,g2⟩|⟨g1,g2⟩
   ·exact .inl ⟨g1,fun bd hb=>Nat.lt_of_lt_of_le (g2 bd (by rw [←hb'];exact hb)) e.size⟩
   ·refine .inr ⟨g1,?_⟩
    rcases g2 with ⟨bd,g1,g2,g3⟩|⟨g1,g2⟩
    ·exact .inl ⟨bd,by rw [hb'];exact g1,g2.move (e.block _ g2.lt) e.size hl e.prm e.prn hB,g3⟩
    ·exact .inr ⟨by rw [hb'];exact g1,g2⟩
 ·cases hn1:oget nw o1 with
  | some x1 =>
   cases hn2:oget nw o2 with
   | some x2=>exact e.inj _ _ _ _ (by rw [hn1];simp) (by rw [hn2];simp) h1 h2 h3
   | none =>
    exfalso
    have:=hnew _ _ _ hn1 h1
    have:=hlt o2 b2 (by rw [←e.bm o2 hn2];exact h2)
    omega
  | none =>
   cases hn2:oget nw o2 with
   | some x2 =>
    exfalso
    have:=hnew _ _ _ hn2 h2
    have:=hlt o1 b1 (by rw [←e.bm o1 hn1];exact h1)
    omega
   | none =>
    simp only [St.add,oget_append,hn1,hn2] at a1 a2
    exact h.inj _ _ _ _ a1 a2 (by rw [←e.bm o1 hn1];exact h1) (by rw [←e.bm o2 hn2];exact h2) h3
 ·rcases e.prn b hb with h1|h1
  ·exact h.prn b h1
  ·right;right;have:=h.kp.size;omega
 ·exact ⟨e.os.trans h.kp.os,e.tape.trans h.kp.tape,e.output.trans h.kp.output,Nat.le_trans h.kp.drawn e.drawn,Nat.le_trans h.kp.size e.size,fun b hb ho=>by
   rw [e.block b (Nat.lt_of_lt_of_le hb h.kp.size)];exact h.kp.block b hb ho⟩
end Go.AM
namespace Go.AM
open Go Go.RowKit
variable {r:Bool} {P:Program} {E:Env} {gl:List (Nat×List V)}
def Post (gl:List (Nat×List V)) (w0:World) (pr0 ow:Nat→Prop) (ao:List (Array Value)) (Q:Exit→St→Prop):Exit→Act→World→Prop :=
 fun e a w=>∃σ B pr,Q e σ∧Sim gl w0 pr0 ow σ a ao w B pr
def fen (ro:Option Nat):Fence:={ Fence.wide with round:=ro }
def noDefer (o:Oper):Bool:=match o.op with
 | .defer _=>false
 | _=>true
def CW (r:Bool) (P:Program) (c:Code) (Q:Exit→Act→World→Prop) (a:Act) (w:World):Prop:=∀ro:Option Nat,ro.isSome=r→c.wpIn (fen ro) 0 P Q a w
def WL (r:Bool) (P:Program) (l rest:List Oper) (Q:Exit→Act→World→Prop) (a:Act) (w:World):Prop:=rest.all noDefer=true→∀ro:Option Nat,ro.isSome=r→wpListIn (fen ro) 0 P l.toArray Q rest a w
def Safe (r:Bool) (P:Program) (gl:List (Nat×List V)) (c:Code) (Q:Exit→St→Prop) (σ:St):Prop :=
 ∀w0 pr0 ow a ao w B pr,Sim gl w0 pr0 ow σ a ao w B pr→CW r P c (Post gl w0 pr0 ow ao Q) a w
def SafeOps (r:Bool) (P:Program) (gl:List (Nat×List V)) (l rest:List Oper) (Q:Exit→St→Prop) (σ:St):Prop :=
 ∀w0 pr0 ow a ao w B pr,Sim gl w0 pr0 ow σ a ao w B pr→WL r P l rest (Post gl w0 pr0 ow ao Q) a w
theorem CW.mono {c:Code} {Q Q':Exit→Act→World→Prop} {a:Act} {w:World} (h:CW r P c Q a w) (hq:∀e a w,Q e a w→Q' e a w):CW r P c Q' a w:=fun ro hr=>wpIn_mono (h ro hr) hq
theorem calls_fen {P:Program} {n:Nat} {f:FuncId} {args:Array Value} {w:World} {R:Ending→World→Prop} (h:Calls P f args w R) (ro:Option Nat):CallsIn (fen ro) n P f args w R :=
 ⟨trivial,fun cs _=>let ⟨e,w',fr,k,s,x⟩:=h cs;⟨e,w',fr,k,(comesIn_wide (P:=P)).2 s,x⟩⟩
theorem rows_fen {P:Program} {n:Nat} {row:String} {args:Array Value} {w:World} {R:Value→World→Prop} (h:Rows P row args w R) (ro:Option Nat):RowsIn (fen ro) n P row args w R :=
 fun c cs _=>let ⟨v,w',k,s⟩:=h c cs;⟨v,w',k,(stepsIn_wide (P:=P)).2 s⟩
theorem wp_in {P:Program} {o:Oper} {a:Act} {w:World} {K:Act→World→Prop} {Q:Exit→Act→World→Prop} (hd:noDefer o=true) (h:o.wp P a w K Q) (ro:Option Nat) {n:Nat}:o.wpIn (fen ro) n P a w K Q:=by
 refine ⟨fun _ _=>trivial,?_⟩
 rw [Oper.semAt_eq _ _ _ (fun c hc=>by simp [noDefer,hc] at hd)]
 unfold Oper.wp at h
 generalize (execOp a.eval o).run P w=x at *
 cases x with
 | ok nx w' =>
  cases nx<;>first
   | exact h
   | exact ⟨fun hs=>(by cases hs),calls_fen h ro⟩
   | exact ⟨fun hs=>(by cases hs),rows_fen h ro⟩
   | exact h.elim
   | (simp [Oper.upon] at h)
 | halt s w'=>cases s<;>first|exact h|exact h.elim
theorem wpIn_mono2 {F:Fence} {n:Nat} {P:Program} {o:Oper} {a:Act} {w:World} {K K':Act→World→Prop} {Q Q':Exit→Act→World→Prop} (h:∀a w,K a w→K' a w) (hq:∀e a w,e≠.normal→Q e a w→Q' e a w)
 (hh:o.wpIn F n P a w K Q):o.wpIn F n P a w K' Q':=by
 unfold Oper.wpIn at *
 refine ⟨hh.1,?_⟩
 have hh:=hh.2
 generalize (o.semAt F.round a.eval).run P w=r at *
 cases r with
 | ok x w' =>
  cases x<;>simp only [Oper.uponIn] at hh ⊢ <;>
   first
    | exact h _ _ hh
    | exact ⟨hh.1,CallsIn.mono hh.2 (fun e w'' he=>by cases e<;>first|exact h _ _ he|exact hq _ _ _ (by simp) he|(obtain ⟨a',w',he⟩:=he;exact ⟨a',w',hq _ _ _ (by simp) he⟩))⟩
    | exact ⟨hh.1,RowsIn.mono hh.2 (fun _ _ he=>h _ _ he)⟩
    | exact ⟨hh.1,RoundIn.mono hh.2 (fun e w'' he=>by cases e<;>first|exact h _ _ he|exact hq _ _ _ (by simp) he|(obtain ⟨a',w',he⟩:=he;exact ⟨a',w',hq _ _ _ (by simp) he⟩))⟩
    | exact hh.elim
 | halt s w'=>cases s<;>first|exact hq _ _ _ (by simp) hh|exact hh.elim
theorem wpIn_mono3 {F:Fence} {n:Nat} {P:Program} {o:Oper} {a:Act} {w:World} {K':Act→World→Prop} {Q Q':Exit→Act→World→Prop} (h:∀a w,Q .normal a w→K' a w) (hq:∀e a w,Q e a w→e=.normal)
 (hh:o.wpIn F n P a w (fun a w=>Q .normal a w) Q):o.wpIn F n P a w K' Q' :=
 wpIn_mono2 h (fun e a w he hx=>absurd (hq e a w hx) he) hh
theorem wpListIn_mono2 {F:Fence} {n:Nat} {P:Program} {ops:Array Oper} {Q Q':Exit→Act→World→Prop} (hq:∀e a w,Q e a w→Q' e a w):∀(rest:List Oper) {a:Act} {w:World},wpListIn F n P ops Q rest a w→wpListIn F n P ops Q' rest a w
 | [],_,_,h=>hq _ _ _ h
 | o::rs,a,w,h=>by
  simp only [wpListIn] at h ⊢
  split at h
  ·rename_i hw;rw [if_pos hw];exact wpIn_mono2 (fun a w h=>wpListIn_mono2 hq rs h) (fun e a w _ h=>hq e a w h) h
  ·rename_i hw;rw [if_neg hw];exact ⟨h.1,wpListIn_mono2 hq rs h.2⟩
theorem WL.mono {l rest:List Oper} {Q Q':Exit→Act→World→Prop} (hq:∀e a w,Q e a w→Q' e a w) {a:Act} {w:World} (h:WL r P l rest Q a w):WL r P l rest Q' a w:=fun hd ro hr=>wpListIn_mono2 hq rest (h hd ro hr)
def dstAt:List Oper→Nat→Option Nat
 | [],_=>none
 | o::_,0=>o.dst
 | _::r,n+1=>dstAt r n
theorem dstAt_get:∀(l:List Oper) (j:Nat),dstAt l j=(l[j]?).bind (·.dst)
 | [],j=>by simp [dstAt]
 | o::r,0=>by simp [dstAt]
 | o::r,j+1=>by simp [dstAt,dstAt_get r j]
def gd (l:List Oper) (tm:List (Nat×V)) (o:Oper):Option Bool :=
 match o.guard with
 | none=>some true
 | some (j,want)=>match dstAt l j with
  | some d=>match tget tm d with
   | .bool b=>match want with
    | true=>some b
    | false=>some (!b)
   | .tup []=>some false
   | _=>none
  | none=>none
theorem gd_wanted {l:List Oper} {tm:List (Nat×V)} {o:Oper} {g:Bool} (h:gd l tm o=some g) {w:World} {B:BM} {pr:Nat→Prop} {n:Nat} {ts:Array Value} (ht:TMs w B pr n tm ts) :
 Region.wanted o (yielded l.toArray ts)=g:=by
 unfold gd at h
 unfold Region.wanted
 split at h
 ·rename_i hg
  rw [hg]
  injection h
 ·rename_i j want hg
  rw [hg]
  simp only
  split at h
  ·rename_i d hd
   split at h
   ·rename_i b hb
    have hv:=ht.2 d
    rw [hb] at hv
    have hv:=hv.bool_inv
    have hsome:ts[d]?=some (.bool b):=by
     cases hx:ts[d]? with
     | none=>simp [Array.getD_eq_getD_getElem?,hx,undef] at hv
     | some y=>simp [Array.getD_eq_getD_getElem?,hx] at hv;rw [hv]
    rw [dstAt_get] at hd
    have:yielded l.toArray ts j=some b:=by
     unfold yielded
     simp only [List.getElem?_toArray,hd,Option.bind_some,hsome]
    rw [this]
    split at h<;>(injection h with h;subst h;cases b<;>rfl)
   ·rename_i hb
    injection h with h
    have hv:=ht.2 d
    rw [hb] at hv
    obtain ⟨cs,hcs,hl⟩:=hv.tup_inv
    cases hl
    rw [dstAt_get] at hd
    have:yielded l.toArray ts j=none:=by
     unfold yielded
     simp only [List.getElem?_toArray,hd,Option.bind_some]
     cases hx:ts[d]? with
     | none=>rfl
     | some y =>
      have:y=.tuple #[]:=by simpa [Array.getD_eq_getD_getElem?,hx] using hcs
      rw [this]
    rw [this,←h]
    cases want<;>rfl
   ·cases h
  ·cases h
theorem SafeOps.nil {l:List Oper} {Q:Exit→St→Prop} {σ:St} (h:Q .normal σ):SafeOps r P gl l [] Q σ :=
 fun _ _ _ _ _ _ B pr hs _ _ _=>wpListIn_nil ⟨σ,B,pr,h,hs⟩
theorem SafeOps.done {l rest:List Oper} {o:Oper} {Q:Exit→St→Prop} {σ:St} (hg:gd l σ.tm o=some true)
 (h:∀w0 pr0 ow a ao w B pr,Sim gl w0 pr0 ow σ a ao w B pr→∀K:Act→World→Prop,(∀a w,WL r P l rest (Post gl w0 pr0 ow ao Q) a w→K a w)→o.wp P a w K (Post gl w0 pr0 ow ao Q)) :
 SafeOps r P gl l (o::rest) Q σ:=fun w0 pr0 ow a ao w B pr hs hd ro hr =>
 wpListIn_step fun K hK=>by
  simp only [List.all_cons,Bool.and_eq_true] at hd
  rw [if_pos (gd_wanted hg hs.tms)]
  exact wp_in hd.1 (h w0 pr0 ow a ao w B pr hs K (fun a w hw=>hK a w (hw hd.2 ro hr))) ro
theorem SafeOps.skip {l rest:List Oper} {o:Oper} {Q:Exit→St→Prop} {n d:Nat} {tm:List (Nat×V)} {ob:List (Id×Obj)} {out:List (Nat×List (Nat×V))} {pa:Id} (hg:gd l tm o=some false) (hd:o.dst=some d) (hn:Nat.blt d n=true)
 (h:SafeOps r P gl l rest Q ⟨n,(d,.tup [])::tm,ob,out,pa⟩):SafeOps r P gl l (o::rest) Q ⟨n,tm,ob,out,pa⟩:=fun w0 pr0 ow a ao w B pr hs hnd ro hr =>
 wpListIn_step fun K hK=>by
  simp only [List.all_cons,Bool.and_eq_true] at hnd
  rw [if_neg (by rw [gd_wanted hg hs.tms];simp)]
  rw [hd]
  exact ⟨fun _ _=>trivial,hK _ _ (h w0 pr0 ow (a.put (some d) undef) ao w B pr { hs with tms:=hs.tms.put (by simpa using hn) (.base (.tup .nil)) } hnd.2 ro hr)⟩
theorem SafeOps.skip0 {l rest:List Oper} {o:Oper} {Q:Exit→St→Prop} {σ:St} (hg:gd l σ.tm o=some false) (hd:o.dst=none)
 (h:SafeOps r P gl l rest Q σ):SafeOps r P gl l (o::rest) Q σ:=fun w0 pr0 ow a ao w B pr hs hnd ro hr =>
 wpListIn_step fun K hK=>by
  simp only [List.all_cons,Bool.and_eq_true] at hnd
  rw [if_neg (by rw [gd_wanted hg hs.tms];simp)]
  rw [hd]
  exact ⟨fun _ _=>trivial,hK _ _ (h _ _ _ _ _ _ _ _ hs hnd.2 ro hr)⟩
def fresh (ob:List (Id×Obj)):List (Id×Obj)→Bool
 | []=>true
 | (k,_)::r=>match oget ob k with
  | none=>fresh ob r
  | some _=>false
theorem fresh_get {ob:List (Id×Obj)}:∀{nw:List (Id×Obj)},fresh ob nw=true→∀o x,oget nw o=some x→oget ob o=none
 | [],_,o,x,h=>by simp [oget] at h
 | (k,y)::r,hf,o,x,h=>by
  unfold fresh at hf
  split at hf
  ·rename_i hk
   simp only [oget] at h
   split at h
   ·rename_i he
    rw [←idEq_iff.1 he];exact hk
   ·exact fresh_get hf o x h
  ·cases hf
theorem SafeOps.quiet (hE:E.good P=true) {l rest:List Oper} {o:Oper} {Q:Exit→St→Prop} {n d:Nat} {tm:List (Nat×V)} {ob nw:List (Id×Obj)} {out:List (Nat×List (Nat×V))} {pa:Id} {v:V}
 (hg:gd l tm o=some true) (hd:o.dst=some d) (hn:Nat.blt d n=true) (hq:QEv P E gl tm ob (pa++[d]) o.op v nw) (hf:fresh ob nw=true)
 (h:SafeOps r P gl l rest Q ⟨n,(d,v)::tm,nw++ob,out,pa⟩):SafeOps r P gl l (o::rest) Q ⟨n,tm,ob,out,pa⟩ :=
 SafeOps.done hg fun w0 pr0 ow a ao w B pr hs K hK =>
  hq.sound hE hs.q (fun k x hk=>hs.obn k (fresh_get hf k x hk)) fun c w' B' pr' he hc=>by
   have h1:=hs.grow he (fresh_get hf)
   rw [hd]
   exact hK (a.put (some d) c) w' (h w0 pr0 ow (a.put (some d) c) ao w' B' pr' { h1 with tms:=h1.tms.put (show d < n by simpa using hn) hc })
theorem SafeOps.quiet0 (hE:E.good P=true) {l rest:List Oper} {o:Oper} {Q:Exit→St→Prop} {n d:Nat} {tm:List (Nat×V)} {ob:List (Id×Obj)} {out:List (Nat×List (Nat×V))} {pa:Id} {v:V}
 (hg:gd l tm o=some true) (hd:o.dst=some d) (hn:Nat.blt d n=true) (hq:QEv P E gl tm ob (pa++[d]) o.op v [])
 (h:SafeOps r P gl l rest Q ⟨n,(d,v)::tm,ob,out,pa⟩):SafeOps r P gl l (o::rest) Q ⟨n,tm,ob,out,pa⟩ :=
 SafeOps.quiet hE hg hd hn hq rfl h
theorem SafeOps.quiet1 (hE:E.good P=true) {l rest:List Oper} {o:Oper} {Q:Exit→St→Prop} {n d:Nat} {tm:List (Nat×V)} {ob:List (Id×Obj)} {out:List (Nat×List (Nat×V))} {pa k:Id} {x:Obj} {v:V}
 (hg:gd l tm o=some true) (hd:o.dst=some d) (hn:Nat.blt d n=true) (hq:QEv P E gl tm ob (pa++[d]) o.op v [(k,x)]) (hf:fresh ob [(k,x)]=true)
 (h:SafeOps r P gl l rest Q ⟨n,(d,v)::tm,(k,x)::ob,out,pa⟩):SafeOps r P gl l (o::rest) Q ⟨n,tm,ob,out,pa⟩ :=
 SafeOps.quiet hE hg hd hn hq hf h
theorem SafeOps.split {l rest:List Oper} {Q:Exit→St→Prop} {n:Nat} (d:Nat) {b:Bool} {tm:List (Nat×V)} {ob:List (Id×Obj)} {out:List (Nat×List (Nat×V))} {pa:Id} (hb:tget tm d=.bool b)
 (h1:b=true→SafeOps r P gl l rest Q ⟨n,(d,.bool true)::tm,ob,out,pa⟩) (h2:b=false→SafeOps r P gl l rest Q ⟨n,(d,.bool false)::tm,ob,out,pa⟩):SafeOps r P gl l rest Q ⟨n,tm,ob,out,pa⟩:=fun w0 pr0 ow a ao w B pr hs=>by
 have key:∀b',b=b'→Sim gl w0 pr0 ow ⟨n,(d,.bool b')::tm,ob,out,pa⟩ a ao w B pr:=fun b' e=>by
  refine { hs with tms:=⟨hs.tms.1,fun t=>?_⟩ }
  rw [tget_put]
  split
  ·rename_i he
   subst he;subst e
   have:=hs.tms.2 d
   simp only at this
   rwa [hb] at this
  ·exact hs.tms.2 t
 cases hbb:b with
 | true=>exact h1 hbb _ _ _ _ _ _ _ _ (key _ hbb)
 | false=>exact h2 hbb _ _ _ _ _ _ _ _ (key _ hbb)
theorem Safe.region {l:List Oper} {id:Nat} {Q:Exit→St→Prop} {σ:St} (h:SafeOps r P gl l l Q σ) (hd:l.all noDefer=true:=by rfl):Safe r P gl (.region id l.toArray false) Q σ :=
 fun w0 pr0 ow a ao w B pr hs ro hr=>wpIn_region_list (by simpa using h w0 pr0 ow a ao w B pr hs hd ro hr)
def thenQ (K:St→Prop) (Q:Exit→St→Prop):Exit→St→Prop
 | .normal,σ=>K σ
 | e,σ=>Q e σ
theorem Safe.seq {x y:Code} {Q:Exit→St→Prop} {σ:St} (h:Safe r P gl x (thenQ (Safe r P gl y Q) Q) σ):Safe r P gl (.seq x y) Q σ :=
 fun w0 pr0 ow a ao w B pr hs ro hr=>wpIn_seq (wpIn_mono (h w0 pr0 ow a ao w B pr hs ro hr) fun e a' w' ⟨σ',B',pr',hq,hs'⟩=>by
  cases e with
  | normal=>exact hq w0 pr0 ow a' ao w' B' pr' hs' ro hr
  | _=>exact ⟨σ',B',pr',hq,hs'⟩)
theorem Safe.skip {Q:Exit→St→Prop} {σ:St} (h:Q .normal σ):Safe r P gl .skip Q σ:=fun _ _ _ _ _ _ B pr hs _ _=>wpIn_skip ⟨σ,B,pr,h,hs⟩
theorem Safe.ret {Q:Exit→St→Prop} {σ:St} (h:Q .ret σ):Safe r P gl .ret Q σ:=fun _ _ _ _ _ _ B pr hs _ _=>wpIn_ret ⟨σ,B,pr,h,hs⟩
theorem Safe.exit {id:Nat} {Q:Exit→St→Prop} {σ:St} (h:Q (.exit id) σ):Safe r P gl (.exit id) Q σ:=fun _ _ _ _ _ _ B pr hs _ _=>wpIn_exit ⟨σ,B,pr,h,hs⟩
def blockQ (id:Nat) (Q:Exit→St→Prop):Exit→St→Prop
 | .exit i,σ=>match Nat.beq i id with
  | true=>Q .normal σ
  | false=>Q (.exit i) σ
 | e,σ=>Q e σ
theorem Safe.block {id:Nat} {c:Code} {Q:Exit→St→Prop} {σ:St} (h:Safe r P gl c (blockQ id Q) σ):Safe r P gl (.block id c) Q σ :=
 fun w0 pr0 ow a ao w B pr hs ro hr=>wpIn_block (wpIn_mono (h w0 pr0 ow a ao w B pr hs ro hr) fun e a' w' ⟨σ',B',pr',hq,hs'⟩=>by
  cases e with
  | exit i =>
   simp only [blockQ] at hq
   simp only [Exit.inBlock]
   split at hq
   ·rename_i hb;rw [if_pos (Nat.eq_of_beq_eq_true hb)];exact ⟨σ',B',pr',hq,hs'⟩
   ·rename_i hb;rw [if_neg (Nat.ne_of_beq_eq_false hb)];exact ⟨σ',B',pr',hq,hs'⟩
  | _=>exact ⟨σ',B',pr',hq,hs'⟩)
theorem Safe.cond {c:Operand} {x y:Code} {b:Bool} {Q:Exit→St→Prop} {n:Nat} {tm:List (Nat×V)} {ob:List (Id×Obj)} {out:List (Nat×List (Nat×V))} {pa:Id} (hb:ev tm c=.bool b)
 (h1:b=true→Safe r P gl x Q ⟨n,tm,ob,out,pa⟩) (h2:b=false→Safe r P gl y Q ⟨n,tm,ob,out,pa⟩):Safe r P gl (.cond c x y) Q ⟨n,tm,ob,out,pa⟩:=fun w0 pr0 ow a ao w B pr hs ro hr=>by
 have hv:=ev_rc hs.tms c
 rw [hb] at hv
 refine wpIn_cond_split hv.bool_inv (fun e=>h1 e _ _ _ _ _ _ _ _ hs ro hr) (fun e=>h2 e _ _ _ _ _ _ _ _ hs ro hr)
theorem Safe.loop {c:Code} {Q:Exit→St→Prop} {σ:St} {ι:Type} (I:ι→St→Prop) (μ:ι→Nat) (i0:ι) (h0:I i0 σ)
 (round:∀i σ,I i σ→Safe r P gl c (thenQ (fun σ'=>∃j,I j σ'∧μ j < μ i) Q) σ):Safe r P gl (.loop c) Q σ:=by
 intro w0 pr0 ow a ao w B pr hs ro hr b k cs hro hb hroom
 have key:∀m:Nat,∀i σ a w B pr,μ i=m→I i σ→Sim gl w0 pr0 ow σ a ao w B pr →
  ∃e a' w',Post gl w0 pr0 ow ao Q e a' w'∧ArrivesIn (Machine.fenced P (fen ro)) P (lone (b.atR a (.code c::.inLoop c::k)) cs w) b k cs e a' w':=by
  intro m
  induction m using Nat.strongRecOn with
  | _ m ih =>
   intro i σ a w B pr hm hI hs
   obtain ⟨e,a1,w1,⟨σ1,B1,pr1,hq,hs1⟩,harr⟩:=round i σ hI w0 pr0 ow a ao w B pr hs ro hr b (.inLoop c::k) cs hro hb hroom
   cases e with
   | normal =>
    obtain ⟨j,hj,hlt⟩:=hq
    obtain ⟨e2,a2,w2,hq2,harr2⟩:=ih (μ j) (hm▸hlt) j σ1 a1 w1 B1 pr1 rfl hj hs1
    exact ⟨e2,a2,w2,hq2,.of_steps (StepsIn.trans harr (.one (fenced_calm hb hroom rfl) stepR_inLoop)) harr2⟩
   | exit id=>exact ⟨_,a1,w1,⟨σ1,B1,pr1,hq,hs1⟩,.pass (x:=.inLoop c) rfl (fun _ _=>.inl (by simp)) harr⟩
   | goto l=>exact ⟨_,a1,w1,⟨σ1,B1,pr1,hq,hs1⟩,.pass (x:=.inLoop c) rfl (fun _ _=>.inl (by simp)) harr⟩
   | ret=>exact ⟨_,a1,w1,⟨σ1,B1,pr1,hq,hs1⟩,.pass (x:=.inLoop c) rfl (fun _ _=>.inl (by simp)) harr⟩
   | panic ch=>exact ⟨_,a1,w1,⟨σ1,B1,pr1,hq,hs1⟩,.pass (x:=.inLoop c) rfl (fun _ _=>.inl (by simp)) harr⟩
   | outgrown=>exact ⟨_,a1,w1,⟨σ1,B1,pr1,hq,hs1⟩,.pass (x:=.inLoop c) rfl (fun _ _=>.inl (by simp)) harr⟩
 obtain ⟨e,a',w',hq,harr⟩:=key _ i0 σ a w B pr rfl h0 hs
 exact ⟨e,a',w',hq,.of_steps (.one (fenced_calm hb hroom rfl) stepR_loop) harr⟩
end Go.AM
namespace Go.AM
open Go Go.RowKit
variable {r:Bool} {P:Program} {E:Env} {gl:List (Nat×List V)}
mutual
inductive Res (ob:List (Id×Obj)):V→V→List Id→Prop
 | free {v:V} (h:v.free=true):Res ob v v []
 | nils (s:Nat):Res ob .nils (.own s []) []
 | emp (s:Nat):Res ob .emp (.own s []) []
 | own {o:Id} {s len:Nat} {rs:List (List V)} (h:oget ob o=some (.rows s rs false)) (hl:len=rs.length):Res ob (.ref o 0 len) (.own s rs) [o]
 | agg {cs us:List V} {ids:List Id} (h:Ress ob cs us ids):Res ob (.agg cs) (.agg us) ids
 | tup {cs us:List V} {ids:List Id} (h:Ress ob cs us ids):Res ob (.tup cs) (.tup us) ids
inductive Ress (ob:List (Id×Obj)):List V→List V→List Id→Prop
 | nil:Ress ob [] [] []
 | cons {v u:V} {vs us:List V} {i j:List Id} (h:Res ob v u i) (t:Ress ob vs us j):Ress ob (v::vs) (u::us) (i++j)
end
inductive RVs (E:Env) (gl:List (Nat×List V)) (tm:List (Nat×V)) (ob:List (Id×Obj)):List ResultVar→List V→Prop
 | nil:RVs E gl tm ob [] []
 | tmp {t:Nat} {r:List ResultVar} {v:V} {vs:List V} (hv:tget tm t=v) (h:RVs E gl tm ob r vs):RVs E gl tm ob (.tmp t::r) (v::vs)
 | cell {x t:Nat} {r:List ResultVar} {vs cs:List V} {p v:V} {d:Ty} (hp:tget tm x=p) (hd:ety E t=some d) (hc:CellsAt gl ob p d.size cs) (hm:mkV d.k.isAgg cs=some v) (h:RVs E gl tm ob r vs):RVs E gl tm ob (.cell x t::r) (v::vs)
def oneV:List V→V
 | [v]=>v
 | vs=>.tup vs
theorem rvs_run (hE:E.good P=true) {n:Nat} {tm:List (Nat×V)} {ob:List (Id×Obj)} {ts:Array Value} {w:World} {B:BM} {pr:Nat→Prop} (q:QSim gl n tm ob ts w B pr) :
 ∀{rs:List ResultVar} {vs:List V},RVs E gl tm ob rs vs→∃cs:List Value,(rs.mapM fun r=>(match r with|.tmp t=>pure (ts.getD t undef)|.cell a t=>do loadVar t (←asAddr (ts.getD a undef)):Sem Value)).run P w=.ok cs w∧RCl w B pr vs cs
 | _,_,.nil=>⟨[],by simp,.nil⟩
 | _,_,.tmp (t:=t) hv h=>by
  obtain ⟨cs,h1,h2⟩:=rvs_run hE q h
  have:=q.tms.2 t
  rw [hv] at this
  exact ⟨_,by simp only [List.mapM_cons,Sem.run_bind,Sem.run_pure,Result.andThen_ok,h1],.cons this h2⟩
 | _,_,.cell (x:=x) (t:=t) hp hd hc hm h=>by
  obtain ⟨cs,h1,h2⟩:=rvs_run hE q h
  have hx:=q.tms.2 x
  rw [hp] at hx
  obtain ⟨b,off,vs,he,hr,hl,hrc⟩:=cells_at q hc hx
  obtain ⟨c,g1,g2⟩:=loadAt_run (P:=P) (Env.ok hE hd) hr hl hm hrc
  have g1':(loadVar t ⟨b,off,none⟩).run P w=.ok c w:=by simpa [Instr.loadAt,Instr.sureAddr] using g1
  refine ⟨c::cs,?_,.cons g2 h2⟩
  have hA:(asAddr (ts.getD x undef)).run P w=.ok ⟨b,off,none⟩ w:=by rw [he];rfl
  simp only [List.mapM_cons,Sem.run_bind,Sem.run_pure,Result.andThen_ok,h1,hA,g1']
def retQ (E:Env) (gl:List (Nat×List V)) (fn:Func) (res:V):Exit→St→Prop:=fun e σ =>
 (e=.normal∨e=.ret)∧∃vs ids,RVs E gl σ.tm σ.ob fn.results.toList vs∧Res σ.ob (oneV vs) res ids∧ids.Nodup
theorem RC.undefs (w:World) (B:BM) (pr:Nat→Prop) (c:Value):RC w B pr .undef c:=.base (.undef c)
def initTm:Nat→List V→List (Nat×V)
 | _,[]=>[]
 | k,v::r=>(k,v)::initTm (k+1) r
theorem initTm_get:∀(k:Nat) (vs:List V) (t:Nat),tget (initTm k vs) t=if k≤t then (vs[t - k]?).getD .undef else .undef
 | k,[],t=>by simp [initTm,tget]
 | k,v::r,t=>by
  simp only [initTm]
  rw [tget_put,initTm_get (k+1) r t]
  by_cases h:k=t
  ·subst h;simp
  ·rw [if_neg h]
   by_cases h2:k≤t
   ·rw [if_pos (by omega),if_pos h2,show t - k=(t - (k+1))+1 by omega];simp
   ·rw [if_neg (by omega),if_neg h2]
mutual
theorem Res.rt {w0:World} {w:World} {B:BM} {pr:Nat→Prop} {ob:List (Id×Obj)} (lo:Nat) (hob:∀o s rs,oget ob o=some (.rows s rs false)→ObjOk w B pr (fun bd=>lo≤bd.b) o (.rows s rs false)) :
 ∀{v u:V} {ids:List Id} {c:Value},Res ob v u ids→RC w B pr v c→∃fp,RT w pr lo u c fp∧List.Sublist fp (ids.filterMap fun o=>(B o).map (·.b))
 | _,_,_,_,.free h,hc=>⟨[],.free (hc.free h),List.nil_sublist _⟩
 | _,_,_,_,.nils s,hc=>⟨[],by rw [hc.nils_inv];exact .own0 ..,List.nil_sublist _⟩
 | _,_,_,_,.emp s,hc=>⟨[],by obtain ⟨a,rfl⟩:=hc.emp_inv;exact .own0 ..,List.nil_sublist _⟩
 | _,_,_,_,.own (o:=o) (s:=s) (rs:=rs) h hl,hc=>by
  rcases hc.ref_inv with ⟨h0,a,rfl⟩|⟨bd,cap,hB,hcl,hcap,rfl⟩
  ·have:rs=[]:=List.length_eq_zero_iff.1 (by omega)
   subst this
   exact ⟨[],.own0 ..,List.nil_sublist _⟩
  ·rcases hob o s rs h with ⟨bd',hB',⟨h1,h2,h3,h4,h5,h6⟩,hlo⟩|⟨hB',_⟩
   ·rw [hB] at hB';injection hB' with hB';subst hB'
    subst hl
    refine ⟨[bd.b],?_,by simp [hB]⟩
    have hth:w.there bd.b bd.base (cap*s):=fun j hj=>h5 rfl j (Nat.lt_of_lt_of_le hj (Nat.mul_le_mul_right _ (by omega)))
    have:=RT.own (w:=w) (pr:=pr) (lo:=lo) (cap:=cap) hlo (fun hb=>by simpa using h3.1 hb) h4 hcap hth h6
    simpa using this
   ·rw [hB] at hB';cases hB'
 | _,_,_,_,.agg h,hc=>by
  obtain ⟨cs,rfl,hl⟩:=hc.agg_inv
  obtain ⟨fp,h1,h2⟩:=Ress.rt (w0:=w0) lo hob h hl
  exact ⟨fp,.agg h1,h2⟩
 | _,_,_,_,.tup h,hc=>by
  obtain ⟨cs,rfl,hl⟩:=hc.tup_inv
  obtain ⟨fp,h1,h2⟩:=Ress.rt (w0:=w0) lo hob h hl
  exact ⟨fp,.tup h1,h2⟩
theorem Ress.rt {w0:World} {w:World} {B:BM} {pr:Nat→Prop} {ob:List (Id×Obj)} (lo:Nat) (hob:∀o s rs,oget ob o=some (.rows s rs false)→ObjOk w B pr (fun bd=>lo≤bd.b) o (.rows s rs false)) :
 ∀{vs us:List V} {ids:List Id} {cs:List Value},Ress ob vs us ids→RCl w B pr vs cs→∃fp,RTl w pr lo us cs fp∧List.Sublist fp (ids.filterMap fun o=>(B o).map (·.b))
 | _,_,_,_,.nil,.nil=>⟨[],.nil,List.nil_sublist _⟩
 | _,_,_,_,.cons h t,.cons hc tc=>by
  obtain ⟨f1,h1,h2⟩:=Res.rt (w0:=w0) lo hob h hc
  obtain ⟨f2,h3,h4⟩:=Ress.rt (w0:=w0) lo hob t tc
  exact ⟨f1++f2,.cons h1 h3,by rw [List.filterMap_append];exact h2.append h4⟩
end
mutual
theorem Res.alive {ob:List (Id×Obj)}:∀{v u:V} {ids:List Id},Res ob v u ids→∀o∈ids,oget ob o≠some .dead
 | _,_,_,.free _,o,h=>by simp at h
 | _,_,_,.nils _,o,h=>by simp at h
 | _,_,_,.emp _,o,h=>by simp at h
 | _,_,_,.own h _,o,hm=>by
  simp at hm
  subst hm
  rw [h]
  simp
 | _,_,_,.agg h,o,hm=>Ress.alive h o hm
 | _,_,_,.tup h,o,hm=>Ress.alive h o hm
theorem Ress.alive {ob:List (Id×Obj)}:∀{vs us:List V} {ids:List Id},Ress ob vs us ids→∀o∈ids,oget ob o≠some .dead
 | _,_,_,.nil,o,h=>by simp at h
 | _,_,_,.cons h t,o,hm=>by
  rcases List.mem_append.1 hm with hm|hm
  ·exact Res.alive h o hm
  ·exact Ress.alive t o hm
end
theorem nodup_blocks {B:BM} {ob:List (Id×Obj)} (inj:∀o o' bd bd',oget ob o≠some .dead→oget ob o'≠some .dead→B o=some bd→B o'=some bd'→bd.b=bd'.b→o=o'):∀{ids:List Id},(∀o∈ids,oget ob o≠some .dead)→ids.Nodup→(ids.filterMap fun o=>(B o).map (·.b)).Nodup
 | [],_,_=>by simp
 | o::r,ha,h=>by
  have ih:=nodup_blocks inj (fun x hx=>ha x (List.mem_cons_of_mem _ hx)) (List.nodup_cons.1 h).2
  cases hB:B o with
  | none=>simpa [hB] using ih
  | some bd =>
   simp only [List.filterMap_cons,hB,Option.map_some]
   refine List.nodup_cons.2 ⟨fun hm=>?_,ih⟩
   obtain ⟨o',ho',he⟩:=List.mem_filterMap.1 hm
   cases hB':B o' with
   | none=>simp [hB'] at he
   | some bd' =>
    simp only [hB',Option.map_some,Option.some.injEq] at he
    have:=inj o o' bd bd' (ha o (List.mem_cons_self ..)) (ha o' (List.mem_cons_of_mem _ ho')) hB hB' he.symm
    subst this
    exact (List.nodup_cons.1 h).1 ho'
theorem Sim.take {w0:World} {pr0 ow:Nat→Prop} {σ:St} {a:Act} {ao:List (Array Value)} {w:World} {B:BM} {pr:Nat→Prop} (h:Sim gl w0 pr0 ow σ a ao w B pr) {k:Nat} {ks:List Nat} (ha:a.defers=(k::ks).map mkD)
 (hn:(k::ks).Nodup) (hm:∀r∈k::ks,MarkAt w0 w σ.ob B pr r) :
 (Instr.takeDeferred k).run P w=.ok [] (w.putObj k (.deferred none))∧Sim gl w0 pr0 ow σ { a with defers:=ks.map mkD } ao (w.putObj k (.deferred none)) B pr∧∀r∈ks,MarkAt w0 (w.putObj k (.deferred none)) σ.ob B pr r:=by
 have m:=hm k (List.mem_cons_self ..)
 have hoth:∀i,i≠k→(w.putObj k (.deferred none)).heap[i]?=w.heap[i]?:=fun i hi=>World.putObj_heap_other hi
 have hl:Like pr w (w.putObj k (.deferred none)):=fun b hb=>hoth b (fun e=>m.np (e▸hb))
 have hms:∀r∈ks,MarkAt w0 (w.putObj k (.deferred none)) σ.ob B pr r:=fun r hr=>by
  have m2:=hm r (List.mem_cons_of_mem _ hr)
  exact ⟨(hoth r (fun e=>(List.nodup_cons.1 hn).1 (e▸hr))).trans m2.here,m2.lo,m2.np,m2.nb⟩
 refine ⟨run_takeDeferred m.here,⟨⟨ks,rfl,(List.nodup_cons.1 hn).2,hms⟩,h.tms.move hl (fun _ h=>h) (fun _ _ h=>h),h.outs.move hl (fun _ h=>h) (fun _ _ h=>h),h.obn,fun o x hx=>?_,h.inj,fun b hb=>?_,h.prm,h.prn,h.glo.move hl (fun _ h=>h),?_⟩,hms⟩
 ·rcases h.obs o x hx with ⟨g1,g2⟩|⟨g1,⟨bd,q1,q2,q3⟩|q⟩
  ·exact .inl ⟨g1,fun bd hb=>by rw [World.putObj_size];exact g2 bd hb⟩
  ·exact .inr ⟨g1,.inl ⟨bd,q1,q2.move (hoth _ (m.nb o bd (by rw [hx];intro e;injection e with e;exact g1 e) q1)) (by rw [World.putObj_size];exact Nat.le_refl _) hl (fun _ h=>h) (fun _ h=>.inl h) (fun _ _ h=>h),q3⟩⟩
  ·exact .inr ⟨g1,.inr q⟩
 ·rw [World.putObj_size];exact h.pra b hb
 ·exact ⟨h.kp.os,h.kp.tape,h.kp.output,h.kp.drawn,by rw [World.putObj_size];exact h.kp.size,fun b hb ho=>(hoth b (fun e=>by have:=m.lo;omega)).trans (h.kp.block b hb ho)⟩
theorem leavesM {fn:Func} {R:Ending→World→Prop} {w0:World} {pr0 ow:Nat→Prop} {σ:St} {ao:List (Array Value)} {B:BM} {pr:Nat→Prop}:∀(ks:List Nat) {a:Act} {w:World},Sim gl w0 pr0 ow σ a ao w B pr→a.defers=ks.map mkD→ks.Nodup→(∀r∈ks,MarkAt w0 w σ.ob B pr r) →
 (∀w',Sim gl w0 pr0 ow σ { a with defers:=[] } ao w' B pr→∃v,(results fn a.tmps).run P w'=.ok v w'∧R (.returned v) w')→LeavesInM Fence.wide 0 P fn a.tmps R a.defers .returning w
 | [],a,w,hs,ha,_,_,h=>by
  rw [ha]
  obtain ⟨tm,df⟩:=a
  simp only at ha
  subst ha
  exact h w hs
 | k::ks,a,w,hs,ha,hn,hm,h=>by
  obtain ⟨h1,h2,h3⟩:=hs.take (P:=P) ha hn hm
  rw [ha,List.map_cons]
  refine ⟨by simp,.inl ⟨k,_,rfl,h1,?_⟩⟩
  exact leavesM ks h2 rfl (List.nodup_cons.1 hn).2 h3 h
theorem calls_of_safe {f:FuncId} {fn:Func} {c:Code} {xs:Array Value} {R:Ending→World→Prop} {Q:Exit→St→Prop} {σ:St} {w0:World} {pr0 ow:Nat→Prop} {ao:List (Array Value)} {w:World} {B:BM} {pr:Nat→Prop} (hf:P.funcs[f]?=some fn) (hb:fn.body=some c)
 (h:Safe false P gl c Q σ) (hs:Sim gl w0 pr0 ow σ { tmps:=xs++Array.replicate (fn.ntmps - xs.size) undef,defers:=[] } ao w B pr)
 (hR:∀e σ' a' w' B' pr',Q e σ'→Sim gl w0 pr0 ow σ' a' ao w' B' pr'→(e=.normal∨e=.ret)∧∀w'',Sim gl w0 pr0 ow σ' { a' with defers:=[] } ao w'' B' pr'→∃v,(results fn a'.tmps).run P w''=.ok v w''∧R (.returned v) w'') :
 Calls P f xs w R:=by
 refine callsIn_wide (n:=0) |>.1 (callsIn_of_wp_marks hf hb trivial (wpIn_mono (h w0 pr0 ow _ ao w B pr hs none rfl) ?_))
 rintro e a' w' ⟨σ',B',pr',hq,hs'⟩
 obtain ⟨he,hfin⟩:=hR e σ' a' w' B' pr' hq hs'
 obtain ⟨ks,k1,k2,k3⟩:=hs'.dfr
 have:=leavesM (P:=P) (fn:=fn) (R:=R) ks hs' k1 k2 k3 hfin
 rcases he with rfl|rfl<;>exact this
theorem SC.of (hE:E.good P=true) {f:FuncId} {fn:Func} {c:Code} {args:List V} {res:V} (hf:P.funcs[f]?=some fn) (hb:fn.body=some c) (hc:∀(xs:Array Value) (w:World),(callFunc f xs).run P w=.ok (.enter f xs) w)
 (hn:Nat.ble args.length fn.ntmps=true) (h:Safe false P gl c (retQ E gl fn res) ⟨fn.ntmps,initTm 0 args,[],[],[]⟩):SC P gl f args res:=by
 refine ⟨hc,fun w pr cs hpr hg hrc=>?_⟩
 have hlen:=hrc.length
 have hle:args.length≤fn.ntmps:=Nat.le_of_ble_eq_true hn
 refine calls_of_safe hf hb h (w0:=w) (pr0:=pr) (ow:=fun _=>False) (ao:=[]) (B:=fun _=>none) (pr:=pr) ?_ ?_
 ·refine ⟨.nil,⟨by simp;omega,fun t=>?_⟩,trivial,fun _ _=>rfl,fun o x hx=>by simp [oget] at hx,fun _ _ _ _ _ _ h=>by simp at h,hpr,fun _ h=>h,fun _ h=>.inl h,hg,.refl _ _⟩
  rw [initTm_get]
  simp only [Nat.zero_le,if_true,Nat.sub_zero]
  cases hx:args[t]? with
  | none=>exact .base (.undef _)
  | some v =>
   obtain ⟨c',h1,h2⟩:=hrc.get hx
   have hlt:t < cs.length:=(List.getElem?_eq_some_iff.1 h1).1
   have:(cs.toArray++Array.replicate (fn.ntmps - cs.toArray.size) undef).getD t undef=c':=by
    rw [Array.getD_eq_getD_getElem?,Array.getElem?_append_left (by simpa using hlt)]
    simp [h1]
   rw [this]
   exact .base h2
 ·rintro e σ a' w'0 B pr' ⟨he,vs,ids,h1,h2,h3⟩ hs0
  refine ⟨he,fun w' hs=>?_⟩
  obtain ⟨cs',g1,g2⟩:=rvs_run (P:=P) hE hs.q h1
  obtain ⟨fp,k1,k2⟩:∃fp,RT w' pr' w.heap.size res (if h:cs'.toArray.size=1 then cs'.toArray[0] else .tuple cs'.toArray) fp∧List.Sublist fp (ids.filterMap fun o=>(B o).map (·.b)):=by
   refine Res.rt (w0:=w) w.heap.size (fun o s rs ho=>?_) h2 ?_
   ·rcases hs.obs o _ ho with ⟨q1,_⟩|⟨_,⟨bd,q1,q2,q3⟩|q⟩
    ·cases q1
    ·exact .inl ⟨bd,q1,q2,q3.elim (fun h=>h.elim) fun h=>h⟩
    ·exact .inr q
   ·cases g2 with
    | nil=>simp [oneV];exact .tup .nil
    | cons p1 p2 =>
     cases p2 with
     | nil=>simpa [oneV] using p1
     | cons p2 p3=>simpa [oneV] using RC.tup (.cons p1 (.cons p2 p3))
  have hres:(results fn a'.tmps).run P w'=.ok (if h:cs'.toArray.size=1 then cs'.toArray[0] else .tuple cs'.toArray) w':=by
   unfold results
   rw [Array.mapM_eq_mapM_toList,Sem.run_bind,Sem.run_map]
   erw [g1]
   rfl
  exact ⟨_,hres,_,pr',fp,rfl,hs.kp,hs.prm,(fun b hb=>(hs.prn b hb).imp id fun h=>h.elim (fun h=>h.elim) id),hs.pra,k1,k2.nodup (nodup_blocks hs.inj (Res.alive h2) h3)⟩
end Go.AM
namespace Go.AM
theorem thenQ.n {K:St→Prop} {Q:Exit→St→Prop} {σ:St} (h:K σ):thenQ K Q .normal σ:=h
theorem thenQ.r {K:St→Prop} {Q:Exit→St→Prop} {σ:St} (h:Q .ret σ):thenQ K Q .ret σ:=h
theorem thenQ.e {K:St→Prop} {Q:Exit→St→Prop} {σ:St} {i:Nat} (h:Q (.exit i) σ):thenQ K Q (.exit i) σ:=h
theorem blockQ.n {i:Nat} {Q:Exit→St→Prop} {σ:St} (h:Q .normal σ):blockQ i Q .normal σ:=h
theorem blockQ.r {i:Nat} {Q:Exit→St→Prop} {σ:St} (h:Q .ret σ):blockQ i Q .ret σ:=h
theorem blockQ.x {i j:Nat} {Q:Exit→St→Prop} {σ:St} (hb:Nat.beq j i=true) (h:Q .normal σ):blockQ i Q (.exit j) σ:=by simp only [blockQ,hb];exact h
theorem blockQ.y {i j:Nat} {Q:Exit→St→Prop} {σ:St} (hb:Nat.beq j i=false) (h:Q (.exit j) σ):blockQ i Q (.exit j) σ:=by simp only [blockQ,hb];exact h
theorem retQ.one {E:Env} {gl:List (Nat×List V)} {fn:Func} {res v:V} {t:Nat} {n:Nat} {tm:List (Nat×V)} {ob:List (Id×Obj)} {out:List (Nat×List (Nat×V))} {pa:Id} {ids:List Id}
 (hr:fn.results.toList=[.tmp t]) (hv:force (tget tm t)=some v) (h:Res ob v res ids) (hn:ids.Nodup):retQ E gl fn res .ret ⟨n,tm,ob,out,pa⟩ :=
 ⟨.inr rfl,[v],ids,by rw [hr];exact .tmp (force_eq hv).symm .nil,h,hn⟩
theorem retQ.two {E:Env} {gl:List (Nat×List V)} {fn:Func} {res v u:V} {t s:Nat} {n:Nat} {tm:List (Nat×V)} {ob:List (Id×Obj)} {out:List (Nat×List (Nat×V))} {pa:Id} {ids:List Id}
 (hr:fn.results.toList=[.tmp t,.tmp s]) (hv:force (tget tm t)=some v) (hu:force (tget tm s)=some u) (h:Res ob (.tup [v,u]) res ids) (hn:ids.Nodup):retQ E gl fn res .ret ⟨n,tm,ob,out,pa⟩ :=
 ⟨.inr rfl,[v,u],ids,by rw [hr];exact .tmp (force_eq hv).symm (.tmp (force_eq hu).symm .nil),h,hn⟩
end Go.AM
namespace Go.AM
open Go Go.RowKit
variable {r:Bool} {P:Program} {E:Env} {gl:List (Nat×List V)}
mutual
def V.within (ob:List (Id×Obj)):V→Bool
 | .ref o _ _|.bref o _ _ _|.ptr o _ _|.mapr o|.yld o|.itr o=>alive ob o
 | .agg cs|.tup cs|.fn _ cs=>withins ob cs
 | _=>true
def withins (ob:List (Id×Obj)):List V→Bool
 | []=>true
 | v::r=>v.within ob&&withins ob r
def alive (ob:List (Id×Obj)) (o:Id):Bool:=match oget ob o with
 | some .dead=>false
 | some _=>true
 | none=>false
end
def tmWithin (ob:List (Id×Obj)):List (Nat×V)→Bool
 | []=>true
 | (_,v)::r=>v.within ob&&tmWithin ob r
def pWithin (ob:List (Id×Obj)):List (V×V)→Bool
 | []=>true
 | (_,v)::r=>v.within ob&&pWithin ob r
def Obj.within (ob:List (Id×Obj)):Obj→Bool
 | .box cells=>withins ob cells
 | .iter (some m) ..=>alive ob m
 | .loop _ tm ..=>tmWithin ob tm
 | .pmap es=>pWithin ob es
 | _=>true
def obWithin (ob:List (Id×Obj)):List (Id×Obj)→Bool
 | []=>true
 | (_,x)::r=>x.within ob&&obWithin ob r
def outWithin (ob:List (Id×Obj)):List (Nat×List (Nat×V))→Bool
 | []=>true
 | (_,tm)::r=>tmWithin ob tm&&outWithin ob r
def covT:List (Nat×V)→List (Nat×V)→Prop
 | [],_=>True
 | (d,v)::r,tm=>tget tm d=v∧covT r tm
def covO:List (Id×Obj)→List (Id×Obj)→Prop
 | [],_=>True
 | (o,x)::r,ob=>oget ob o=some x∧covO r ob
structure Cov (σ τ:St):Prop where
 n:σ.n=τ.n
 out:σ.out=τ.out
 pa:σ.pa=τ.pa
 tm:covT τ.tm σ.tm
 ob:covO τ.ob σ.ob
 cl:(tmWithin τ.ob τ.tm&&obWithin τ.ob τ.ob&&outWithin τ.ob τ.out)=true
theorem covT_get:∀{a b:List (Nat×V)},covT a b→∀t,tget a t=.undef∨tget a t=tget b t
 | [],b,_,t=>.inl rfl
 | (d,v)::r,b,h,t=>by
  rw [tget_put]
  split
  ·rename_i e;subst e;exact .inr h.1.symm
  ·exact covT_get h.2 t
theorem covO_get:∀{a b:List (Id×Obj)},covO a b→∀o x,oget a o=some x→oget b o=some x
 | [],b,_,o,x,h=>by simp [oget] at h
 | (k,y)::r,b,h,o,x,hx=>by
  simp only [oget] at hx
  split at hx
  ·rename_i e
   injection hx with hx;subst hx
   rw [←idEq_iff.1 e];exact h.1
  ·exact covO_get h.2 o x hx
theorem tmWithin_get {ob:List (Id×Obj)}:∀{a:List (Nat×V)},tmWithin ob a=true→∀t,(tget a t).within ob=true
 | [],_,t=>by simp [tget,V.within]
 | (d,v)::r,h,t=>by
  simp only [tmWithin,Bool.and_eq_true] at h
  rw [tget_put]
  split
  ·exact h.1
  ·exact tmWithin_get h.2 t
def only (ob:List (Id×Obj)) (B:BM):BM:=fun o=>match alive ob o with|true=>B o|false=>none
theorem only_some {ob:List (Id×Obj)} {B:BM} {o:Id} {bd:Bd} (ha:alive ob o=true) (ho:B o=some bd):only ob B o=some bd:=by
 simp only [AM.only,ha];exact ho
mutual
theorem RC.only {w:World} {B:BM} {pr:Nat→Prop} {ob:List (Id×Obj)}:∀{v:V} {c:Value},RC w B pr v c→v.within ob=true→RC w (only ob B) pr v c
 | _,_,.base h,_=>.base h
 | _,_,.ref ho hr hc,hw=>.ref (only_some (by simpa [V.within] using hw) ho) hr hc
 | _,_,.ref0 o row a,_=>.ref0 o row a
 | _,_,.bref ho hr hc,hw=>.bref (only_some (by simpa [V.within] using hw) ho) hr hc
 | _,_,.ptr ho,hw=>.ptr (only_some (by simpa [V.within] using hw) ho)
 | _,_,.mapr ho,hw=>.mapr (only_some (by simpa [V.within] using hw) ho)
 | _,_,.yld ho,hw=>.yld (only_some (by simpa [V.within] using hw) ho)
 | _,_,.itr ho h0,hw=>.itr (only_some (by simpa [V.within] using hw) ho) h0
 | _,_,.agg h,hw=>.agg (RCl.only h (by simpa [V.within] using hw))
 | _,_,.tup h,hw=>.tup (RCl.only h (by simpa [V.within] using hw))
 | _,_,.fn h,hw=>.fn (RCl.only h (by simpa [V.within] using hw))
theorem RCl.only {w:World} {B:BM} {pr:Nat→Prop} {ob:List (Id×Obj)}:∀{vs:List V} {cs:List Value},RCl w B pr vs cs→withins ob vs=true→RCl w (only ob B) pr vs cs
 | _,_,.nil,_=>.nil
 | _,_,.cons h t,hw=>by
  simp only [withins,Bool.and_eq_true] at hw
  exact .cons (RC.only h hw.1) (RCl.only t hw.2)
end
theorem obWithin_get {ob0:List (Id×Obj)}:∀{ob:List (Id×Obj)},obWithin ob0 ob=true→∀o x,oget ob o=some x→x.within ob0=true
 | [],_,o,x,h=>by simp [oget] at h
 | (k,y)::r,hw,o,x,h=>by
  simp only [obWithin,Bool.and_eq_true] at hw
  simp only [oget] at h
  split at h
  ·injection h with h;subst h
   exact hw.1
  ·exact obWithin_get (ob:=r) hw.2 o x h
theorem TMs.only {w:World} {B:BM} {pr:Nat→Prop} {ob:List (Id×Obj)} {n:Nat} {tm:List (Nat×V)} {ts:Array Value} (h:TMs w B pr n tm ts) (hw:tmWithin ob tm=true):TMs w (only ob B) pr n tm ts :=
 ⟨h.1,fun t=>(h.2 t).only (tmWithin_get hw t)⟩
theorem RCp.only {w:World} {B:BM} {pr:Nat→Prop} {ob:List (Id×Obj)}:∀{es:List (V×V)} {ms:List MapEntry},RCp w B pr es ms→pWithin ob es=true→RCp w (only ob B) pr es ms
 | [],[],h,_=>h
 | [],_::_,h,_=>h.elim
 | (_,_)::_,[],h,_=>h.elim
 | (_,_)::_,_::_,h,hw=>by
  simp only [pWithin,Bool.and_eq_true] at hw
  exact ⟨h.1,RC.only h.2.1 hw.1,RCp.only h.2.2 hw.2⟩
theorem ObjAt.only {w:World} {B:BM} {pr:Nat→Prop} {bd:Bd} {ob:List (Id×Obj)} {x:Obj} (h:ObjAt w B pr bd x) (hw:x.within ob=true):ObjAt w (only ob B) pr bd x:=by
 cases x with
 | box cells =>
  obtain ⟨p1,p2,p3,p4,p5,cs,p6,p7⟩:=h
  exact ⟨p1,p2,p3,p4,p5,cs,p6,p7.only hw⟩
 | rows s rs fz=>exact h
 | dead=>exact h
 | map es=>exact h
 | gmap es ms clock=>exact h
 | pmap es =>
  obtain ⟨h1,h2,ms,clock,h3,h4,h5⟩:=h
  exact ⟨h1,h2,ms,clock,h3,h4.only hw,h5⟩
 | iter src es ms clock since seen =>
  obtain ⟨h0,h1,h2,h3⟩:=h
  refine ⟨h0,h1,h2,?_⟩
  rcases h3 with ⟨bm,h4,h5⟩|h3
  ·refine .inl ⟨bm,h4,?_⟩
   cases src with
   | none=>exact h5
   | some m=>obtain ⟨bd',q1,q2⟩:=h5;exact ⟨bd',only_some hw q1,q2⟩
  ·exact .inr h3
 | loop n tm ps asg body st pend =>
  obtain ⟨h1,h2,r,h3,h4,h5,h6,h7,h8,h9⟩:=h
  exact ⟨h1,h2,r,h3,h4,h5,h6,h7,h8,h9.only hw⟩
theorem Outs.only {w:World} {B:BM} {pr:Nat→Prop} {ob:List (Id×Obj)}:∀{out:List (Nat×List (Nat×V))} {ao:List (Array Value)},outWithin ob out=true→Outs w B pr out ao→Outs w (only ob B) pr out ao
 | [],[],_,_=>trivial
 | [],_::_,_,h=>h.elim
 | _::_,[],_,h=>h.elim
 | (_,tm)::r,_::s,hw,h=>by
  simp only [outWithin,Bool.and_eq_true] at hw
  exact ⟨⟨h.1.1,fun t=>(h.1.2 t).only (tmWithin_get hw.1 t)⟩,Outs.only hw.2 h.2⟩
theorem Sim.covG {w0:World} {pr0 ow:Nat→Prop} {σ τ:St} {a:Act} {ao:List (Array Value)} {w:World} {B:BM} {pr:Nat→Prop} (h:Sim gl w0 pr0 ow σ a ao w B pr) (cn:σ.n=τ.n) (cout:σ.out=τ.out) (ctm:∀t,tget τ.tm t=.undef∨tget τ.tm t=tget σ.tm t) (cob:∀o x,oget τ.ob o=some x→oget σ.ob o=some x) (hcl:(tmWithin τ.ob τ.tm&&obWithin τ.ob τ.ob&&outWithin τ.ob τ.out)=true):Sim gl w0 pr0 ow τ a ao w (only τ.ob B) pr:=by
 simp only [Bool.and_eq_true] at hcl
 obtain ⟨⟨c1,c2⟩,c3⟩:=hcl
 have key:∀o,alive τ.ob o=true→oget σ.ob o≠some .dead:=fun o ho=>by
  unfold alive at ho
  split at ho
  ·cases ho
  ·rename_i x hx hne
   rw [cob o x hne]
   intro e
   injection e with e
   subst e
   simp at hx
  ·cases ho
 have hdf:Dfr w0 w τ.ob (only τ.ob B) pr a.defers:=h.dfr.to fun r m=>⟨m.here,m.lo,m.np,fun o bd hd hb=>by
  simp only [AM.only] at hb
  split at hb
  ·exact m.nb o bd (key o (by assumption)) hb
  ·cases hb⟩
 refine ⟨hdf,⟨by rw [h.tms.1,cn],fun t=>?_⟩,(by rw [←cout] at c3 ⊢;exact h.outs.only c3),fun o ho=>?_,fun o x hx=>?_,fun o o' bd bd' a1 a2 h1 h2 h3=>?_,h.pra,h.prm,h.prn,h.glo,h.kp⟩
 ·rcases ctm t with e|e
  ·rw [e];exact .base (.undef _)
  ·exact RC.only (by rw [e];exact h.tms.2 t) (tmWithin_get c1 t)
 ·simp only [AM.only,alive,ho]
 ·rcases h.obs o x (cob o x hx) with ⟨g1,g2⟩|⟨g1,g2⟩
  ·exact .inl ⟨g1,by subst g1;simp only [AM.only,alive,hx];intro bd hb;cases hb⟩
  ·refine .inr ⟨g1,?_⟩
   have hal:alive τ.ob o=true:=by
    unfold alive
    rw [hx]
    cases x<;>first|rfl|exact absurd rfl g1
   have hon:AM.only τ.ob B o=B o:=by simp only [AM.only,hal]
   rcases g2 with ⟨bd,q1,q2,q3⟩|⟨q1,q2⟩
   ·exact .inl ⟨bd,by rw [hon];exact q1,q2.only (obWithin_get c2 o x hx),q3⟩
   ·exact .inr ⟨by rw [hon];exact q1,q2⟩
 ·simp only [AM.only] at h1 h2
  split at h1
  ·split at h2
   ·exact h.inj o o' bd bd' (key o (by assumption)) (key o' (by assumption)) h1 h2 h3
   ·cases h2
  ·cases h1
theorem Sim.cov {w0:World} {pr0 ow:Nat→Prop} {σ τ:St} {a:Act} {ao:List (Array Value)} {w:World} {B:BM} {pr:Nat→Prop} (h:Sim gl w0 pr0 ow σ a ao w B pr) (c:Cov σ τ):Sim gl w0 pr0 ow τ a ao w (only τ.ob B) pr :=
 h.covG c.n c.out (covT_get c.tm) (covO_get c.ob) c.cl
theorem Safe.cov {c:Code} {Q:Exit→St→Prop} {σ τ:St} (hc:Cov σ τ) (h:Safe r P gl c Q τ):Safe r P gl c Q σ :=
 fun w0 pr0 ow a ao w B pr hs=>h w0 pr0 ow a ao w _ pr (hs.cov hc)
theorem SafeOps.cov {l rest:List Oper} {Q:Exit→St→Prop} {σ τ:St} (hc:Cov σ τ) (h:SafeOps r P gl l rest Q τ):SafeOps r P gl l rest Q σ :=
 fun w0 pr0 ow a ao w B pr hs=>h w0 pr0 ow a ao w _ pr (hs.cov hc)
theorem Safe.meet {x y:Code} {Q:Exit→St→Prop} {σ:St} {ι:Type} (τ:ι→St) (F:ι→Prop) (h:Safe r P gl x (thenQ (fun σ'=>∃i,F i∧Cov σ' (τ i)) Q) σ) (k:∀i,F i→Safe r P gl y Q (τ i)):Safe r P gl (.seq x y) Q σ:=by
 refine Safe.seq fun w0 pr0 ow a ao w B pr hs=>(h w0 pr0 ow a ao w B pr hs).mono fun e a' w' ⟨σ',B',pr',hq,hs'⟩=>⟨σ',B',pr',?_,hs'⟩
 cases e with
 | normal=>obtain ⟨i,h1,h2⟩:=hq;exact Safe.cov h2 (k i h1)
 | _=>exact hq
end Go.AM
namespace Go.AM
def ints (k:IntKind) (xs:List Int):List V:=xs.map (.int k)
end Go.AM
namespace Go.AM
mutual
theorem free_within {ob:List (Id×Obj)}:∀{v:V},v.free=true→v.within ob=true
 | .ref ..,h=>by simp [V.free] at h
 | .bref ..,h=>by simp [V.free] at h
 | .ptr ..,h=>by simp [V.free] at h
 | .mapr ..,h=>by simp [V.free] at h
 | .yld ..,h=>by simp [V.free] at h
 | .itr ..,h=>by simp [V.free] at h
 | .agg cs,h=>by simp only [V.within];exact frees_within (by simpa [V.free] using h)
 | .tup cs,h=>by simp only [V.within];exact frees_within (by simpa [V.free] using h)
 | .fn _ cs,h=>by simp only [V.within];exact frees_within (by simpa [V.free] using h)
 | .undef,_|.int ..,_|.bool _,_|.str _,_|.nils,_|.nilp,_|.nilf,_|.nilm,_|.emp,_|.sl ..,_|.gptr ..,_|.spt ..,_|.own ..,_|.box _,_|.mp ..,_=>by simp only [V.within]
theorem frees_within {ob:List (Id×Obj)}:∀{vs:List V},V.free.frees vs=true→withins ob vs=true
 | [],_=>by simp only [withins]
 | v::r,h=>by
  simp only [V.free.frees,Bool.and_eq_true] at h
  simp only [withins,free_within h.1,frees_within h.2,Bool.and_self]
end
end Go.AM
namespace Go.AM
open Go Go.ChangeShapes Go.WideShapes Go.ChangeAt Go.RowKit
section
variable {H:Type} {enc:TypeId×Value→H} {P:Program}
theorem post_of_below {f:Func} {s:ChangeSpec} {apart fresh handsOn again:Bool} {W W':World} {args:Array Value} {v:Value} {ds gs:List (DataW H)} {before pa pv:List MemPlace}
 (hW:DataW.Whole enc P f.params.toList s.vars apart W args.toList ds gs before)
 (hres:∀(b:Nat) (sp:Nat→Bool) (hd:Bool),DataW.TrodAll enc P W' b sp hd f.resultTypes.toList (v.resultList f.resultTypes.size) (s.fn H (ds++gs)).results [])
 (hargs:∀sp:Nat→Bool,(∀p∈before,sp p.block=true)→DataW.TrodAll enc P W' 0 sp true f.params.toList args.toList (s.fn H (ds++gs)).args pa)
 (hvars:∀sp:Nat→Bool,(∀p∈before,sp p.block=true)→DataW.TrodVars enc P W' sp s.vars (s.fn H (ds++gs)).vars pv)
 (hps:before=pa++pv) (hb:Below W.heap.size W W')
 (hok:∀(j:Nat) (t:TypeId) (r:Value),f.resultTypes[j]?=some t→(v.resultList f.resultTypes.size)[j]?=some r→Value.okWide P W' .any 0 t r) :
 s.post enc P f apart fresh handsOn again W args v W':=by
 have hlt:∀p∈before,p.block < W.heap.size:=fun p hp=>hW.lt p hp
 have hold:∀p∈before,(fun b=>decide (b < W.heap.size)) p.block=true:=fun p hp=>by simpa using hlt p hp
 refine ⟨ds,gs,before,[],pa,pv,hW,hres _ _ _,hargs _ hold,hvars _ hold,World.keptBut_mono (fun p hp=>⟨hp,?_⟩) (hb.frame (·∈before)),fun _=>?_⟩
 ·rw [hps,List.mem_append] at hp
  exact Or.inr hp
 ·obtain ⟨_,_,_,_,_,hz,hn⟩:=hW
  refine ⟨hok,_,_,([]++pa)++pv,⟨[]++pa,pv,trodAll_append (hargs _ (fun _ _=>rfl)) (hres _ _ _),hvars _ (fun _ _=>rfl),rfl,?_,?_⟩,?_⟩
  ·intro b off hp
   have hin:MemPlace.cell b off∈before:=by rw [hps];simpa using hp
   rw [hb.frozen (hlt _ hin)]
   exact hz b off hin
  ·intro ha
   have:=hn ha
   rw [hps] at this
   simpa using this
  ·intro p hp _
   rw [hps]
   simpa using hp
end
def All (W:World):Nat→Prop:=fun b=>b < W.heap.size
theorem law_calls {P:Program} {gl:List (Nat×List V)} {f:FuncId} {vs:List V} {cs:List Value} (h:SC P gl f vs (.bool true)) (W:World) (hg:GlobAt W (All W) gl) (hrc:RCs W (All W) vs cs) :
 Calls P f cs.toArray W fun e w'=>e=.returned (.bool true)∧Below W.heap.size W w' :=
 (h.2 W (All W) cs (fun _ hb=>hb) hg hrc).mono fun e w' ⟨c,pr',fp,he,hk,_,_,_,hrt,_⟩=>by
  have:c=.bool true:=by cases hrt with|free h=>cases h;rfl
  subst this
  exact ⟨he,⟨hk.os,hk.tape,hk.output,hk.size,fun b hb=>hk.block b hb (fun h=>h)⟩⟩
theorem globAt_nil (W:World):GlobAt W (All W) []:=fun g cells h=>by simp [gget] at h
end Go.AM
namespace Go.AM
open Go Go.ChangeShapes Go.WideShapes Go.ChangeAt Go.RowKit
section
variable {H:Type} {enc:TypeId×Value→H} {P:Program}
theorem trodAll_below (hl:laidOutB P=true) {W W':World} (hb:Below W.heap.size W W') (sp:Nat→Bool) :
 ∀{ts:List TypeId} {vs:List Value} {ds:List (DataW H)} {ps:List MemPlace},(ts.all fun t=>P.readableRec t&&decide (t < P.types.size))=true →
  DataW.TrodAll enc P W 0 (fun _=>true) true ts vs ds ps→(∀x∈ps,x.block < W.heap.size)→(∀x∈ps,sp x.block=true)→DataW.TrodAll enc P W' 0 sp true ts vs ds ps
 | [],_,_,_,_,h,_,_=>by
  obtain ⟨rfl,rfl,rfl⟩:=trodAll_nil h
  exact trodAll_mk0
 | t::ts,_,_,_,hr,h,hlt,hsp=>by
  obtain ⟨v,vs,d,ds,p,q,rfl,rfl,rfl,h1,h2⟩:=trodAll_cons h
  rw [List.all_cons,Bool.and_eq_true,Bool.and_eq_true,decide_eq_true_eq] at hr
  exact ⟨p,q,WideElems.Trod_stays hl hr.1.1 hr.1.2 h1 (fun x hx=>hb.same (hlt x (List.mem_append_left _ hx))) (fun x hx=>hsp x (List.mem_append_left _ hx)),
   trodAll_below hl hb sp hr.2 h2 (fun x hx=>hlt x (List.mem_append_right _ hx)) (fun x hx=>hsp x (List.mem_append_right _ hx)),rfl⟩
theorem trodAll_length {W:World} {base:Nat} {sp:Nat→Bool} {held:Bool} :
 ∀{ts:List TypeId} {vs:List Value} {ds:List (DataW H)} {ps:List MemPlace},DataW.TrodAll enc P W base sp held ts vs ds ps→ds.length=ts.length
 | [],_,_,_,h=>by
  obtain ⟨rfl,rfl,rfl⟩:=trodAll_nil h
  rfl
 | t::ts,_,_,_,h=>by
  obtain ⟨v,vs,d,ds,p,q,rfl,rfl,rfl,h1,h2⟩:=trodAll_cons h
  simp [trodAll_length h2]
theorem law_post {fn:Func} {s:ChangeSpec} {tb:TypeId} (hl:laidOutB P=true) (hread:(fn.params.toList.all fun t=>P.readableRec t&&decide (t < P.types.size))=true)
 (hvars:s.vars=[]) (hres:fn.resultTypes=#[tb]) (hbool:P.underlying tb=some .bool)
 {ds:List (DataW H)} (hfn:s.fn H ds={ results:=[.lit (.bool true)],args:=ds,vars:=[] })
 {apart fresh handsOn again:Bool} {W W':World} {args:Array Value} {gs:List (DataW H)} {before:List MemPlace}
 (hW:DataW.Whole enc P fn.params.toList s.vars apart W args.toList ds gs before) (hb:Below W.heap.size W W') :
 s.post enc P fn apart fresh handsOn again W args (.bool true) W':=by
 have hW':=hW
 obtain ⟨p,q,hA,hV,rfl,hfz,hnd⟩:=hW
 rw [hvars] at hV
 obtain ⟨rfl,rfl⟩:=trodVars_none hV
 have hf:s.fn H (ds++[])={ results:=[.lit (.bool true)],args:=ds,vars:=[] }:=by rw [List.append_nil];exact hfn
 refine post_of_below (pa:=p) (pv:=[]) hW' ?_ ?_ ?_ rfl hb ?_
 ·intro b sp hd
  rw [hf,hres]
  exact trodAll_mk1 (shut_bool hbool true)
 ·intro sp hsp
  rw [hf]
  exact trodAll_below hl hb sp hread hA (fun x hx=>hW'.lt x (by simpa using hx)) (fun x hx=>hsp x (by simpa using hx))
 ·intro sp hsp
  rw [hf,hvars]
  rfl
 ·exact ok_one hres rfl (okWide_bool_mk hbool true)
variable {C:Checked} {os:Os}
theorem law_lifted {f:FuncId} {fn:Func} {s:ChangeSpec} {tb:TypeId} {apart fresh handsOn again:Bool}
 (own:ownKnob C.prog.godebug=none) (started:os.Started) (noInit:C.prog.inits.idxOf? f=none) (hfunc:C.prog.funcs[f]?=some fn)
 (hl:laidOutB C.prog=true) (hread:(fn.params.toList.all fun t=>C.prog.readableRec t&&decide (t < C.prog.types.size))=true)
 (hvars:s.vars=[]) (hres:fn.resultTypes=#[tb]) (hbool:C.prog.underlying tb=some .bool)
 (hfn:∀ds:List (DataW H),ds.length=fn.params.toList.length→s.fn H ds={ results:=[.lit (.bool true)],args:=ds,vars:=[] })
 (witness:∃(w:World) (tape:Tape) (i:Input),w.os=os∧(w.forCall tape i).Shaped C.prog∧i.vars=[]∧Input.okWide C.prog (w.forCall tape i) .any w.heap.size f i ∧
  s.pre6 enc C.prog fn [] apart (w.forCall tape i).memory i.args∧({}:Assume).holds C.prog (lone (Frame.enter C.prog f i.args .normal) [] (w.forCall tape i)))
 (walk:∀(W:World) (base:Nat) (args:Array Value) (ds:List (DataW H)) (ps:List MemPlace),
  (∀(j:Nat) t v,fn.params[j]?=some t→args[j]?=some v→Value.okWide C.prog W .any base t v) →
  DataW.TrodAll enc C.prog W 0 (fun _=>true) true fn.params.toList args.toList ds ps→(∀x∈ps,x.block < W.heap.size) →
  Calls C.prog f args W fun e w'=>e=.returned (.bool true)∧Below W.heap.size W w') :
 ReturnsInHanded {} C os f .any (s.pre6 enc C.prog fn [] apart)
  (s.post enc C.prog fn apart fresh handsOn again):=by
 refine returnsInHanded_of_change (C:=C) own started noInit hfunc witness ?_
 intro W base args ds gs before hval hW _ _
 have hW':=hW
 obtain ⟨p,q,hA,hV,rfl,hfz,hnd⟩:=hW
 rw [hvars] at hV
 obtain ⟨rfl,rfl⟩:=trodVars_none hV
 have hlen:ds.length=fn.params.toList.length:=trodAll_length hA
 refine (walk W base args ds p hval hA (fun x hx=>hW'.lt x (by simpa using hx))).mono fun e W' ⟨he,hb⟩=>?_
 exact ⟨_,he,law_post hl hread hvars hres hbool (hfn ds hlen) hW' hb⟩
end
end Go.AM
