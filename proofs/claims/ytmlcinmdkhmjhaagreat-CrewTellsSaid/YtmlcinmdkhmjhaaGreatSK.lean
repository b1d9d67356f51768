/- Helper lemmas for the claim's theorem: an abstract machine over the model, proved sound; no condition beyond each lemma's own. -/
import Derived.Test.YtmlcinmdkhmjhaaGreatAmG
import Derived.Shelf.SlSortCmp.NoneTotal
import Derived.Shelf.SlLaysF0
import Derived.Test.YtmlcinmdkhmjhaaGreatProg
set_option linter.unusedVariables false
set_option linter.unusedSimpArgs false
set_option linter.unnecessarySimpa false
set_option linter.unusedSectionVars false
namespace Go.AM
open Go Go.RowKit
variable {r:Bool} {P:Program} {E:Env} {gl:List (Nat×List V)}
def V.val:V→Value
 | .int k n=>.int k n
 | .bool b=>.bool b
 | _=>Go.undef
def V.num:V→Bool
 | .int ..|.bool _=>true
 | _=>false
theorem RC0.num {w:World} {pr:Nat→Prop} {v:V} {c:Value} (h:RC0 w pr v c) (hv:v.num=true):c=v.val:=by
 cases h<;>first|rfl|(simp [V.num] at hv)
theorem RC0.ofNum {w:World} {pr:Nat→Prop} {v:V} (hv:v.num=true):RC0 w pr v v.val:=by
 cases v<;>first|exact .int _ _|exact .bool _|(simp [V.num] at hv)
theorem RCs.nums {w:World} {pr:Nat→Prop}:∀{vs:List V} {cs:List Value},RCs w pr vs cs→vs.all V.num=true→cs=vs.map V.val
 | _,_,.nil,_=>rfl
 | _,_,.cons h t,hv=>by
  rw [List.all_cons,Bool.and_eq_true] at hv
  rw [List.map_cons,h.num hv.1,t.nums hv.2]
theorem RCs.ofNums {w:World} {pr:Nat→Prop}:∀{vs:List V},vs.all V.num=true→RCs w pr vs (vs.map V.val)
 | [],_=>.nil
 | v::r,hv=>by
  rw [List.all_cons,Bool.and_eq_true] at hv
  exact .cons (.ofNum hv.1) (RCs.ofNums hv.2)
theorem one_val {v:V} (hv:v.num=true):v.val.oneCell'=true:=by
 cases v<;>first|rfl|(simp [V.num] at hv)
def ltO {α:Type} (f:α→α→Option Int):α→α→Bool:=Go.Proofs.ltOf fun a b=>(f a b).getD 0
structure OrdO {α:Type} (f:α→α→Option Int):Prop where
 all:∀a b,f a b≠none
 swo:Go.Sort.SWO (ltO f)
 tot:∀a b,ltO f a b=false→ltO f b a=false→a=b
open Classical in
noncomputable def sortO {α:Type} (f:α→α→Option Int) (l:List α):Option (List α) :=
 if OrdO f∧l.length < 4611686018427387904 then some (l.mergeSort fun x y=>!(ltO f y x)) else none
theorem sortO_some {α:Type} {f:α→α→Option Int} {l s:List α} (h:sortO f l=some s):OrdO f∧l.length < 4611686018427387904∧s=l.mergeSort fun x y=>!(ltO f y x):=by
 unfold sortO at h
 split at h
 ·rename_i hc
  injection h with h
  exact ⟨hc.1,hc.2,h.symm⟩
 ·cases h
def encV {α:Type} (cells:α→List V) (x:α):List Value:=(cells x).map V.val
theorem RCr.of {w:World} {pr:Nat→Prop} {b s:Nat}:∀{off:Nat} {rows:List (List V)},(∀i row,rows[i]?=some row→∃cs,w.rangeAt b (off+i*s) cs∧row.length=s∧RCs w pr row cs)→RCr w pr b s off rows
 | off,[],_=>.nil ..
 | off,row::rows,h=>by
  obtain ⟨cs,h1,h2,h3⟩:=h 0 row rfl
  rw [Nat.zero_mul,Nat.add_zero] at h1
  refine .cons h1 h2 h3 (RCr.of fun i row' hr=>?_)
  obtain ⟨cs',k1,k2,k3⟩:=h (i+1) row' (by simpa using hr)
  exact ⟨cs',by rwa [show off+s+i*s=off+(i+1)*s by rw [Nat.add_mul];omega],k2,k3⟩
section
variable {α:Type} [Inhabited α] {cells:α→List V} {k:Nat} {w:World} {pr:Nat→Prop} {b off:Nat}
theorem holds_of_rcr (hk:∀x,(cells x).length=k) (hn:∀x,(cells x).all V.num=true) {l:List α} {lim:Nat} (h:RCr w pr b k off (l.map cells)) (ht:w.there b off (lim*k)) (hl:l.length≤lim) :
 Go.Sort.HoldsK (encV cells) k w b off l.toArray:=fun j hj=>by
 rw [Go.Sort.size_flatK] at hj
 rw [Go.Sort.get_flatK _ _ _ _ hj]
 have hj':j < l.length*k:=by simpa using hj
 have hk0:0 < k:=by
  rcases Nat.eq_zero_or_pos k with e|e
  ·rw [e,Nat.mul_zero] at hj';omega
  ·exact e
 have hi:j / k < l.length:=Nat.div_lt_of_lt_mul (by rw [Nat.mul_comm];exact hj')
 obtain ⟨cs,h1,h2,h3⟩:=h.get (i:=j / k) (row:=cells l[j / k]) (by simp [hi])
 have hcs:=h3.nums (hn _)
 have hc:j % k < k:=Nat.mod_lt _ hk0
 have hlen:cs.length=k:=by rw [hcs,List.length_map,hk]
 have hle:l.length*k≤lim*k:=Nat.mul_le_mul_right _ hl
 have hg:(l.toArray[j / k]!)=l[j / k]:=by rw [getElem!_pos _ _ (by simpa using hi)];simp
 have:=h1 (j % k) cs[j % k] (by rw [List.getElem?_eq_getElem])
 rw [show off+j / k*k+j % k=off+j by have:=Nat.div_add_mod j k;rw [Nat.mul_comm] at this;omega] at this
 refine ⟨?_,(ht j (by omega)).2⟩
 rw [this,hg]
 unfold encV
 rw [getElem!_pos _ _ (by rw [List.length_map,hk];exact hc)]
 simp only [hcs]
 rfl
theorem rcr_of_holds (hk:∀x,(cells x).length=k) (hn:∀x,(cells x).all V.num=true) {l:List α} (h:Go.Sort.HoldsK (encV cells) k w b off l.toArray):RCr w pr b k off (l.map cells) :=
 RCr.of fun i row hr=>by
  rw [List.getElem?_map] at hr
  obtain ⟨x,hx,rfl⟩:=Option.map_eq_some_iff.1 hr
  obtain ⟨hi,rfl⟩:=List.getElem?_eq_some_iff.1 hx
  refine ⟨encV cells l[i],fun j v hv=>?_,hk _,RCs.ofNums (hn _)⟩
  obtain ⟨hj,rfl⟩:=List.getElem?_eq_some_iff.1 hv
  have hj':j < k:=by simpa [encV,hk] using hj
  have:=(Go.Sort.HoldsK.cell h (i:=i) (c:=j) (by simpa using hi) hj').1
  rw [this,getElem!_pos (encV cells _) j (by simpa [encV,hk] using hj')]
  congr 1
  congr 1
  rw [getElem!_pos _ _ (by simpa using hi)];simp
end
theorem keep_grow {w w':World} (h:Keep w (fun _=>False) w'):∃q os,w'=Go.Sort.grow (w.drewN q) os:=by
 refine ⟨w'.drawn - w.drawn,w'.heap.extract w.heap.size w'.heap.size,?_⟩
 have hd:w'.drawn=w.drawn+(w'.drawn - w.drawn):=by have:=h.drawn;omega
 have hh:w'.heap=w.heap++w'.heap.extract w.heap.size w'.heap.size:=by
  apply Array.ext_getElem?
  intro i
  rw [Array.getElem?_append]
  split
  ·rename_i hi
   exact h.block i hi (fun h=>h)
  ·rename_i hi
   rw [Array.getElem?_extract]
   have hs:=h.size
   by_cases h2:i < w'.heap.size
   ·rw [if_pos (by omega)]
    congr 1;omega
   ·rw [if_neg (by omega)]
    simp;omega
 have ho:=h.os
 have ht:=h.tape
 have hu:=h.output
 obtain ⟨hp,tp,dr,os,ou⟩:=w'
 obtain ⟨hp2,tp2,dr2,os2,ou2⟩:=w
 simp only at hd hh ho ht hu
 unfold Go.Sort.grow World.drewN
 simp only
 rw [←hd,←hh,ho,ht,hu]
theorem cmp_lays {α:Type} [Inhabited α] {cells:α→List V} {k g:Nat} {f:α→α→Option Int} (hn:∀x,(cells x).all V.num=true) (ha:∀a b,f a b≠none)
 (hsc:∀a b v,f a b=some v→SC P gl g [.agg (cells a),.agg (cells b)] (.int .i64 v)) {w:World} {pr:Nat→Prop} (hp:∀b,pr b→b < w.heap.size) (hg:GlobAt w pr gl) {blk off size:Nat} (hb:¬pr blk) (hbl:blk < w.heap.size) :
 Go.Proofs.CmpLays P g #[] (encV cells) k (fun a b=>(f a b).getD 0) blk off size w:=fun m os dk hs x y=>by
 obtain ⟨v,hv⟩:=Option.ne_none_iff_exists'.1 (ha x y)
 have hS:=hsc x y v hv
 have hsz:(Go.Proofs.sortWorldK (encV cells) k w blk off m dk os).heap.size=w.heap.size+os.size:=by
  unfold Go.Proofs.sortWorldK Go.Sort.putRowK
  rw [Go.Sort.size_grow,Go.Sort.size_putRow];rfl
 have hlk:Like pr w (Go.Proofs.sortWorldK (encV cells) k w blk off m dk os):=fun b hb'=>by
  unfold Go.Proofs.sortWorldK Go.Sort.putRowK Go.Sort.putRow Go.Sort.mapBlock
  rw [Go.Sort.heap_grow_old _ _ (by simp;exact hp b hb')]
  show ((Go.Sort.ahead w m).heap.modify blk _)[b]?=_
  rw [Array.getElem?_modify,if_neg (fun e=>hb (by rw [e];exact hb'))];rfl
 have:=hS.2 (Go.Proofs.sortWorldK (encV cells) k w blk off m dk os) pr [.agg (encV cells x).toArray,.agg (encV cells y).toArray] (fun b hb'=>by rw [hsz];have:=hp b hb';omega) (hg.move hlk (fun _ h=>h)) (.cons (.agg (RCs.ofNums (hn x))) (.cons (.agg (RCs.ofNums (hn y))) .nil))
 refine this.mono fun e w' ⟨c,pr',fp,he,hkp,_,_,_,hrt,_⟩=>?_
 have hc:c=.int .i64 v:=by
  cases hrt with
  | free h=>cases h;rfl
 refine ⟨by rw [he,hc];simp only [hv];rfl,?_⟩
 obtain ⟨q,os',hw⟩:=keep_grow hkp
 exact ⟨q,os',hw⟩
theorem sortO_len {α:Type} {f:α→α→Option Int} {l s:List α} (h:sortO f l=some s):s.length=l.length:=by
 rw [(sortO_some h).2.2,List.length_mergeSort]
theorem SafeOps.sort {α:Type} [Inhabited α] (cells:α→List V) (hE:E.good P=true) {ρ:Go.Shelf.Ren} (L:Go.Proofs.SlLaysF0.n6 P ρ) {k g F te:Nat} {de:Ty} {cf:α→α→Option Int} {ls ss:List α}
 {l rest:List Oper} {op:Oper} {Q:Exit→St→Prop} {n d:Nat} {fx x y:Operand} {tys:Array Nat} {o:Id} {tm:List (Nat×V)} {ob:List (Id×Obj)} {out:List (Nat×List (Nat×V))} {pa:Id}
 (hg:gd l tm op=some true) (hop:op.op=.call ⟨.value fx,#[x,y],tys⟩) (hd:op.dst=some d) (hdn:Nat.blt d n=true) (hfx:ev tm fx=.fn F []) (hF:ρ.f 6=F) (hte:ρ.t 24=te) (ht:ety E te=some de) (hag:de.k.isAgg=true) (hsz:de.size=k)
 (hx:ev tm x=.ref o 0 (rws cells ls).length) (hy:ev tm y=.fn g []) (ho:oget ob o=some (.rows k (rws cells ls) false))
 (hk:∀x,(cells x).length=k) (hn:∀x,(cells x).all V.num=true) (hcg:∀(xs:Array Value) (w:World),(callFunc g xs).run P w=.ok (.enter g xs) w) (hsc:∀a b v,cf a b=some v→SC P gl g [.agg (cells a),.agg (cells b)] (.int .i64 v)) (hs:sortO cf ls=some ss)
 (h:SafeOps r P gl l rest Q ⟨n,(d,.tup [])::tm,(o,.rows k (rws cells ss) false)::ob,out,pa⟩):SafeOps r P gl l (op::rest) Q ⟨n,tm,ob,out,pa⟩ :=
 SafeOps.done hg fun w0 pr0 ow a ao w B pr hsim K hK=>by
  obtain ⟨hO,h62,hss⟩:=sortO_some hs
  have hfx':=ev_rc hsim.tms fx
  rw [hfx] at hfx'
  obtain ⟨cs,hcs,hrc⟩:=hfx'.fn_inv
  cases hrc
  have hy':=ev_rc hsim.tms y
  rw [hy] at hy'
  obtain ⟨cs,hys,hrc⟩:=hy'.fn_inv
  cases hrc
  have hx':=ev_rc hsim.tms x
  rw [hx] at hx'
  have hent:∀(xs:Array Value) (w:World),(callFunc F xs).run P w=.ok (.enter F xs) w:=by
   rw [←hF];exact L.f6.enters rfl
  have hrun:=call_enter (P:=P) (w:=w) (a:=a) hop hcs hent
  unfold Oper.wp
  rw [hrun]
  simp only [List.map_cons,List.map_nil,List.append_nil,List.nil_append,hys]
  have hfin:∀w':World,Sim gl w0 pr0 ow ⟨n,tm,(o,.rows k (rws cells ss) false)::ob,out,pa⟩ a ao w' B pr→K (a.put op.dst (.tuple #[])) w':=fun w' h1=>by
   rw [hd]
   exact hK _ _ (h _ _ _ _ _ _ _ _ { h1 with tms:=h1.tms.put (show d < n by simpa using hdn) (v:=.tup []) (c:=.tuple #[]) (.tup .nil) })
  rw [rws_len] at hx'
  have hnone:∀(p:Option Addr) (cap:Nat) ,ls=[]→Calls P F #[.slice p 0 cap,.func (.func g) #[] #[]] w fun e w'=>e=.returned (.tuple #[])∧w'=w:=fun p cap _=>by
   rw [←hF];exact Go.Proofs.AnyF.slices_SortFunc_none L p cap _ w
  have hsame:ls=[]→Sim gl w0 pr0 ow ⟨n,tm,(o,.rows k (rws cells ss) false)::ob,out,pa⟩ a ao w B pr:=fun e=>by
   have:ss=ls:=by rw [hss,e];simp
   rw [this]
   refine Sim.eqv (σ:=⟨n,tm,ob,out,pa⟩) (τ:=⟨n,tm,(o,.rows k (rws cells ls) false)::ob,out,pa⟩) ⟨rfl,fun _=>rfl,fun o'=>?_,rfl,rfl⟩ hsim
   have hget:oget ((o,.rows k (rws cells ls) false)::ob) o'=if idEq o o' then some (.rows k (rws cells ls) false) else oget ob o':=by
    simp only [oget]
    split<;>simp_all
   simp only [hget]
   split
   ·rename_i e'
    rw [←idEq_iff.1 e'];exact ho
   ·rfl
  rcases hx'.ref_inv with ⟨h0,ad,hxe⟩|⟨bd,cap,hB,hlim,hcap,hxe⟩
  ·have e:ls=[]:=List.length_eq_zero_iff.1 h0
   rw [hxe]
   exact (hnone ad 0 e).mono fun e' w' ⟨he,hw⟩=>by rw [he,hw];exact hfin w (hsame e)
  ·obtain ⟨q1,q2,q3,q4,q5,q6⟩:=ref_bd hsim.q ho hB
   have hnp:¬pr bd.b:=fun hp=>by have:=q3.1 hp;cases this
   rw [rws_len] at q2
   rw [hxe,Nat.zero_mul,Nat.add_zero]
   have hH:=holds_of_rcr (lim:=bd.lim) hk hn q6 (by have:=q5 rfl;exact this) q2
   have hcl:=cmp_lays (gl:=gl) (f:=cf) hn hO.all hsc hsim.pra hsim.glo (blk:=bd.b) (off:=bd.base) (k:=k) (size:=ls.toArray.size) hnp q4
   have hlen:ls.length=ls.toArray.size:=by simp
   have hC:=Go.Proofs.AnyQ.slices_SortFunc_total L k (fun w'=>by rw [hte];rw [←hag];exact isAgg_run (Env.ok hE ht) w') (fun w'=>by rw [hte,←hsz];exact ty_size (Env.ok hE ht) w') (encV cells) (fun x=>by rw [encV,List.length_map,hk]) (fun x v hv=>by
    obtain ⟨u,hu,rfl⟩:=List.mem_map.1 hv
    exact one_val (List.all_eq_true.1 (hn x) u hu)) _ hO.swo g #[] bd.b bd.base cap ls.toArray w hcg hcl hH q4 (by simpa using h62) hO.tot
   rw [hF,←hlen] at hC
   refine hC.mono fun e w' ⟨he,m,os,hw⟩=>?_
   rw [he]
   refine hfin w' ?_
   have hs':(ls.mergeSort fun x y=>!(Go.Proofs.ltOf fun a b=>(cf a b).getD 0) y x)=ss:=hss.symm
   rw [show ls.toArray.toList=ls from rfl,hs'] at hw
   have hlss:ss.length=ls.length:=sortO_len hs
   have hone:One w (Go.Sort.putRowK (encV cells) k (Go.Sort.ahead w m) bd.b bd.base ss.toArray) bd.b:=by
    refine ⟨rfl,rfl,rfl,Nat.le_add_right _ _,?_,fun i hi=>?_⟩
    ·unfold Go.Sort.putRowK;rw [Go.Sort.size_putRow];rfl
    ·unfold Go.Sort.putRowK Go.Sort.putRow Go.Sort.mapBlock
     show ((Go.Sort.ahead w m).heap.modify bd.b _)[i]?=_
     rw [Array.getElem?_modify,if_neg (Ne.symm hi)];rfl
   have hH2:Go.Sort.HoldsK (encV cells) k (Go.Sort.putRowK (encV cells) k (Go.Sort.ahead w m) bd.b bd.base ss.toArray) bd.b bd.base ss.toArray :=
    Go.Sort.holdsK_putRowK _ _ _ _ _ ls.toArray ss.toArray (Go.Sort.holdsK_ahead _ _ _ _ _ _ _ hH) (by simpa using hlss)
   have hth:(Go.Sort.putRowK (encV cells) k (Go.Sort.ahead w m) bd.b bd.base ss.toArray).there bd.b bd.base (bd.lim*k):=fun j hj=>by
    refine ⟨?_,?_⟩
    ·by_cases hjs:j < ss.length*k
     ·have:=(hH2 j (by simpa using hjs)).1
      rw [this];rfl
     ·unfold Go.Sort.putRowK
      rw [Go.Sort.cell?_putRow_other _ _ _ _ _ _ (.inr (.inr (by simp;omega)))]
      exact (q5 rfl j hj).1
    ·unfold Go.Sort.putRowK
     rw [Go.Sort.frozen?_putRow]
     exact (q5 rfl j hj).2
   have h1:=hsim.upd ho (x':=.rows k (rws cells ss) false) (by simp) (by simp) hB hnp hone ⟨q1,by rw [rws_len,hlss];exact q2,by simp [hnp],by rw [hone.size];exact q4,fun _=>hth,rcr_of_holds hk hn hH2⟩
   have h2:=h1.grow (w':=Go.Sort.grow (Go.Sort.putRowK (encV cells) k (Go.Sort.ahead w m) bd.b bd.base ss.toArray) os) (nw:=[]) ⟨rfl,rfl,rfl,Nat.le_refl _,by rw [Go.Sort.size_grow];omega,fun b hb=>Go.Sort.heap_grow_old _ _ hb,fun _ h=>h,fun _ h=>.inl h,fun b hb=>by rw [Go.Sort.size_grow];have:=h1.pra b hb;omega,fun _ _=>rfl,fun o x h=>(by cases h),fun o _ _ _ h=>absurd rfl h⟩ (fun o x h=>by cases h)
   rw [hw]
   exact h2
end Go.AM
namespace Go.Proofs.YtmlcinmdkhmjhaaGreat
open Go Go.Shelf Go.Proofs
def sortL201_ren:Go.Shelf.Ren:=⟨fun|6=>201|15=>247|14=>246|28=>279|29=>280|20=>271|21=>272|22=>273|23=>274|24=>275|25=>276|26=>277|27=>278|46=>294|47=>295|48=>296|49=>297|50=>298|57=>303|n=>n,fun|22=>38|24=>187|25=>202|3=>3|39=>153|0=>0|53=>225|55=>228|4=>4|46=>314|45=>313|50=>318|5=>5|9=>9|66=>331|70=>335|76=>341|77=>342|n=>n,fun|n=>n⟩
theorem sortL201:Go.Proofs.SlLaysF0.n6 Tryz.prog sortL201_ren:={
 mixed:=by kernel_rfl
 f6:=⟨Tryz.f201.name,by decide,Tryz.func201.trans (congrArg some (by kernel_rfl))⟩
 f14:=⟨Tryz.f246.name,by decide,Tryz.func246.trans (congrArg some (by kernel_rfl))⟩
 f15:=Tryz.func247.trans (congrArg some (by kernel_rfl))
 f20:=⟨Tryz.f271.name,by decide,Tryz.func271.trans (congrArg some (by kernel_rfl))⟩
 f21:=⟨Tryz.f272.name,by decide,Tryz.func272.trans (congrArg some (by kernel_rfl))⟩
 f22:=⟨Tryz.f273.name,by decide,Tryz.func273.trans (congrArg some (by kernel_rfl))⟩
 f23:=⟨Tryz.f274.name,by decide,Tryz.func274.trans (congrArg some (by kernel_rfl))⟩
 f24:=⟨Tryz.f275.name,by decide,Tryz.func275.trans (congrArg some (by kernel_rfl))⟩
 f25:=⟨Tryz.f276.name,by decide,Tryz.func276.trans (congrArg some (by kernel_rfl))⟩
 f26:=⟨Tryz.f277.name,by decide,Tryz.func277.trans (congrArg some (by kernel_rfl))⟩
 f27:=⟨Tryz.f278.name,by decide,Tryz.func278.trans (congrArg some (by kernel_rfl))⟩
 f28:=Tryz.func279.trans (congrArg some (by kernel_rfl))
 f29:=Tryz.func280.trans (congrArg some (by kernel_rfl))
 f46:=⟨Tryz.f294.name,by decide,Tryz.func294.trans (congrArg some (by kernel_rfl))⟩
 f47:=Tryz.func295.trans (congrArg some (by kernel_rfl))
 f48:=Tryz.func296.trans (congrArg some (by kernel_rfl))
 f49:=⟨Tryz.f297.name,by decide,Tryz.func297.trans (congrArg some (by kernel_rfl))⟩
 f50:=⟨Tryz.f298.name,by decide,Tryz.func298.trans (congrArg some (by kernel_rfl))⟩
 f57:=⟨Tryz.f303.name,by decide,Tryz.func303.trans (congrArg some (by kernel_rfl))⟩
 t0:=Tryz.underlying0
 a0:=Tryz.isAgg0
 z0:=Tryz.sizeOf0
 v0:=Tryz.zeroValue0
 t3:=Tryz.underlying3
 a3:=Tryz.isAgg3
 z3:=Tryz.sizeOf3
 v3:=Tryz.zeroValue3
 t4:=Tryz.underlying4
 a4:=Tryz.isAgg4
 z4:=Tryz.sizeOf4
 v4:=Tryz.zeroValue4
 t5:=Tryz.underlying5
 a5:=Tryz.isAgg5
 z5:=Tryz.sizeOf5
 v5:=Tryz.zeroValue5
 t9:=Tryz.underlying9
 a9:=Tryz.isAgg9
 z9:=Tryz.sizeOf9
 v9:=Tryz.zeroValue9
 t22:=Tryz.underlying38
 a22:=Tryz.isAgg38
 z22:=Tryz.sizeOf38
 v22:=Tryz.zeroValue38
 t25:=Tryz.underlying202
 a25:=Tryz.isAgg202
 z25:=Tryz.sizeOf202
 v25:=Tryz.zeroValue202
 t39:=Tryz.underlying153
 a39:=Tryz.isAgg153
 z39:=Tryz.sizeOf153
 v39:=Tryz.zeroValue153
 t45:=Tryz.underlying313
 a45:=Tryz.isAgg313
 z45:=Tryz.sizeOf313
 v45:=Tryz.zeroValue313
 t46:=Tryz.underlying314
 a46:=Tryz.isAgg314
 z46:=Tryz.sizeOf314
 v46:=Tryz.zeroValue314
 t50:=Tryz.underlying318
 a50:=Tryz.isAgg318
 z50:=Tryz.sizeOf318
 v50:=Tryz.zeroValue318
 t53:=Tryz.underlying225
 a53:=Tryz.isAgg225
 z53:=Tryz.sizeOf225
 v53:=Tryz.zeroValue225
 t55:=Tryz.underlying228
 a55:=Tryz.isAgg228
 z55:=Tryz.sizeOf228
 v55:=Tryz.zeroValue228
 t66:=Tryz.underlying331
 a66:=Tryz.isAgg331
 z66:=Tryz.sizeOf331
 v66:=Tryz.zeroValue331
 t70:=Tryz.underlying335
 a70:=Tryz.isAgg335
 z70:=Tryz.sizeOf335
 v70:=Tryz.zeroValue335
 t76:=Tryz.underlying341
 a76:=Tryz.isAgg341
 z76:=Tryz.sizeOf341
 v76:=Tryz.zeroValue341
 t77:=Tryz.underlying342
 a77:=Tryz.isAgg342
 z77:=Tryz.sizeOf342
 v77:=Tryz.zeroValue342 }
end Go.Proofs.YtmlcinmdkhmjhaaGreat
