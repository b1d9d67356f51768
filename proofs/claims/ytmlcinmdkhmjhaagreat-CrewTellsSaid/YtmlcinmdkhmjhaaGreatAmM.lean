/- Helper lemmas for the claim's theorem: an abstract machine over the model, proved sound; no condition beyond each lemma's own. -/
import Derived.Test.YtmlcinmdkhmjhaaGreatAmL
import Derived.Laws.IdiomCopy
set_option linter.unusedVariables false
set_option linter.unusedSimpArgs false
set_option linter.unnecessarySimpa false
set_option linter.unusedSectionVars false
namespace Go.AM
open Go Go.RowKit
variable {r:Bool} {P:Program} {E:Env} {gl:List (Nat×List V)}
def putRows (rs:List (List V)) (row:Nat) (us:List (List V)):List (List V):=rs.take row++us++rs.drop (row+us.length)
theorem putRows_length {rs:List (List V)} {row:Nat} {us:List (List V)} (h:row+us.length≤rs.length):(putRows rs row us).length=rs.length:=by
 simp only [putRows,List.length_append,List.length_take,List.length_drop];omega
theorem putRows_get {rs:List (List V)} {row:Nat} {us:List (List V)} (h:row+us.length≤rs.length) (i:Nat) :
 (putRows rs row us)[i]?=if i < row then rs[i]? else if i < row+us.length then us[i - row]? else rs[i]?:=by
 have ht:(rs.take row).length=row:=by rw [List.length_take];omega
 unfold putRows
 by_cases h1:i < row
 ·rw [if_pos h1,List.append_assoc,List.getElem?_append_left (by omega),List.getElem?_take,if_pos h1]
 ·rw [if_neg h1]
  by_cases h2:i < row+us.length
  ·rw [if_pos h2,List.append_assoc,List.getElem?_append_right (by omega),List.getElem?_append_left (by omega),ht]
  ·rw [if_neg h2,List.getElem?_append_right (by rw [List.length_append];omega),List.getElem?_drop]
   congr 1
   rw [List.length_append,ht];omega
theorem putRows_nil {rs:List (List V)} {row:Nat}:putRows rs row []=rs:=by simp [putRows]
theorem run_copy_any (w:World) (dT sT ty elem:Nat) {i:TypeInfo} (b o dLen dCap:Nat) (a:Addr) (sLen sCap k:Nat) (cs:List Value) (hu:P.underlying dT=some (.slice elem)) (hi:P.info? elem=some i) (hk:k=Nat.min sLen dLen) (hn:cs.length=k*i.size)
 (hsrc:∀j v,cs[j]?=some v→w.cell? (a.add j)=some v) (ht:w.there b o cs.length) (h1:∀v∈cs,v.oneCell'=true) :
 (Builtin.copy_ #[dT,sT] ty #[.slice (some ⟨b,o,none⟩) dLen dCap,.slice (some a) sLen sCap]).run P w=.ok (goInt k) (w.setCells b o cs):=by
 have hl:=run_loadCells_list (P:=P) w a cs hsrc
 have hst:=run_storeCells_cells (P:=P) b o cs 0 w (fun j hj=>by simpa using (ht j hj).1) (fun j hj=>by simpa using (ht j hj).2) h1
 simp only [Nat.add_zero] at hst
 subst hk
 simp [Builtin.copy_,run_underlying hu,Builtin.lenOf,Builtin.firstCells,sizeOf,typeInfo,hi,←hn,hl,hst]
theorem run_copy_0 (w:World) (dT sT ty elem:Nat) {i:TypeInfo} (d a:Option Addr) (dLen dCap sLen sCap:Nat) (hu:P.underlying dT=some (.slice elem)) (hi:P.info? elem=some i) (hk:Nat.min sLen dLen=0) :
 (Builtin.copy_ #[dT,sT] ty #[.slice d dLen dCap,.slice a sLen sCap]).run P w=.ok (goInt 0) w:=by
 have hl:∀(x:Addr),(loadCells x 0).run P w=.ok #[] w:=fun x=>by simpa using run_loadCells_list (P:=P) w x [] (by simp)
 cases d<;>cases a<;>simp [Builtin.copy_,run_underlying hu,Builtin.lenOf,Builtin.firstCells,sizeOf,typeInfo,hi,hk,storeCells,hl]
theorem copy_any {w0:World} {pr0 ow:Nat→Prop} {n:Nat} {tm:List (Nat×V)} {ob:List (Id×Obj)} {out:List (Nat×List (Nat×V))} {pa:Id} {a:Act} {ao:List (Array Value)} {w:World} {B:BM} {pr:Nat→Prop}
 (h:Sim gl w0 pr0 ow ⟨n,tm,ob,out,pa⟩ a ao w B pr) (hE:E.good P=true) {t tx ty e sz bt:Nat} {z:List V} {de:Ty} (ht:ety E t=some ⟨.sli e,sz,bt,z⟩) (he:ety E e=some de)
 {o:Id} {row len k:Nat} {rs src:List (List V)} (ho:oget ob o=some (.rows de.size rs false)) (hfit:row+len≤rs.length) {vy:V} (hy:RowsOf ob vy de.size src) (hk:k=min src.length len) (h1:∀r∈src,V.ones r=true)
 {cx cy:Value} (hcx:RC w B pr (.ref o row len) cx) (hcy:RC w B pr vy cy) :
 ∃w',(Builtin.copy_ #[t,tx] ty #[cx,cy]).run P w=.ok (goInt k) w'∧Sim gl w0 pr0 ow ⟨n,tm,(o,.rows de.size (putRows rs row (src.take k)) false)::ob,out,pa⟩ a ao w' B pr:=by
 obtain ⟨u,hu,hft⟩:=ty_under (Env.ok hE ht)
 rw [fits_sli hft] at hu
 obtain ⟨i,ue,hi,_,hsz,_⟩:=(Env.ok hE he).ex
 obtain ⟨ay,cy',rfl,hcapy,hry⟩:=hy.rc h.q hcy
 have hx:∃ax cap,cx=.slice ax len cap∧(len=0∨∃bd,B o=some bd∧ax=some ⟨bd.b,bd.base+row*bd.s,none⟩):=by
  cases hcx with
  | base h=>cases h
  | ref hB hr hcap=>exact ⟨_,_,rfl,.inr ⟨_,hB,rfl⟩⟩
  | ref0=>exact ⟨_,_,rfl,.inl rfl⟩
 obtain ⟨ax,capx,rfl,hax⟩:=hx
 by_cases h0:k=0
 ·subst h0
  refine ⟨w,run_copy_0 w t tx ty e ax ay len capx src.length cy' hu hi hk.symm,?_⟩
  rw [List.take_zero,putRows_nil]
  have hob:∀q,oget ob q=oget ((o,Obj.rows de.size rs false)::ob) q:=fun q=>by
   simp only [oget]
   split
   ·rename_i e;rw [←idEq_iff.1 e];exact ho
   ·rfl
  exact Sim.eqv (σ:=⟨n,tm,ob,out,pa⟩) (τ:=⟨n,tm,(o,.rows de.size rs false)::ob,out,pa⟩) ⟨rfl,fun _=>rfl,hob,rfl,rfl⟩ h
 ·have hsl:src≠[]:=fun e=>h0 (by rw [hk,e];simp)
  obtain ⟨by',oy,rfl,hrr⟩:=hry.resolve_left hsl
  obtain ⟨bd,hB,rfl⟩:=hax.resolve_left (fun e=>h0 (by rw [hk,e];simp))
  rcases h.obs o _ ho with ⟨g1,_⟩|⟨_,⟨bd',g1,⟨k1,k2,k3,k4,k5,k6⟩,_⟩|⟨g1,_,_,_⟩⟩
  ·cases g1
  ·rw [hB] at g1;injection g1 with g1;subst g1
   have hnp:¬pr bd.b:=fun hb=>by cases k3.1 hb
   obtain ⟨cs,c1,c2,c3⟩:=(hrr.take k).flat
   have hkl:(src.take k).length=k:=by rw [List.length_take];omega
   rw [hkl] at c2
   have hkd:k≤len:=by omega
   rw [k1]
   have hrow:row*de.size+cs.length≤bd.lim*de.size:=by
    rw [c2,←Nat.add_mul];exact Nat.mul_le_mul_right _ (by omega)
   have hth:w.there bd.b (bd.base+row*de.size) cs.length:=there_part (k5 rfl) hrow
   have hones:∀v∈cs,v.oneCell'=true:=(RCl.of (B:=B) c3).one_cells (ones_flat (fun r hr=>h1 r (List.mem_of_mem_take hr)))
   refine ⟨_,run_copy_any w t tx ty e bd.b (bd.base+row*de.size) len capx _ src.length cy' k cs hu hi hk (by rw [hsz];exact c2) (fun j v hv=>by rw [Addr.add_mid];exact c1 j v hv) hth hones,?_⟩
   refine h.upd ho (by simp) (by simp) hB hnp (One.set ..) ?_
   have hlk:Like pr w (w.setCells bd.b (bd.base+row*de.size) cs):=fun b hb=>setCells_other _ _ _ _ _ (fun e=>hnp (e▸hb))
   have hpl:=putRows_length (rs:=rs) (row:=row) (us:=src.take k) (by rw [hkl];omega)
   have hmid:RCr (w.setCells bd.b (bd.base+row*de.size) cs) pr bd.b de.size (bd.base+row*de.size) (src.take k) :=
    RCr.unflat (hrr.take k).lens (World.rangeAt_setCells_same w _ _ cs hth) (c3.move hlk (fun _ h=>h))
   refine ⟨k1,by rw [hpl];exact k2,k3,by rw [setCells_size];exact k4,fun h=>World.there_setCells (k5 h) _ _ _,RCr.mk fun i r hi'=>?_⟩
   rw [putRows_get (by rw [hkl];omega),hkl] at hi'
   split at hi'
   ·rename_i hlt
    obtain ⟨ds,d1,d2,d3⟩:=k6.get hi'
    have hdl:=d3.length
    refine ⟨ds,World.rangeAt_setCells_apart d1 _ _ _ (.inr (.inl ?_)),d2,d3.move hlk (fun _ h=>h)⟩
    have:(i+1)*de.size≤row*de.size:=Nat.mul_le_mul_right _ hlt
    rw [Nat.add_mul] at this;omega
   ·rename_i hge
    split at hi'
    ·rename_i hlt
     obtain ⟨ds,d1,d2,d3⟩:=hmid.get hi'
     refine ⟨ds,?_,d2,d3⟩
     have e:bd.base+row*de.size+(i - row)*de.size=bd.base+i*de.size:=by
      rw [Nat.add_assoc,←Nat.add_mul];congr 2;omega
     rwa [e] at d1
    ·rename_i hge2
     obtain ⟨ds,d1,d2,d3⟩:=k6.get hi'
     refine ⟨ds,World.rangeAt_setCells_apart d1 _ _ _ (.inr (.inr ?_)),d2,d3.move hlk (fun _ h=>h)⟩
     have:(row+k)*de.size≤i*de.size:=Nat.mul_le_mul_right _ (by omega)
     rw [Nat.add_mul] at this;omega
  ·rw [hB] at g1;cases g1
theorem SafeOps.copy (hE:E.good P=true) {l rest:List Oper} {op:Oper} {Q:Exit→St→Prop} {n t tx e sz bt d:Nat} {x y:Operand} {z:List V} {de:Ty} {tm:List (Nat×V)} {ob:List (Id×Obj)} {out:List (Nat×List (Nat×V))} {pa:Id}
 {o:Id} {row len k:Nat} {rs src:List (List V)} (hg:gd l tm op=some true) (hop:op.op=.call ⟨.builtin .copy,#[x,y],#[t,tx]⟩) (hd:op.dst=some d) (hn:Nat.blt d n=true) (ht:ety E t=some ⟨.sli e,sz,bt,z⟩) (he:ety E e=some de)
 (hx:ev tm x=.ref o row len) (ho:oget ob o=some (.rows de.size rs false)) (hfit:row+len≤rs.length) (hy:RowsOf ob (ev tm y) de.size src) (hk:k=min src.length len) (h1:∀r∈src,V.ones r=true)
 (h:SafeOps r P gl l rest Q ⟨n,(d,.int .i64 (k:Nat))::tm,(o,.rows de.size (putRows rs row (src.take k)) false)::ob,out,pa⟩):SafeOps r P gl l (op::rest) Q ⟨n,tm,ob,out,pa⟩ :=
 SafeOps.done hg fun w0 pr0 ow a ao w B pr hsim K hK=>by
  have hcx:=ev_rc hsim.tms x
  rw [hx] at hcx
  obtain ⟨w',hrun,hs'⟩:=copy_any (P:=P) (tx:=tx) (ty:=op.type) hsim hE ht he ho hfit hy hk h1 hcx (ev_rc hsim.tms y)
  unfold Oper.wp execOp
  rw [hop]
  simp only [resolve,invoke,builtin,Sem.run_bind,Sem.run_pure,Result.andThen_ok,List.map_toArray,List.map_cons,List.map_nil,hrun,Oper.upon]
  rw [hd]
  exact hK _ _ (h _ _ _ _ _ _ _ _ { hs' with tms:=hs'.tms.put (by simpa using hn) (.base (.int _ _)) })
def cpn {α:Type} (xs:List α) (i:Int) (ys:List α):Int:=((min ys.length (xs.length - i.toNat):Nat):Int)
def cpy {α:Type} (xs:List α) (i:Int) (ys:List α):List α:=xs.take i.toNat++ys.take (min ys.length (xs.length - i.toNat))++xs.drop (i.toNat+min ys.length (xs.length - i.toNat))
theorem cpy_length {α:Type} {xs:List α} {i:Int} {ys:List α} (h:i.toNat≤xs.length):(cpy xs i ys).length=xs.length:=by
 simp only [cpy,List.length_append,List.length_take,List.length_drop];omega
theorem cpy_rws {α:Type} {f:α→List V} {xs:List α} {i:Int} {ys:List α}:putRows (rws f xs) i.toNat ((rws f ys).take (min (rws f ys).length (xs.length - i.toNat)))=rws f (cpy xs i ys):=by
 simp only [putRows,cpy,rws,List.map_append,List.map_take,List.map_drop,List.length_take,List.length_map]
 congr 3
 omega
theorem SafeOps.copyT {α:Type} (f:α→List V) (hE:E.good P=true) {l rest:List Oper} {op:Oper} {Q:Exit→St→Prop} {n t tx e sz bt d:Nat} {x y:Operand} {z:List V} {de:Ty} {tm:List (Nat×V)} {ob:List (Id×Obj)} {out:List (Nat×List (Nat×V))} {pa:Id}
 {o:Id} {s:Nat} {i j:Int} {xs:List α} (hg:gd l tm op=some true) (hop:op.op=.call ⟨.builtin .copy,#[x,y],#[t,tx]⟩) (hd:op.dst=some d) (hn:Nat.blt d n=true) (ht:ety E t=some ⟨.sli e,sz,bt,z⟩) (he:ety E e=some de)
 (hx:ev tm x=.ref o i.toNat (xs.length - i.toNat)) (ho:oget ob o=some (.rows s (rws f xs) false)) (hs:s=de.size) (hy:ev tm y=.ref o 0 j.toNat) (h1:∀a,V.ones (f a)=true) (hi:0≤i∧i≤(xs.length:Int)) (hj:0≤j∧j≤(xs.length:Int))
 (h:SafeOps r P gl l rest Q ⟨n,(d,.int .i64 (cpn xs i (sub xs 0 j)))::tm,(o,.rows s (rws f (cpy xs i (sub xs 0 j))) false)::ob,out,pa⟩):SafeOps r P gl l (op::rest) Q ⟨n,tm,ob,out,pa⟩:=by
 subst hs
 have hsl:(sub xs 0 j).length=j.toNat:=by simp [sub];omega
 have hsub:((rws f xs).drop 0).take j.toNat=rws f (sub xs 0 j):=by simp [sub,rws]
 refine SafeOps.copy hE hg hop hd hn ht he hx ho (src:=rws f (sub xs 0 j)) (k:=min (rws f (sub xs 0 j)).length (xs.length - i.toNat)) (by rw [rws_len];omega) ?_ rfl ?_ ?_
 ·rw [hy,←hsub]
  exact .part ho (by rw [rws_len];omega)
 ·intro q hq
  obtain ⟨a,_,rfl⟩:=List.mem_map.1 hq
  exact h1 a
 ·rw [cpy_rws,rws_len]
  exact h
theorem SafeOps.copyW {α:Type} (f:α→List V) (hE:E.good P=true) {l rest:List Oper} {op:Oper} {Q:Exit→St→Prop} {n t tx e sz bt d:Nat} {x y:Operand} {z:List V} {de:Ty} {tm:List (Nat×V)} {ob:List (Id×Obj)} {out:List (Nat×List (Nat×V))} {pa:Id}
 {o:Id} {s:Nat} {xs ys:List α} (hg:gd l tm op=some true) (hop:op.op=.call ⟨.builtin .copy,#[x,y],#[t,tx]⟩) (hd:op.dst=some d) (hn:Nat.blt d n=true) (ht:ety E t=some ⟨.sli e,sz,bt,z⟩) (he:ety E e=some de)
 (hx:ev tm x=.ref o 0 (rws f xs).length) (ho:oget ob o=some (.rows s (rws f xs) false)) (hs:s=de.size) (hy:RowsL f ob s (ev tm y) ys) (h1:∀a,V.ones (f a)=true)
 (h:SafeOps r P gl l rest Q ⟨n,(d,.int .i64 (cpn xs 0 ys))::tm,(o,.rows s (rws f (cpy xs 0 ys)) false)::ob,out,pa⟩):SafeOps r P gl l (op::rest) Q ⟨n,tm,ob,out,pa⟩:=by
 subst hs
 refine SafeOps.copy hE hg hop hd hn ht he hx ho (k:=min (rws f ys).length (xs.length - (0:Int).toNat)) (by omega) hy.of (by rw [rws_len f xs];rfl) ?_ ?_
 ·intro q hq
  obtain ⟨a,_,rfl⟩:=List.mem_map.1 hq
  exact h1 a
 ·have:=cpy_rws (f:=f) (xs:=xs) (i:=0) (ys:=ys)
  rw [show (0:Int).toNat=0 from rfl] at this ⊢
  rw [this,rws_len]
  exact h
theorem lenCp {α:Type} {f:α→List V} {xs:List α} {i:Int} {ys:List α} (h:0≤i∧i≤(xs.length:Int)):(rws f xs).length=(rws f (cpy xs i ys)).length:=by
 rw [rws_len,rws_len,cpy_length (by omega)]
theorem lenCp0 {α:Type} {f:α→List V} {xs ys:List α}:(rws f xs).length=(rws f (cpy xs 0 ys)).length:=lenCp ⟨by omega,by omega⟩
theorem QEv.litFM {α:Type} {f:α→List V} {xs:List α} {tm:List (Nat×V)} {ob:List (Id×Obj)} {id:Id} {t:Nat} {n:Nat} {parts:Array (Nat×Operand)} {e sz bt s:Nat} {z cells:List V} {de:Ty}
 (ht:ety E t=some ⟨.sli e,sz,bt,z⟩) (he:ety E e=some de) (hn:n*de.size≤16777216) (hc:fillV (fun i=>some (i*de.size,de.size)) (repV n de.zero) (evParts tm parts.toList)=some cells) (hf:V.free.frees cells=true) (h1:V.ones cells=true)
 (hr:NzR (chunkV de.size n cells) (rws f xs)) (hs:de.size=s) (h0:xs.isEmpty=false):QEv P E gl tm ob id (.buildSlice t n parts) (.sl s (rws f xs)) []:=by
 subst hs
 exact QEv.litF (P:=P) (gl:=gl) (ob:=ob) (id:=id) ht he hn hc hf h1 hr (by intro h;rw [List.map_eq_nil_iff] at h;rw [h] at h0;cases h0)
theorem QEv.litMN {α:Type} {f:α→List V} {xs:List α} {tm:List (Nat×V)} {ob:List (Id×Obj)} {id:Id} {t:Nat} {n:Nat} {parts:Array (Nat×Operand)} {e sz bt:Nat} {z cells:List V} {de:Ty}
 (ht:ety E t=some ⟨.sli e,sz,bt,z⟩) (he:ety E e=some de) (hn:n*de.size≤16777216) (hc:fillV (fun i=>some (i*de.size,de.size)) (repV n de.zero) (evParts tm parts.toList)=some cells) (hf:V.free.frees cells=true) (h1:V.ones cells=true)
 (hr:NzR (chunkV de.size n cells) (rws f xs)) (hl:(rws f xs).length=n) :
 QEv P E gl tm ob id (.buildSlice t n parts) (.ref id 0 (rws f xs).length) [(id,.rows de.size (rws f xs) false)]:=by
 rw [hl]
 exact QEv.lit (P:=P) (gl:=gl) (ob:=ob) (id:=id) ht he hn hc hf h1 hr
theorem QEv.makeMN {α:Type} {f:α→List V} {d:α} {tm:List (Nat×V)} {ob:List (Id×Obj)} {id:Id} {t:Nat} {l c:Operand} {e sz bt:Nat} {z:List V} {de:Ty} {k1 k2:IntKind} {n m:Int}
 (ht:ety E t=some ⟨.sli e,sz,bt,z⟩) (he:ety E e=some de) (hl:ev tm l=.int k1 n) (hc:ev tm c=.int k2 m) (hg:0≤n∧n≤m∧m≤549755813888) (hb:Nat.ble de.bytes 256=true) (hz:Nz de.zero (f d)) (hf:V.free.frees de.zero=true) :
 QEv P E gl tm ob id (.makeSlice t l c) (.ref id 0 (rws f (List.replicate n.toNat d)).length) [(id,.rows de.size (rws f (List.replicate n.toNat d)) false)]:=by
 have hb':=Nat.le_of_ble_eq_true hb
 have:=QEv.make (P:=P) (E:=E) (gl:=gl) (tm:=tm) (ob:=ob) (id:=id) ht he hl hc hg.1 hg.2.1 (by omega) (by
  have h0:0≤m:=by omega
  have h1:(de.bytes:Int)*m≤256*m:=Int.mul_le_mul_of_nonneg_right (by omega) h0
  omega) hf hz
 have e1:rws f (List.replicate n.toNat d)=List.replicate n.toNat (f d):=by simp [rws]
 rw [e1,List.length_replicate]
 exact this
end Go.AM
