/- Helper lemmas for the claim's theorem: an abstract machine over the model, proved sound; no condition beyond each lemma's own. -/
import Derived.Test.YtmlcinmdkhmjhaaGreatAmC
import Derived.Orders
import Derived.Laws.IdiomCopy
import Derived.Deep.Upon
import Derived.Deep.AppendSrc
set_option linter.unusedVariables false
set_option linter.unusedSimpArgs false
set_option linter.unnecessarySimpa false
set_option linter.unusedSectionVars false
namespace Go.AM
open Go Go.RowKit
variable {P:Program} {E:Env} {gl:List (Nat×List V)}
theorem evs_move {tm tm':List (Nat×V)}:∀(l:List Operand),(∀x∈l,ev tm' x=ev tm x)→evs tm' l=evs tm l
 | [],_=>rfl
 | x::r,h=>by
  simp only [evs]
  rw [h x (List.mem_cons_self ..),evs_move r (fun y hy=>h y (List.mem_cons_of_mem _ hy))]
theorem evParts_move {tm tm':List (Nat×V)}:∀(l:List (Nat×Operand)),(∀x∈l.map (·.2),ev tm' x=ev tm x)→evParts tm' l=evParts tm l
 | [],_=>rfl
 | (i,x)::r,h=>by
  simp only [evParts]
  rw [h x (by simp),evParts_move r (fun y hy=>h y (by simp at hy ⊢;exact Or.inr hy))]
theorem evF_move {tm tm':List (Nat×V)} {op:Op} (hx:∀x∈op.operands,ev tm' x=ev tm x):evF E tm' op=evF E tm op:=by
 unfold evF
 split
 ·rw [hx _ (by simp [Op.operands])]
 ·rw [hx _ (by simp [Op.operands])]
 ·rw [hx _ (by simp [Op.operands]),hx _ (by simp [Op.operands]),hx _ (by simp [Op.operands])]
 ·rw [hx _ (by simp [Op.operands]),hx _ (by simp [Op.operands])]
 ·rw [hx _ (by simp [Op.operands])]
 ·rw [hx _ (by simp [Op.operands])]
 ·rw [hx _ (by simp [Op.operands])]
 ·rw [hx _ (by simp [Op.operands])]
 ·rename_i f first caps
  split
  ·rename_i hf
   rw [evs_move caps.toList (fun x h=>hx x (by simp [Op.operands] at h ⊢;simp [h]))]
  ·rfl
 ·rename_i t parts
  rw [evParts_move parts.toList (fun x h=>hx x (by simp [Op.operands] at h ⊢;exact h))]
 ·rw [hx _ (by simp [Op.operands])]
 ·rw [hx _ (by simp [Op.operands])]
 ·rename_i c
  obtain ⟨cal,args,tys⟩:=c
  have hargs:∀x∈args.toList,ev tm' x=ev tm x:=fun x h=>hx x (by simp [Op.operands,Call.operands];exact Or.inr (by simpa using h))
  simp only
  split
  ·split
   ·rename_i x t he1 he2
    rw [he1] at hargs
    rw [hargs x (by simp)]
   ·rfl
  ·split
   ·rename_i x y he
    rw [he] at hargs
    rw [hargs x (by simp),hargs y (by simp)]
   ·rfl
  ·split
   ·rename_i x y he
    rw [he] at hargs
    rw [hargs x (by simp),hargs y (by simp)]
   ·rfl
  ·rfl
 ·rfl
def ObLe (ob ob':List (Id×Obj)):Prop:=∀o x,oget ob o=some x→oget ob' o=some x
theorem CellsAt.mv {ob ob':List (Id×Obj)} (ho:ObLe ob ob') {p:V} {n:Nat} {cs:List V} (h:CellsAt gl ob p n cs):CellsAt gl ob' p n cs:=by
 cases h with
 | box h hc=>exact .box (ho _ _ h) hc
 | rows h hr hc=>exact .rows (ho _ _ h) hr hc
 | spt hr hc=>exact .spt hr hc
 | glob h hc=>exact .glob h hc
mutual
theorem Snap.mv {ob ob':List (Id×Obj)} (ho:ObLe ob ob'):∀{v u:V},Snap ob v u→Snap ob' v u
 | _,_,.free h=>.free h
 | _,_,.nils s=>.nils s
 | _,_,.emp s=>.emp s
 | _,_,.full h hl=>.full (ho _ _ h) hl
 | _,_,.part h hl=>.part (ho _ _ h) hl
 | _,_,.bref h hc hf=>.bref (ho _ _ h) hc hf
 | _,_,.box h hc=>.box (ho _ _ h) (Snaps.mv ho hc)
 | _,_,.row h=>.row (ho _ _ h)
 | _,_,.map h=>.map (ho _ _ h)
 | _,_,.agg h=>.agg (Snaps.mv ho h)
 | _,_,.fn h=>.fn (Snaps.mv ho h)
theorem Snaps.mv {ob ob':List (Id×Obj)} (ho:ObLe ob ob'):∀{vs us:List V},Snaps ob vs us→Snaps ob' vs us
 | _,_,.nil=>.nil
 | _,_,.cons h t=>.cons (Snap.mv ho h) (Snaps.mv ho t)
end
theorem Bnd.mv {tm tm':List (Nat×V)} {d:Nat} {x:Option Operand} {l:Nat} (hx:∀y,x=some y→ev tm' y=ev tm y) (h:Bnd tm d x l):Bnd tm' d x l:=by
 cases h with
 | no=>exact .no
 | lim h h0=>exact .lim ((hx _ rfl).trans h) h0
theorem QEv.mv {tm tm':List (Nat×V)} {ob ob':List (Id×Obj)} {id:Id} {op:Op} {v:V} {nw:List (Id×Obj)} (hx:∀x∈op.operands,ev tm' x=ev tm x) (ho:ObLe ob ob')
 (h:QEv P E gl tm ob id op v nw):QEv P E gl tm' ob' id op v nw:=by
 cases h with
 | fn h=>exact .fn ((evF_move hx).trans h)
 | pick hc =>
  rename_i c x y b
  rw [←hx x (by simp [Op.operands]),←hx y (by simp [Op.operands])]
  exact .pick ((hx c (by simp [Op.operands])).trans hc)
 | shrV h1 h2 h0=>exact .shrV ((hx _ (by simp [Op.operands])).trans h1) ((hx _ (by simp [Op.operands])).trans h2) h0
 | shlV h1 h2 h0=>exact .shlV ((hx _ (by simp [Op.operands])).trans h1) ((hx _ (by simp [Op.operands])).trans h2) h0
 | quoV h1 h2 h0=>exact .quoV ((hx _ (by simp [Op.operands])).trans h1) ((hx _ (by simp [Op.operands])).trans h2) h0
 | remV h1 h2 h0=>exact .remV ((hx _ (by simp [Op.operands])).trans h1) ((hx _ (by simp [Op.operands])).trans h2) h0
 | eqA hd ha h1 h2 hok he=>exact .eqA hd ha ((hx _ (by simp [Op.operands])).trans h1) ((hx _ (by simp [Op.operands])).trans h2) hok he
 | neA hd ha h1 h2 hok he=>exact .neA hd ha ((hx _ (by simp [Op.operands])).trans h1) ((hx _ (by simp [Op.operands])).trans h2) hok he
 | load hd h1 hc hm=>exact .load hd ((hx _ (by simp [Op.operands])).trans h1) (hc.mv ho) hm
 | idxRef ht he h1 h2 hs hi h0 h3=>exact .idxRef ht he ((hx _ (by simp [Op.operands])).trans h1) (ho _ _ h2) hs ((hx _ (by simp [Op.operands])).trans hi) h0 h3
 | idxSl ht he h1 hs hi h0 h3=>exact .idxSl ht he ((hx _ (by simp [Op.operands])).trans h1) hs ((hx _ (by simp [Op.operands])).trans hi) h0 h3
 | idxArr ht he h1 hi h0 h3=>exact .idxArr ht he ((hx _ (by simp [Op.operands])).trans h1) ((hx _ (by simp [Op.operands])).trans hi) h0 h3
 | idxArrG ht he h1 hi h0 h3=>exact .idxArrG ht he ((hx _ (by simp [Op.operands])).trans h1) ((hx _ (by simp [Op.operands])).trans hi) h0 h3
 | idxArrS ht he h1 hi h0 h3=>exact .idxArrS ht he ((hx _ (by simp [Op.operands])).trans h1) ((hx _ (by simp [Op.operands])).trans hi) h0 h3
 | idxV ht he h1 hi h0 h3 hc hm=>exact .idxV ht he ((hx _ (by simp [Op.operands])).trans h1) ((hx _ (by simp [Op.operands])).trans hi) h0 h3 hc hm
 | idxStr ht h1 hi h0 hc=>exact .idxStr ht ((hx _ (by simp [Op.operands])).trans h1) ((hx _ (by simp [Op.operands])).trans hi) h0 hc
 | slSl ht he h1 hs hl hh h3 h4 =>
  exact .slSl ht he ((hx _ (by simp [Op.operands])).trans h1) hs (hl.mv fun y hy=>hx y (by subst hy;simp [Op.operands])) (hh.mv fun y hy=>hx y (by subst hy;simp [Op.operands])) h3 h4
 | slSl3 ht he h1 hs hl hh hm h3 h4 h5 =>
  exact .slSl3 ht he ((hx _ (by simp [Op.operands])).trans h1) hs (hl.mv fun y hy=>hx y (by subst hy;simp [Op.operands])) (hh.mv fun y hy=>hx y (by injection hy with hy;subst hy;simp [Op.operands])) (hm.mv fun y hy=>hx y (by injection hy with hy;subst hy;simp [Op.operands])) h3 h4 h5
 | slRef ht he h1 h2 hs hl hh h3 h4 =>
  exact .slRef ht he ((hx _ (by simp [Op.operands])).trans h1) (ho _ _ h2) hs (hl.mv fun y hy=>hx y (by subst hy;simp [Op.operands])) (hh.mv fun y hy=>hx y (by subst hy;simp [Op.operands])) h3 h4
 | slEmp ht he h1 hlo hhi hmx =>
  exact .slEmp ht he (by rw [hx _ (by simp [Op.operands])];exact h1) ((hx _ (by simp [Op.operands])).trans hlo) ((hx _ (by simp [Op.operands])).trans hhi) ((hx _ (by simp [Op.operands])).trans hmx)
 | slArr ht he h1 h2 hc=>exact .slArr ht he ((hx _ (by simp [Op.operands])).trans h1) (ho _ _ h2) hc
 | box h1 h2=>exact .box (by rw [hx _ (by simp [Op.operands])];exact h1) h2
 | alloc hd h1=>exact .alloc hd h1
 | make ht he hl hc h0 h1 h2 h3 hf hz=>exact .make ht he ((hx _ (by simp [Op.operands])).trans hl) ((hx _ (by simp [Op.operands])).trans hc) h0 h1 h2 h3 hf hz
 | lit ht he hn hc hf h1 hz =>
  rename_i t n parts e sz bt z cells de rows
  exact .lit ht he hn (by rw [evParts_move parts.toList (fun x h=>hx x (by simp [Op.operands] at h ⊢;exact h))];exact hc) hf h1 hz
 | litF ht he hn hc hf h1 hz h0 =>
  rename_i t n parts e sz bt z cells de rows
  exact .litF ht he hn (by rw [evParts_move parts.toList (fun x h=>hx x (by simp [Op.operands] at h ⊢;exact h))];exact hc) hf h1 hz h0
 | mkMap=>exact .mkMap
 | look ht hk he hz hag h1 h2 hi hr=>exact .look ht hk he hz hag ((hx _ (by simp [Op.operands])).trans h1) (ho _ _ h2) (by rw [hx _ (by simp [Op.operands])];exact hi) (by rw [hx _ (by simp [Op.operands])];exact hr)
 | lenM ht h1 h2=>exact .lenM ht ((hx _ (by simp [Op.operands,Call.operands])).trans h1) (ho _ _ h2)
 | convB hs he hk hd h1=>exact .convB hs he hk hd (by rw [hx _ (by simp [Op.operands])];exact Snap.mv ho h1)
 | lenP ht h1=>exact .lenP ht ((hx _ (by simp [Op.operands,Call.operands])).trans h1)
 | lookP ht hk he hz hag h1 hi hr=>exact .lookP ht hk he hz hag ((hx _ (by simp [Op.operands])).trans h1) (by rw [hx _ (by simp [Op.operands])];exact hi) (by rw [hx _ (by simp [Op.operands])];exact hr)
 | callP hf hfr hs hr =>
  rename_i fx args tys f caps res k
  have e:=evs_move args.toList (fun x h=>hx x (by simp [Op.operands,Call.operands];exact Or.inr (by simpa using h)))
  rw [←e] at hfr hs
  exact .callP ((hx _ (by simp [Op.operands,Call.operands])).trans hf) hfr hs hr
 | callS hf hsn hs hns hr =>
  rename_i fx args tys f caps us res k
  have e:=evs_move args.toList (fun x h=>hx x (by simp [Op.operands,Call.operands];exact Or.inr (by simpa using h)))
  rw [←e] at hsn
  exact .callS ((hx _ (by simp [Op.operands,Call.operands])).trans hf) (hsn.mv ho) hs hns hr
end Go.AM
namespace Go.AM
open Go Go.RowKit
variable {r:Bool} {P:Program} {E:Env} {gl:List (Nat×List V)}
theorem setCells_size (b:Nat):∀(vs:List Value) (o:Nat) (w:World),(w.setCells b o vs).heap.size=w.heap.size
 | [],_,_=>rfl
 | v::r,o,w=>by
  rw [World.setCells,setCells_size b r]
  simp [World.setCell]
theorem setCells_drawn (b:Nat):∀(vs:List Value) (o:Nat) (w:World),(w.setCells b o vs).drawn=w.drawn
 | [],_,_=>rfl
 | v::r,o,w=>by
  rw [World.setCells,setCells_drawn b r]
  rfl
theorem setCells_tape (b:Nat):∀(vs:List Value) (o:Nat) (w:World),(w.setCells b o vs).tape=w.tape
 | [],_,_=>rfl
 | v::r,o,w=>by
  rw [World.setCells,setCells_tape b r]
  rfl
theorem setCells_other (b:Nat):∀(vs:List Value) (o:Nat) (w:World) (i:Nat),i≠b→(w.setCells b o vs).heap[i]?=w.heap[i]?
 | [],_,_,_,_=>rfl
 | v::r,o,w,i,h=>by
  rw [World.setCells,setCells_other b r _ _ i h]
  simp only [World.setCell]
  rw [Array.getElem?_modify,if_neg (Ne.symm h)]
structure One (w w':World) (b:Nat):Prop where
 os:w'.os=w.os
 tape:w'.tape=w.tape
 output:w'.output=w.output
 drawn:w.drawn≤w'.drawn
 size:w'.heap.size=w.heap.size
 block:∀i,i≠b→w'.heap[i]?=w.heap[i]?
theorem One.set (w:World) (b o:Nat) (vs:List Value):One w (w.setCells b o vs) b :=
 ⟨World.os_setCells ..,setCells_tape ..,World.output_setCells ..,by rw [setCells_drawn];exact Nat.le_refl _,setCells_size ..,setCells_other b vs o w⟩
theorem Sim.upd {w0:World} {pr0 ow:Nat→Prop} {n:Nat} {tm:List (Nat×V)} {ob:List (Id×Obj)} {out:List (Nat×List (Nat×V))} {pa:Id} {a:Act} {ao:List (Array Value)} {w w':World} {B:BM} {pr:Nat→Prop}
 (h:Sim gl w0 pr0 ow ⟨n,tm,ob,out,pa⟩ a ao w B pr) {o:Id} {x x':Obj} {bd:Bd} (ho:oget ob o=some x) (hx:x≠.dead) (hx':x'≠.dead) (hB:B o=some bd) (hnp:¬pr bd.b) (hw:One w w' bd.b)
 (h':ObjAt w' B pr bd x'):Sim gl w0 pr0 ow ⟨n,tm,(o,x')::ob,out,pa⟩ a ao w' B pr:=by
 have hl:Like pr w w':=fun b hb=>hw.block b (fun e=>hnp (e▸hb))
 have hB':∀o bd,B o=some bd→B o=some bd:=fun _ _ h=>h
 have hget:∀o',oget ((o,x')::ob) o'=if idEq o o' then some x' else oget ob o':=fun o'=>by
  simp only [oget]
  split<;>simp_all
 have hlo:ow bd.b∨w0.heap.size≤bd.b:=by
  rcases h.obs o x ho with ⟨g1,_⟩|⟨_,⟨bd',g1,_,g3⟩|⟨g1,_⟩⟩
  ·exact absurd g1 hx
  ·rw [hB] at g1;injection g1 with g1;subst g1;exact g3
  ·rw [hB] at g1;cases g1
 have key:∀o',oget ((o,x')::ob) o'≠some .dead→oget ob o'≠some .dead:=fun o' ha=>by
  rw [hget] at ha
  split at ha
  ·rename_i e
   have e:=idEq_iff.1 e
   subst e
   rw [ho];intro e;injection e with e;exact hx e
  ·exact ha
 have hdf:Dfr w0 w' ((o,x')::ob) B pr a.defers:=h.dfr.to fun r m=>⟨(hw.block r (fun e=>m.nb o bd (by simp only;rw [ho];intro e;injection e with e;exact hx e) hB e.symm)).trans m.here,m.lo,m.np,fun o' bd' hd hb=>m.nb o' bd' (key o' hd) hb⟩
 refine ⟨hdf,h.tms.move hl (fun _ h=>h) hB',h.outs.move hl (fun _ h=>h) hB',fun o' h1=>?_,fun o' y h1=>?_,fun o1 o2 b1 b2 a1 a2=>?_,fun b hb=>by rw [hw.size];exact h.pra b hb,h.prm,h.prn,h.glo.move hl (fun _ h=>h),?_⟩
 ·simp only [hget] at h1
  split at h1
  ·cases h1
  ·exact h.obn o' h1
 ·simp only [hget] at h1
  split at h1
  ·rename_i e
   have e:=idEq_iff.1 e
   subst e
   injection h1 with h1;subst h1
   exact .inr ⟨hx',.inl ⟨bd,hB,h',hlo⟩⟩
  ·rename_i e
   rcases h.obs o' y h1 with ⟨g1,g2⟩|⟨g1,g2⟩
   ·exact .inl ⟨g1,fun bd hb=>by rw [hw.size];exact g2 bd hb⟩
   ·refine .inr ⟨g1,?_⟩
    rcases g2 with ⟨bd',q1,q2,q3⟩|q
    ·have hne:bd'.b≠bd.b:=fun e'=>e (idEq_iff.2 (h.inj o o' bd bd' (by rw [ho];intro e;injection e with e;exact hx e) (by rw [h1];intro e;injection e with e;exact g1 e) hB q1 e'.symm))
     exact .inl ⟨bd',q1,q2.move (hw.block _ hne) (by rw [hw.size];exact Nat.le_refl _) hl (fun _ h=>h) (fun _ h=>.inl h) hB',q3⟩
    ·exact .inr q
 ·exact h.inj o1 o2 b1 b2 (key _ a1) (key _ a2)
 ·exact ⟨hw.os.trans h.kp.os,hw.tape.trans h.kp.tape,hw.output.trans h.kp.output,Nat.le_trans h.kp.drawn hw.drawn,by rw [hw.size];exact h.kp.size,fun b hb hob=>by
   rw [hw.block b (fun e=>?_)]
   ·exact h.kp.block b hb hob
   ·subst e
    rcases hlo with h1|h1
    ·exact hob h1
    ·omega⟩
theorem range_set {w:World} {b base off:Nat} {cs vs:List Value} (h:w.rangeAt b base cs) (ht:w.there b (base+off) vs.length) (hl:off+vs.length≤cs.length) :
 (w.setCells b (base+off) vs).rangeAt b base (putVals cs off vs):=fun j v hv=>by
 rw [putVals_get cs off vs j hl] at hv
 split at hv
 ·rename_i hj
  have h1:=World.rangeAt_setCells_same w b (base+off) vs ht (j - off) v hv
  rwa [show base+off+(j - off)=base+j by omega] at h1
 ·rename_i hj
  rw [World.cell?_setCells_out b vs (base+off) w ⟨b,base+j,none⟩ (fun _ _=>by simp only;omega)]
  exact h j v hv
theorem run_store (w:World) (b o:Nat) (t:Nat) (v:Value) (d:Ty) (hd:d.Ok P t) (hs:v.cells.toList.length=d.size) (ht:w.there b o v.cells.toList.length) (h1:∀c∈v.cells.toList,c.oneCell'=true) :
 (Instr.storeAt t (.pointer (some ⟨b,o,none⟩)) v).run P w=.ok () (w.setCells b o v.cells.toList):=by
 have hst:=run_storeCells_cells (P:=P) b o v.cells.toList 0 w (fun j hj=>by simpa using (ht j hj).1) (fun j hj=>by simpa using (ht j hj).2) h1
 simp only [Nat.add_zero] at hst
 have hsz:=ty_size hd w
 have hs':v.cells.size=d.size:=by simpa using hs
 simp only [Instr.storeAt,Instr.sureAddr,storeVar,Sem.run_bind,Sem.run_pure,Result.andThen_ok,hsz,hs',ne_eq,not_true_eq_false,if_false,hst]
theorem there_part {w:World} {b o n off m:Nat} (h:w.there b o n) (hl:off+m≤n):w.there b (o+off) m:=fun j hj=>by
 have:=h (off+j) (by omega)
 rwa [show o+(off+j)=o+off+j by omega] at this
theorem RCr.mk {w:World} {pr:Nat→Prop} {b s:Nat}:∀{rows:List (List V)} {base:Nat},(∀i row,rows[i]?=some row→∃cs,w.rangeAt b (base+i*s) cs∧row.length=s∧RCs w pr row cs)→RCr w pr b s base rows
 | [],_,_=>.nil ..
 | r::rs,base,h=>by
  obtain ⟨cs,h1,h2,h3⟩:=h 0 r rfl
  refine .cons (by simpa using h1) h2 h3 (RCr.mk fun i row hi=>?_)
  obtain ⟨cs,h1,h2,h3⟩:=h (i+1) row (by simpa using hi)
  exact ⟨cs,by rwa [Nat.add_mul,Nat.one_mul,Nat.add_comm (i*s) s,←Nat.add_assoc] at h1,h2,h3⟩
def putRow:List (List V)→Nat→Nat→List V→List (List V)
 | [],_,_,_=>[]
 | r::rs,0,off,us=>putCells r off us::rs
 | r::rs,n+1,off,us=>r::putRow rs n off us
theorem putRow_length (off:Nat) (us:List V):∀(rows:List (List V)) (n:Nat),(putRow rows n off us).length=rows.length
 | [],_=>rfl
 | r::rs,0=>rfl
 | r::rs,n+1=>by simp [putRow,putRow_length off us rs n]
theorem putRow_get (off:Nat) (us:List V):∀(rows:List (List V)) (n i:Nat),(putRow rows n off us)[i]?=if i=n then (rows[i]?).map (putCells · off us) else rows[i]?
 | [],n,i=>by simp [putRow]
 | r::rs,0,0=>by simp [putRow]
 | r::rs,0,i+1=>by simp [putRow]
 | r::rs,n+1,0=>by simp [putRow]
 | r::rs,n+1,i+1=>by simp [putRow,putRow_get off us rs n i]
theorem RCs.put {w:World} {pr:Nat→Prop}:∀{vs:List V} {cs:List Value} (_:RCs w pr vs cs) (n:Nat) {us:List V} {ds:List Value} (_:RCs w pr us ds),RCs w pr (putCells vs n us) (putVals cs n ds)
 | _,_,h,0,us,ds,k=>by
  simp only [putCells,putVals]
  rw [RCs.length k]
  exact k.append (h.drop _)
 | _,_,.nil,n+1,us,ds,k=>by simp only [putCells,putVals];exact .nil
 | _,_,.cons h t,n+1,us,ds,k=>by simp only [putCells,putVals];exact .cons h (RCs.put t n k)
inductive StoreAt (ob:List (Id×Obj)):V→List V→Id→Obj→Prop
 | box {o:Id} {off:Nat} {cells us:List V} (h:oget ob o=some (.box cells)) (hl:Nat.ble (off+us.length) cells.length=true):StoreAt ob (.ptr o 0 off) us o (.box (putCells cells off us))
 | rows {o:Id} {row off s:Nat} {rs:List (List V)} {us:List V} (h:oget ob o=some (.rows s rs false)) (hr:row < rs.length) (hl:Nat.ble (off+us.length) s=true) (hf:V.free.frees us=true):StoreAt ob (.ptr o row off) us o (.rows s (putRow rs row off us) false)
theorem StoreAt.run {w0:World} {pr0 ow:Nat→Prop} {n:Nat} {tm:List (Nat×V)} {ob:List (Id×Obj)} {out:List (Nat×List (Nat×V))} {pa:Id} {a:Act} {ao:List (Array Value)} {w:World} {B:BM} {pr:Nat→Prop}
 (h:Sim gl w0 pr0 ow ⟨n,tm,ob,out,pa⟩ a ao w B pr) {p:V} {us:List V} {o:Id} {x:Obj} (hst:StoreAt ob p us o x) {cp:Value} (hp:RC w B pr p cp) {cs:List Value} (hc:RCl w B pr us cs) :
 ∃b off,cp=.pointer (some ⟨b,off,none⟩)∧w.there b off cs.length∧Sim gl w0 pr0 ow ⟨n,tm,(o,x)::ob,out,pa⟩ a ao (w.setCells b off cs) B pr:=by
 cases hst with
 | box ho hl =>
  rename_i off cells
  obtain ⟨bd,hB,rfl⟩:=hp.ptr_inv
  rcases h.obs o _ ho with ⟨g1,_⟩|⟨_,⟨bd',g1,⟨k1,k2,k3,k4,k5,ds,k6,k7⟩,_⟩|⟨g1,_,_,e⟩⟩
  ·cases g1
  ·rw [hB] at g1;injection g1 with g1;subst g1
   have hlen:=hc.length
   have hlen':=k7.length
   have hl':off+us.length≤cells.length:=Nat.le_of_ble_eq_true hl
   simp only [Nat.zero_mul,Nat.add_zero]
   have ht:w.there bd.b (bd.base+off) cs.length:=there_part k5 (by omega)
   refine ⟨_,_,rfl,ht,h.upd ho (by simp) (by simp) hB k3 (One.set ..) ?_⟩
   have hlk:Like pr w (w.setCells bd.b (bd.base+off) cs):=fun b hb=>setCells_other _ _ _ _ _ (fun e=>k3 (e▸hb))
   have hpl:(putCells cells off us).length=cells.length:=by rw [(k7.put off hc).length,putVals_length _ _ _ (by omega),hlen']
   refine ⟨by rw [hpl];exact k1,k2,k3,by rw [setCells_size];exact k4,by rw [hpl];exact World.there_setCells k5 _ _ _,putVals ds off cs,range_set k6 ht (by omega),?_⟩
   exact (k7.put off hc).move hlk (fun _ h=>h) (fun _ _ h=>h)
  ·cases e
 | rows ho hr hl hf =>
  rename_i row off s rs
  obtain ⟨bd,hB,rfl⟩:=hp.ptr_inv
  rcases h.obs o _ ho with ⟨g1,_⟩|⟨_,⟨bd',g1,⟨k1,k2,k3,k4,k5,k6⟩,_⟩|⟨g1,_,_,e⟩⟩
  ·cases g1
  ·rw [hB] at g1;injection g1 with g1;subst g1
   have hnp:¬pr bd.b:=fun hb=>by cases k3.1 hb
   have hlen:=hc.length
   have hl':off+us.length≤s:=Nat.le_of_ble_eq_true hl
   have hcf:=RCl.free hf hc
   have hrow:row*s+s≤bd.lim*s:=by
    have:(row+1)*s≤bd.lim*s:=Nat.mul_le_mul_right _ (by omega)
    rw [Nat.add_mul] at this;omega
   rw [k1]
   have ht:w.there bd.b (bd.base+row*s+off) cs.length:=by
    rw [Nat.add_assoc]
    exact there_part (k5 rfl) (by omega)
   refine ⟨_,_,rfl,ht,h.upd ho (by simp) (by simp) hB hnp (One.set ..) ?_⟩
   have hlk:Like pr w (w.setCells bd.b (bd.base+row*s+off) cs):=fun b hb=>setCells_other _ _ _ _ _ (fun e=>hnp (e▸hb))
   refine ⟨k1,by rw [putRow_length];exact k2,k3,by rw [setCells_size];exact k4,fun h=>World.there_setCells (k5 h) _ _ _,RCr.mk fun i r hi=>?_⟩
   rw [putRow_get] at hi
   split at hi
   ·rename_i e
    subst e
    obtain ⟨r0,hr0,rfl⟩:=Option.map_eq_some_iff.1 hi
    obtain ⟨ds,d1,d2,d3⟩:=k6.get hr0
    have hdl:=d3.length
    refine ⟨putVals ds off cs,range_set d1 ht (by omega),?_,(d3.put off hcf).move hlk (fun _ h=>h)⟩
    rw [(d3.put off hcf).length,putVals_length _ _ _ (by omega)]
    omega
   ·rename_i e
    obtain ⟨ds,d1,d2,d3⟩:=k6.get hi
    have hdl:=d3.length
    refine ⟨ds,World.rangeAt_setCells_apart d1 _ _ _ (.inr ?_),d2,d3.move hlk (fun _ h=>h)⟩
    rcases Nat.lt_or_gt_of_ne e with h1|h1
    ·left
     have:(i+1)*s≤row*s:=Nat.mul_le_mul_right _ h1
     rw [Nat.add_mul] at this;omega
    ·right
     have:(row+1)*s≤i*s:=Nat.mul_le_mul_right _ h1
     rw [Nat.add_mul] at this;omega
  ·cases e
   simp at hr
theorem SafeOps.store (hE:E.good P=true) {l rest:List Oper} {op:Oper} {Q:Exit→St→Prop} {n t:Nat} {x y:Operand} {d:Ty} {tm:List (Nat×V)} {ob:List (Id×Obj)} {out:List (Nat×List (Nat×V))} {pa:Id} {us:List V} {o:Id} {z:Obj}
 (hg:gd l tm op=some true) (hop:op.op=.store t x y) (hd:op.dst=none) (ht:ety E t=some d) (hu:(ev tm y).cells?=some us) (hs:Nat.beq us.length d.size=true) (h1:V.ones us=true) (hst:StoreAt ob (ev tm x) us o z)
 (h:SafeOps r P gl l rest Q ⟨n,tm,(o,z)::ob,out,pa⟩):SafeOps r P gl l (op::rest) Q ⟨n,tm,ob,out,pa⟩ :=
 SafeOps.done hg fun w0 pr0 ow a ao w B pr hsim K hK=>by
  have hy:=(ev_rc hsim.tms y).cells hu
  obtain ⟨b,off,hp,hth,hsim'⟩:=hst.run hsim (ev_rc hsim.tms x) hy
  have hrun:=run_store (P:=P) w b off t (a.eval y) d (Env.ok hE ht) (by rw [←hy.length];exact Nat.eq_of_beq_eq_true hs) hth (hy.one_cells h1)
  unfold Oper.wp execOp
  rw [hop]
  simp only [hp,hrun,Sem.run_bind,Result.andThen_ok,Sem.run_pure,Oper.upon]
  rw [hd]
  exact hK _ _ (h _ _ _ _ _ _ _ _ hsim')
theorem retQ.cell {fn:Func} {res v u:V} {x t s:Nat} {d:Ty} {cs:List V} {n:Nat} {tm:List (Nat×V)} {ob:List (Id×Obj)} {out:List (Nat×List (Nat×V))} {pa:Id} {ids:List Id}
 (hr:fn.results.toList=[.cell x t,.tmp s]) (hd:ety E t=some d) (hc:CellsAt gl ob (tget tm x) d.size cs) (hm:mkV d.k.isAgg cs=some v) (hu:force (tget tm s)=some u) (h:Res ob (.tup [v,u]) res ids) (hn:ids.Nodup) :
 retQ E gl fn res .ret ⟨n,tm,ob,out,pa⟩ :=
 ⟨.inr rfl,[v,u],ids,by rw [hr];exact .cell rfl hd hc hm (.tmp (force_eq hu).symm .nil),h,hn⟩
structure Eqv (σ τ:St):Prop where
 n:σ.n=τ.n
 tm:∀t,tget σ.tm t=tget τ.tm t
 ob:∀o,oget σ.ob o=oget τ.ob o
 out:σ.out=τ.out
 pa:σ.pa=τ.pa
theorem Eqv.refl (σ:St):Eqv σ σ:=⟨rfl,fun _=>rfl,fun _=>rfl,rfl,rfl⟩
theorem Eqv.symm {σ τ:St} (h:Eqv σ τ):Eqv τ σ:=⟨h.n.symm,fun t=>(h.tm t).symm,fun o=>(h.ob o).symm,h.out.symm,h.pa.symm⟩
theorem Eqv.trans {σ τ υ:St} (h:Eqv σ τ) (k:Eqv τ υ):Eqv σ υ:=⟨h.n.trans k.n,fun t=>(h.tm t).trans (k.tm t),fun o=>(h.ob o).trans (k.ob o),h.out.trans k.out,h.pa.trans k.pa⟩
theorem Sim.eqv {σ τ:St} (h:Eqv σ τ) {w0:World} {pr0 ow:Nat→Prop} {a:Act} {ao:List (Array Value)} {w:World} {B:BM} {pr:Nat→Prop} (hs:Sim gl w0 pr0 ow σ a ao w B pr):Sim gl w0 pr0 ow τ a ao w B pr :=
 { hs with
  dfr:=hs.dfr.to fun r m=>⟨m.here,m.lo,m.np,fun o bd hd hb=>m.nb o bd (by rw [h.ob o];exact hd) hb⟩
  tms:=⟨h.n▸hs.tms.1,fun t=>h.tm t▸hs.tms.2 t⟩
  outs:=h.out▸hs.outs
  obn:=fun o ho=>hs.obn o ((h.ob o).trans ho)
  obs:=fun o x ho=>hs.obs o x ((h.ob o).trans ho)
  inj:=fun o o' bd bd' h1 h2=>hs.inj o o' bd bd' (by rw [h.ob o];exact h1) (by rw [h.ob o'];exact h2) }
theorem Sim.drew {σ:St} {w0:World} {pr0 ow:Nat→Prop} {a:Act} {ao:List (Array Value)} {w:World} {B:BM} {pr:Nat→Prop} (hs:Sim gl w0 pr0 ow σ a ao w B pr) (k:Nat) (hk:w.drawn≤k) :
 Sim gl w0 pr0 ow σ a ao { w with drawn:=k } B pr :=
 hs.grow (w':={ w with drawn:=k }) (nw:=[]) ⟨rfl,rfl,rfl,hk,Nat.le_refl _,fun _ _=>rfl,fun _ h=>h,fun _ h=>.inl h,hs.pra,fun _ _=>rfl,fun o x h=>(by cases h),fun o _ _ _ h=>absurd rfl h⟩ (fun o x h=>by cases h)
end Go.AM
namespace Go.AM
open Go Go.RowKit
variable {r:Bool} {P:Program} {E:Env} {gl:List (Nat×List V)}
theorem RCr.flat {w:World} {pr:Nat→Prop} {b s:Nat}:∀{rows:List (List V)} {off:Nat},RCr w pr b s off rows→∃cs,w.rangeAt b off cs∧cs.length=rows.length*s∧RCs w pr rows.flatten cs
 | _,off,.nil ..=>⟨[],fun j v h=>by simp at h,by simp,.nil⟩
 | _,off,.cons (cs:=cs) (rows:=rows) ha hl h t=>by
  obtain ⟨ds,h1,h2,h3⟩:=RCr.flat t
  have hlen:=h.length
  exact ⟨cs++ds,rangeAt_append' ha (by rwa [←hlen,hl]),by rw [List.length_append,h2,List.length_cons,Nat.add_mul];omega,by rw [List.flatten_cons];exact h.append h3⟩
where
 rangeAt_append' {w:World} {b:Nat} {xs ys:List Value} {o:Nat} (h1:w.rangeAt b o xs) (h2:w.rangeAt b (o+xs.length) ys):w.rangeAt b o (xs++ys):=fun j v hv=>by
  by_cases hj:j < xs.length
  ·rw [List.getElem?_append_left hj] at hv
   exact h1 j v hv
  ·rw [List.getElem?_append_right (by omega)] at hv
   have:=h2 (j - xs.length) v hv
   rwa [show o+xs.length+(j - xs.length)=o+j by omega] at this
theorem RCr.unflat {w:World} {pr:Nat→Prop} {b s:Nat}:∀{rows:List (List V)} {off:Nat} {cs:List Value},(∀r∈rows,r.length=s)→w.rangeAt b off cs→RCs w pr rows.flatten cs→RCr w pr b s off rows
 | [],off,cs,_,_,_=>.nil ..
 | r::rows,off,cs,hl,ha,h=>by
  rw [List.flatten_cons] at h
  have hr:=hl r (List.mem_cons_self ..)
  have h1:=h.take r.length
  have h2:=h.drop r.length
  rw [List.take_left] at h1
  rw [List.drop_left] at h2
  have hlen:=h1.length
  refine .cons (cs:=cs.take r.length) (fun j v hv=>?_) hr h1 (RCr.unflat (fun r hr=>hl r (List.mem_cons_of_mem _ hr)) (cs:=cs.drop r.length) (fun j v hv=>?_) h2)
  ·rw [List.getElem?_take] at hv
   split at hv
   ·exact ha j v hv
   ·cases hv
  ·rw [List.getElem?_drop] at hv
   have:=ha (r.length+j) v hv
   rwa [show off+s+j=off+(r.length+j) by omega]
theorem RCr.lens {w:World} {pr:Nat→Prop} {b s off:Nat} {rows:List (List V)} (h:RCr w pr b s off rows):∀r∈rows,r.length=s:=fun r hr=>by
 obtain ⟨i,hi⟩:=List.getElem?_of_mem hr
 obtain ⟨cs,_,h2,_⟩:=h.get hi
 exact h2
theorem RCr.app {w:World} {pr:Nat→Prop} {b s:Nat}:∀{xs ys:List (List V)} {off:Nat},RCr w pr b s off xs→RCr w pr b s (off+xs.length*s) ys→RCr w pr b s off (xs++ys)
 | _,ys,off,.nil ..,h=>by simpa using h
 | _,ys,off,.cons (rows:=rows) ha hl hc t,h=>.cons ha hl hc (RCr.app t (by
  rw [List.length_cons,Nat.add_mul,Nat.one_mul,Nat.add_comm (rows.length*s) s,←Nat.add_assoc] at h
  exact h))
inductive RowsOf (ob:List (Id×Obj)):V→Nat→List (List V)→Prop
 | sl (s:Nat) (rows:List (List V)):RowsOf ob (.sl s rows) s rows
 | nils (s:Nat):RowsOf ob .nils s []
 | emp (s:Nat):RowsOf ob .emp s []
 | full {o:Id} {s len:Nat} {rs:List (List V)} {fz:Bool} (h:oget ob o=some (.rows s rs fz)) (hl:len=rs.length):RowsOf ob (.ref o 0 len) s rs
 | part {o:Id} {s row len:Nat} {rs:List (List V)} {fz:Bool} (h:oget ob o=some (.rows s rs fz)) (hl:row+len≤rs.length):RowsOf ob (.ref o row len) s ((rs.drop row).take len)
theorem RowsOf.rc {n:Nat} {tm:List (Nat×V)} {ob:List (Id×Obj)} {ts:Array Value} {w:World} {B:BM} {pr:Nat→Prop} (q:QSim gl n tm ob ts w B pr) {v:V} {s:Nat} {rows:List (List V)} (h:RowsOf ob v s rows) {c:Value} (hc:RC w B pr v c) :
 ∃a cap,c=.slice a rows.length cap∧rows.length≤cap∧(rows=[]∨∃b off,a=some ⟨b,off,none⟩∧RCr w pr b s off rows):=by
 have hpart:∀{o:Id} {s row len:Nat} {rs:List (List V)} {fz:Bool},oget ob o=some (.rows s rs fz)→row+len≤rs.length→RC w B pr (.ref o row len) c →
  ∃a cap,c=.slice a ((rs.drop row).take len).length cap∧((rs.drop row).take len).length≤cap∧((rs.drop row).take len=[]∨∃b off,a=some ⟨b,off,none⟩∧RCr w pr b s off ((rs.drop row).take len)):=by
  intro o s row len rs fz ho hl hc
  have hlen:((rs.drop row).take len).length=len:=by rw [List.length_take,List.length_drop];omega
  rw [hlen]
  cases hc with
  | base h=>cases h
  | ref hB hr hcap =>
   rename_i cap bd
   refine ⟨_,_,rfl,hcap,.inr ⟨_,_,rfl,?_⟩⟩
   rcases q.obs _ _ ho (by simp) with ⟨bd',hB',⟨hs,_,_,_,_,hrc⟩,_⟩|⟨hB',_⟩
   ·rw [hB] at hB';injection hB' with hB';subst hB'
    rw [hs]
    exact (hrc.drop row).take len
   ·rw [hB] at hB';cases hB'
  | ref0=>exact ⟨_,_,rfl,Nat.le_refl _,.inl (by simp)⟩
 cases h with
 | sl =>
  cases hc with
  | base h=>cases h with
   | sl0=>exact ⟨_,_,rfl,Nat.zero_le _,.inl rfl⟩
   | sl hp hn hcap hr=>exact ⟨_,_,rfl,hcap,.inr ⟨_,_,rfl,hr⟩⟩
 | nils =>
  cases hc with
  | base h=>cases h;exact ⟨_,_,rfl,Nat.le_refl _,.inl rfl⟩
 | emp =>
  cases hc with
  | base h=>cases h;exact ⟨_,_,rfl,Nat.le_refl _,.inl rfl⟩
 | full ho hl =>
  subst hl
  have:=hpart ho (Nat.le_of_eq (Nat.zero_add _)) hc
  simpa using this
 | part ho hl=>exact hpart ho hl hc
theorem Sim.kill {w0:World} {pr0 ow:Nat→Prop} {n:Nat} {tm:List (Nat×V)} {ob:List (Id×Obj)} {out:List (Nat×List (Nat×V))} {pa:Id} {a:Act} {ao:List (Array Value)} {w:World} {B:BM} {pr:Nat→Prop}
 (h:Sim gl w0 pr0 ow ⟨n,tm,ob,out,pa⟩ a ao w B pr) {o:Id} {x:Obj} (ho:oget ob o=some x):Sim gl w0 pr0 ow ⟨n,tm,(o,.dead)::ob,out,pa⟩ a ao w B pr:=by
 have hget:∀o',oget ((o,Obj.dead)::ob) o'=if idEq o o' then some .dead else oget ob o':=fun o'=>by
  simp only [oget]
  split<;>simp_all
 have hdf:Dfr w0 w ((o,.dead)::ob) B pr a.defers:=h.dfr.to fun r m=>⟨m.here,m.lo,m.np,fun o' bd hd hb=>m.nb o' bd (by
  rw [hget] at hd
  split at hd
  ·exact absurd rfl hd
  ·exact hd) hb⟩
 refine { h with dfr:=hdf,obn:=fun o' h1=>?_,obs:=fun o' y h1=>?_,inj:=fun o1 o2 b1 b2 a1 a2=>?_ }
 ·simp only [hget] at h1
  split at h1
  ·cases h1
  ·exact h.obn o' h1
 ·simp only [hget] at h1
  split at h1
  ·injection h1 with h1;subst h1
   exact .inl ⟨rfl,fun bd hb=>h.lt hb⟩
  ·exact h.obs o' y h1
 ·have key:∀o',oget ((o,Obj.dead)::ob) o'≠some .dead→oget ob o'≠some .dead:=fun o' ha=>by
   rw [hget] at ha
   split at ha
   ·exact absurd rfl ha
   ·exact ha
  exact h.inj o1 o2 b1 b2 (key _ a1) (key _ a2)
theorem Sim.hand {w0:World} {pr0 ow:Nat→Prop} {n:Nat} {tm:List (Nat×V)} {ob:List (Id×Obj)} {out:List (Nat×List (Nat×V))} {pa:Id} {a:Act} {ao:List (Array Value)} {w:World} {B:BM} {pr:Nat→Prop}
 (h:Sim gl w0 pr0 ow ⟨n,tm,ob,out,pa⟩ a ao w B pr) {o id:Id} {s row:Nat} {rs:List (List V)} {bd:Bd} (ho:oget ob o=some (.rows s rs false)) (hB:B o=some bd) (hrow:row≤rs.length) (hf:oget ob id=none) :
 Sim gl w0 pr0 ow ⟨n,tm,(id,.rows s (rs.drop row) false)::(o,.dead)::ob,out,pa⟩ a ao w (AM.upd B id ⟨bd.b,bd.base+row*bd.s,bd.s,bd.lim - row⟩) pr:=by
 have hBn:B id=none:=h.obn id hf
 have hne:o≠id:=fun e=>by subst e;rw [ho] at hf;cases hf
 have hmono:=upd_mono (bd:=⟨bd.b,bd.base+row*bd.s,bd.s,bd.lim - row⟩) hBn
 have hl:Like pr w w:=Like.refl _ _
 have hget:∀o',oget ((id,Obj.rows s (rs.drop row) false)::(o,Obj.dead)::ob) o'=if idEq id o' then some (.rows s (rs.drop row) false) else if idEq o o' then some .dead else oget ob o':=fun o'=>by
  simp only [oget]
  split
  ·simp_all
  ·split<;>simp_all
 rcases h.obs o _ ho with ⟨g1,_⟩|⟨_,⟨bd',g1,⟨k1,k2,k3,k4,k5,k6⟩,glo⟩|⟨g1,_⟩⟩
 ·cases g1
 ·rw [hB] at g1;injection g1 with g1;subst g1
  have hdf:Dfr w0 w ((id,.rows s (rs.drop row) false)::(o,.dead)::ob) (AM.upd B id ⟨bd.b,bd.base+row*bd.s,bd.s,bd.lim - row⟩) pr a.defers:=h.dfr.to fun r m=>⟨m.here,m.lo,m.np,fun o' bd' hd hb=>by
   by_cases c:o'=id
   ·subst c
    rw [upd_self] at hb
    injection hb with hb;subst hb
    exact m.nb o bd (by simp only;rw [ho];simp) hB
   ·rw [upd_other _ _ c] at hb
    refine m.nb o' bd' ?_ hb
    rw [hget,if_neg (fun e=>c (idEq_iff.1 e).symm)] at hd
    split at hd
    ·exact absurd rfl hd
    ·exact hd⟩
  refine ⟨hdf,h.tms.move hl (fun _ h=>h) hmono,h.outs.move hl (fun _ h=>h) hmono,fun o' h1=>?_,fun o' y h1=>?_,fun o1 o2 b1 b2 a1 a2 e1 e2 e3=>?_,h.pra,h.prm,h.prn,h.glo,h.kp⟩
  ·rw [hget] at h1
   split at h1
   ·cases h1
   ·rename_i e
    split at h1
    ·cases h1
    ·rw [upd_other _ _ (fun e'=>e (idEq_iff.2 e'.symm))]
     exact h.obn o' h1
  ·rw [hget] at h1
   split at h1
   ·rename_i e
    obtain rfl:=idEq_iff.1 e
    injection h1 with h1;subst h1
    refine .inr ⟨by simp,.inl ⟨_,upd_self ..,⟨k1,?_,k3,k4,fun _=>?_,?_⟩,glo⟩⟩
    ·show (rs.drop row).length≤bd.lim - row
     rw [List.length_drop];omega
    ·refine there_part (k5 rfl) ?_
     show row*bd.s+(bd.lim - row)*s≤bd.lim*s
     rw [k1,←Nat.add_mul]
     exact Nat.mul_le_mul_right _ (by omega)
    ·have:=k6.drop row
     rw [k1]
     exact this
   ·rename_i e
    have hoid:o'≠id:=fun e'=>e (idEq_iff.2 e'.symm)
    split at h1
    ·injection h1 with h1;subst h1
     exact .inl ⟨rfl,fun bd hb=>h.lt (by rwa [upd_other _ _ hoid] at hb)⟩
    ·rcases h.obs o' y h1 with ⟨g1,g2⟩|⟨g1,g2⟩
     ·exact .inl ⟨g1,fun bd hb=>g2 bd (by rwa [upd_other _ _ hoid] at hb)⟩
     ·refine .inr ⟨g1,?_⟩
      rcases g2 with ⟨bd2,q1,q2,q3⟩|⟨q1,q2⟩
      ·exact .inl ⟨bd2,by rw [upd_other _ _ hoid];exact q1,q2.move rfl (Nat.le_refl _) hl (fun _ h=>h) (fun _ h=>.inl h) hmono,q3⟩
      ·exact .inr ⟨by rw [upd_other _ _ hoid];exact q1,q2⟩
  ·have key:∀o',o'≠id→oget ((id,Obj.rows s (rs.drop row) false)::(o,Obj.dead)::ob) o'≠some .dead→o'≠o∧oget ob o'≠some .dead:=fun o' hne ha=>by
    rw [hget,if_neg (fun e=>hne (idEq_iff.1 e).symm)] at ha
    split at ha
    ·exact absurd rfl ha
    ·rename_i e
     exact ⟨fun e'=>e (idEq_iff.2 e'.symm),ha⟩
   have hod:oget ob o≠some .dead:=by rw [ho];simp
   by_cases c1:o1=id
   ·by_cases c2:o2=id
    ·rw [c1,c2]
    ·exfalso
     obtain ⟨d1,d2⟩:=key _ c2 a2
     rw [c1,upd_self] at e1
     injection e1 with e1;subst e1
     rw [upd_other _ _ c2] at e2
     exact d1 (h.inj o2 o _ _ d2 hod e2 hB e3.symm)
   ·obtain ⟨d1,d2⟩:=key _ c1 a1
    by_cases c2:o2=id
    ·exfalso
     rw [c2,upd_self] at e2
     injection e2 with e2;subst e2
     rw [upd_other _ _ c1] at e1
     exact d1 (h.inj o1 o _ _ d2 hod e1 hB e3)
    ·obtain ⟨d3,d4⟩:=key _ c2 a2
     rw [upd_other _ _ c1] at e1
     rw [upd_other _ _ c2] at e2
     exact h.inj o1 o2 _ _ d2 d4 e1 e2 e3
 ·rw [hB] at g1;cases g1
inductive AppD (ob:List (Id×Obj)):V→Nat→List (List V)→List (Id×Obj)→Prop
 | nils (s:Nat):AppD ob .nils s [] []
 | emp (s:Nat):AppD ob .emp s [] []
 | full {o:Id} {s len:Nat} {rs:List (List V)} (h:oget ob o=some (.rows s rs false)) (hl:len=rs.length):AppD ob (.ref o 0 len) s rs [(o,.dead)]
 | part {o:Id} {s row len:Nat} {rs:List (List V)} (h:oget ob o=some (.rows s rs false)) (hl:row+len=rs.length):AppD ob (.ref o row len) s (rs.drop row) [(o,.dead)]
theorem append_none {t tx ty e e':Nat} {i:TypeInfo} {a:Option Addr} {x:Option Addr} {cx:Nat} {w:World} (ht:P.underlying t=some (.slice e)) (hx:P.underlying tx=some (.slice e')) (hi:P.info? e=some i) :
 (Builtin.append_ #[t,tx] ty #[.slice a 0 0,.slice x 0 cx]).run P w=.ok (.slice a 0 0) w:=by
 cases a<;>cases x<;>simp [Builtin.append_,run_underlying ht,run_underlying hx,sizeOf,typeInfo,hi,Builtin.lenOf,Builtin.firstCells,loadCells,loadCellsFrom,storeCells]
end Go.AM
namespace Go.AM
open Go Go.RowKit
variable {r:Bool} {P:Program} {E:Env} {gl:List (Nat×List V)}
theorem ones_flat:∀{rows:List (List V)},(∀r∈rows,V.ones r=true)→V.ones rows.flatten=true
 | [],_=>rfl
 | r::rs,h=>by
  rw [List.flatten_cons]
  have h1:=h r (List.mem_cons_self ..)
  have h2:=ones_flat (fun r hr=>h r (List.mem_cons_of_mem _ hr))
  clear h
  induction r with
  | nil=>exact h2
  | cons v r ih =>
   simp only [V.ones,Bool.and_eq_true,List.cons_append] at h1 ⊢
   exact ⟨h1.1,ih h1.2⟩
theorem flat_length {s:Nat}:∀{rows:List (List V)},(∀r∈rows,r.length=s)→rows.flatten.length=rows.length*s
 | [],_=>by simp
 | r::rs,h=>by
  rw [List.flatten_cons,List.length_append,h r (List.mem_cons_self ..),flat_length (fun r hr=>h r (List.mem_cons_of_mem _ hr)),List.length_cons,Nat.add_mul]
  omega
theorem append_src {n:Nat} {tm:List (Nat×V)} {ob:List (Id×Obj)} {ts:Array Value} {w:World} {B:BM} {pr:Nat→Prop} (q:QSim gl n tm ob ts w B pr) {v:V} {s:Nat} {rows:List (List V)} (h:RowsOf ob v s rows) {c:Value} (hc:RC w B pr v c)
 {tx e':Nat} (hk:P.underlying tx=some (.slice e')) (h1:∀r∈rows,V.ones r=true) :
 ∃nc,Src P s tx c rows.length nc w∧RCs w pr rows.flatten nc∧(∀r∈rows,r.length=s)∧(rows=[]→∃x cx,c=.slice x 0 cx):=by
 obtain ⟨a,cap,rfl,hcap,hr⟩:=h.rc q hc
 by_cases h0:rows=[]
 ·subst h0
  refine ⟨[],?_,.nil,by simp,fun _=>⟨_,_,rfl⟩⟩
  cases a with
  | none=>exact Src.ofNil w hk cap
  | some a=>exact Src.ofSlice w hk a 0 cap [] (by simp) (by simp) (by simp)
 ·obtain ⟨b,off,ha,hrr⟩:=hr.resolve_left h0
  subst ha
  obtain ⟨nc,n1,n2,n3⟩:=hrr.flat
  refine ⟨nc,Src.ofSlice w hk _ _ cap nc n2 (fun j u hu=>by rw [Addr.add_mid];exact n1 j u hu) ?_,n3,hrr.lens,fun h=>absurd h h0⟩
  exact (RCl.of (B:=B) n3).one_cells (ones_flat h1)
theorem append_grow {w0:World} {pr0 ow:Nat→Prop} {n:Nat} {tm:List (Nat×V)} {ob:List (Id×Obj)} {out:List (Nat×List (Nat×V))} {pa:Id} {a:Act} {ao:List (Array Value)} {w:World} {B:BM} {pr:Nat→Prop}
 (h:Sim gl w0 pr0 ow ⟨n,tm,ob,out,pa⟩ a ao w B pr) {id:Id} (hf:oget ob id=none) (hE:E.good P=true) {t tx ty e sz bt sz' bt' e':Nat} {z z':List V} {de:Ty}
 (ht:ety E t=some ⟨.sli e,sz,bt,z⟩) (htx:ety E tx=some ⟨.sli e',sz',bt',z'⟩) (he:ety E e=some de)
 {base:Option Addr} {sLen sCap:Nat} {olds rows:List (List V)} {oc nc:List Value} {x:Value}
 (hol:olds.length=sLen) (hol':∀r∈olds,r.length=de.size) (hoc:RCs w pr olds.flatten oc) (hold:(Builtin.firstCells de.size sLen (.slice base sLen sCap)).run P w.drew=.ok oc.toArray w.drew)
 (hs:Src P de.size tx x rows.length nc w) (hnc:RCs w pr rows.flatten nc) (hrl:∀r∈rows,r.length=de.size)
 (hg:sCap < sLen+rows.length) (h63:olds.length+rows.length≤9223372036854775807) (h48:(olds.length+rows.length)*de.bytes≤140737488355328) :
 ∃w' B' cv,(Builtin.append_ #[t,tx] ty #[.slice base sLen sCap,x]).run P w=.ok cv w'∧Sim gl w0 pr0 ow ⟨n,tm,(id,.rows de.size (olds++rows) false)::ob,out,pa⟩ a ao w' B' pr∧RC w' B' pr (.ref id 0 (olds.length+rows.length)) cv:=by
 obtain ⟨u,hu,hfit⟩:=ty_under (Env.ok hE ht)
 rw [fits_sli hfit] at hu
 obtain ⟨i,ue,hi,_,hsz,hby,_,_,hzl,zv,hzv,hjz,_⟩:=(Env.ok hE he).ex
 have hzsz:zv.cells.size=de.size:=by
  have:=(justs_rc (w:=w) (pr:=pr) hjz).length
  rw [hzl] at this
  simpa using this.symm
 subst hol
 have hcap:=grownCap_ge w (olds.length+rows.length) sCap e
 have hrun:=run_append_grow_src (P:=P) w t tx ty e i zv hu hi hzv base olds.length sCap oc (by rw [hsz];exact hold) x rows.length nc (by rw [hsz];exact hs) hg (by omega)
  (by
   have h1:Builtin.nextslicecap (olds.length+rows.length) sCap*i.bytes≤2*(olds.length+rows.length)*i.bytes:=Nat.mul_le_mul_right _ (nextslicecap_le hg)
   rw [hby] at h1 ⊢
   rw [Nat.mul_assoc] at h1
   omega)
 refine ⟨_,AM.upd B id ⟨w.heap.size,0,de.size,grownCap w (olds.length+rows.length) sCap e⟩,_,hrun,?_,?_⟩
 ·have hd:=h.drew (w.drawn+1) (Nat.le_succ _)
  have hBn:B id=none:=h.obn id hf
  have hlk:Like pr w (w.drew.alloc (.cells ((oc++nc).toArray++Builtin.zeroCells zv.cells (grownCap w (olds.length+rows.length) sCap e - (olds.length+rows.length))) e)):=fun b hb=>alloc_old _ _ (h.pra b hb)
  have hnl:nc.length=rows.length*de.size:=hs.newsLen
  have hol2:oc.length=olds.length*de.size:=by
   rw [←hoc.length]
   exact flat_length hol'
  refine hd.grow (nw:=[(id,.rows de.size (olds++rows) false)]) (Ext.new (w:=w.drew) hd.pra _ (by simp) ?_) (fun o y hy=>?_)
  ·refine ⟨rfl,by rw [List.length_append];exact hcap,⟨fun hp=>absurd (h.pra _ hp) (Nat.lt_irrefl _),fun hx=>(by cases hx)⟩,by rw [alloc_size];exact Nat.lt_succ_self _,fun _=>?_,?_⟩
   ·have h1:=there_new w.drew ((oc++nc).toArray++Builtin.zeroCells zv.cells (grownCap w (olds.length+rows.length) sCap e - (olds.length+rows.length))) e
    have hsize:((oc++nc).toArray++Builtin.zeroCells zv.cells (grownCap w (olds.length+rows.length) sCap e - (olds.length+rows.length))).size=grownCap w (olds.length+rows.length) sCap e*de.size:=by
     rw [Array.size_append,size_zeroCells,hzsz,List.size_toArray,List.length_append,hol2,hnl,←Nat.add_mul,←Nat.add_mul]
     congr 1
     omega
    rw [hsize] at h1
    exact h1
   ·refine RCr.unflat (cs:=oc++nc) (fun r hr=>?_) ?_ ?_
    ·rcases List.mem_append.1 hr with hr|hr
     ·exact hol' r hr
     ·exact hrl r hr
    ·have h1:=range_new w.drew ((oc++nc).toArray++Builtin.zeroCells zv.cells (grownCap w (olds.length+rows.length) sCap e - (olds.length+rows.length))) e
     intro j v hv
     refine h1 j v ?_
     have hj:=(List.getElem?_eq_some_iff.1 hv).1
     rw [Array.toList_append,List.toList_toArray,List.getElem?_append_left hj]
     exact hv
    ·rw [List.flatten_append]
     exact (hoc.append hnc).move hlk (fun _ h=>h)
  ·simp only [oget] at hy
   split at hy
   ·rename_i e
    rw [←idEq_iff.1 e];exact hf
   ·cases hy
 ·have:=RC.ref (w:=w.drew.alloc (.cells ((oc++nc).toArray++Builtin.zeroCells zv.cells (grownCap w (olds.length+rows.length) sCap e - (olds.length+rows.length))) e)) (pr:=pr) (row:=0) (len:=olds.length+rows.length) (cap:=grownCap w (olds.length+rows.length) sCap e)
   (upd_self B id ⟨w.heap.size,0,de.size,grownCap w (olds.length+rows.length) sCap e⟩) (by simp) hcap
  simpa using this
theorem Sim.empty {w0:World} {pr0 ow:Nat→Prop} {n:Nat} {tm:List (Nat×V)} {ob:List (Id×Obj)} {out:List (Nat×List (Nat×V))} {pa:Id} {a:Act} {ao:List (Array Value)} {w:World} {B:BM} {pr:Nat→Prop}
 (h:Sim gl w0 pr0 ow ⟨n,tm,ob,out,pa⟩ a ao w B pr) {id:Id} (hf:oget ob id=none) (s:Nat):Sim gl w0 pr0 ow ⟨n,tm,(id,.rows s [] false)::ob,out,pa⟩ a ao w B pr:=by
 have hBn:B id=none:=h.obn id hf
 have hget:∀o',oget ((id,Obj.rows s [] false)::ob) o'=if idEq id o' then some (.rows s [] false) else oget ob o':=fun o'=>by
  simp only [oget]
  split<;>simp_all
 have hdf:Dfr w0 w ((id,.rows s [] false)::ob) B pr a.defers:=h.dfr.to fun r m=>⟨m.here,m.lo,m.np,fun o' bd hd hb=>m.nb o' bd (by
  rw [hget] at hd
  split at hd
  ·rename_i e
   obtain rfl:=idEq_iff.1 e
   rw [hBn] at hb;cases hb
  ·exact hd) hb⟩
 refine { h with dfr:=hdf,obn:=fun o' h1=>?_,obs:=fun o' y h1=>?_,inj:=fun o1 o2 b1 b2 a1 a2 e1 e2 e3=>?_ }
 ·rw [hget] at h1
  split at h1
  ·cases h1
  ·exact h.obn o' h1
 ·rw [hget] at h1
  split at h1
  ·rename_i e
   obtain rfl:=idEq_iff.1 e
   injection h1 with h1;subst h1
   exact .inr ⟨by simp,.inr ⟨hBn,_,_,rfl⟩⟩
  ·exact h.obs o' y h1
 ·have key:∀o' b',B o'=some b'→oget ((id,Obj.rows s [] false)::ob) o'≠some .dead→oget ob o'≠some .dead:=fun o' b' hb ha=>by
   rw [hget] at ha
   split at ha
   ·rename_i e
    obtain rfl:=idEq_iff.1 e
    rw [hBn] at hb;cases hb
   ·exact ha
  exact h.inj o1 o2 b1 b2 (key _ _ e1 a1) (key _ _ e2 a2) e1 e2 e3
theorem append_any {w0:World} {pr0 ow:Nat→Prop} {n:Nat} {tm:List (Nat×V)} {ob kl:List (Id×Obj)} {out:List (Nat×List (Nat×V))} {pa:Id} {a:Act} {ao:List (Array Value)} {w:World} {B:BM} {pr:Nat→Prop}
 (h:Sim gl w0 pr0 ow ⟨n,tm,ob,out,pa⟩ a ao w B pr) {id:Id} (hf:oget ob id=none) (hE:E.good P=true) {t tx ty e sz bt sz' bt' e':Nat} {z z':List V} {de:Ty}
 (ht:ety E t=some ⟨.sli e,sz,bt,z⟩) (htx:ety E tx=some ⟨.sli e',sz',bt',z'⟩) (he:ety E e=some de)
 {vd vx:V} {olds rows:List (List V)} {cd cx:Value} (hd:AppD ob vd de.size olds kl) (hx:RowsOf ob vx de.size rows) (hcd:RC w B pr vd cd) (hcx:RC w B pr vx cx) (h1:∀r∈rows,V.ones r=true)
 (h63:olds.length+rows.length≤9223372036854775807) (h48:(olds.length+rows.length)*de.bytes≤140737488355328) :
 ∃w' B' cv,(Builtin.append_ #[t,tx] ty #[cd,cx]).run P w=.ok cv w'∧Sim gl w0 pr0 ow ⟨n,tm,(id,.rows de.size (olds++rows) false)::(kl++ob),out,pa⟩ a ao w' B' pr∧RC w' B' pr (.ref id 0 (olds.length+rows.length)) cv:=by
 obtain ⟨u,hu,hfit⟩:=ty_under (Env.ok hE ht)
 rw [fits_sli hfit] at hu
 obtain ⟨ux,hux,hfitx⟩:=ty_under (Env.ok hE htx)
 rw [fits_sli hfitx] at hux
 obtain ⟨i,ue,hi,_,hsz,_⟩:=(Env.ok hE he).ex
 obtain ⟨nc,hs,hnc,hrl,hnil⟩:=append_src (P:=P) h.q hx hcx hux h1
 have nowhere:∀ad:Option Addr,cd=.slice ad 0 0→olds=[]→(∀b,oget (kl++ob) b=none↔oget ob b=none)→Sim gl w0 pr0 ow ⟨n,tm,kl++ob,out,pa⟩ a ao w B pr →
  ∃w' B' cv,(Builtin.append_ #[t,tx] ty #[cd,cx]).run P w=.ok cv w'∧Sim gl w0 pr0 ow ⟨n,tm,(id,.rows de.size (olds++rows) false)::(kl++ob),out,pa⟩ a ao w' B' pr∧RC w' B' pr (.ref id 0 (olds.length+rows.length)) cv:=by
  rintro ad rfl rfl hfr hk
  have hf':=(hfr id).2 hf
  by_cases h0:rows=[]
  ·obtain ⟨x,c,rfl⟩:=hnil h0
   subst h0
   exact ⟨w,B,_,append_none hu hux hi,hk.empty hf' _,.ref0 ..⟩
  ·refine append_grow hk hf' hE ht htx he (oc:=[]) (sLen:=0) (sCap:=0) rfl (by simp) .nil ?_ hs hnc hrl (by
    have:0 < rows.length:=List.length_pos_iff.2 h0
    omega) h63 h48
   cases ad with
   | none=>exact run_firstCells_none w.drew de.size 0 0 0
   | some ad=>exact run_firstCells_some w.drew de.size 0 ad 0 0 [] (by simp) (by simp)
 have main:∀{o:Id} {row len:Nat} {rs:List (List V)},vd=.ref o row len→oget ob o=some (.rows de.size rs false)→row+len=rs.length→olds=rs.drop row→kl=[(o,.dead)] →
  ∃w' B' cv,(Builtin.append_ #[t,tx] ty #[cd,cx]).run P w=.ok cv w'∧Sim gl w0 pr0 ow ⟨n,tm,(id,.rows de.size (olds++rows) false)::(kl++ob),out,pa⟩ a ao w' B' pr∧RC w' B' pr (.ref id 0 (olds.length+rows.length)) cv:=by
  rintro o row len rs rfl ho hl rfl rfl
  have hoid:o≠id:=fun e=>by subst e;rw [ho] at hf;cases hf
  have hfr:∀b,oget ([(o,Obj.dead)]++ob) b=none↔oget ob b=none:=fun b=>by
   simp only [List.cons_append,List.nil_append,oget]
   split
   ·rename_i e
    obtain rfl:=idEq_iff.1 e
    simp [ho]
   ·exact Iff.rfl
  have hk:Sim gl w0 pr0 ow ⟨n,tm,[(o,.dead)]++ob,out,pa⟩ a ao w B pr:=h.kill ho
  have hlen:(rs.drop row).length=len:=by rw [List.length_drop];omega
  rcases hcd.ref_inv with ⟨rfl,ad,rfl⟩|⟨bd,cap,hB,hr,hc,rfl⟩
  ·exact nowhere ad rfl (List.eq_nil_of_length_eq_zero hlen) hfr hk
  ·rcases h.obs o _ ho with ⟨g1,_⟩|⟨_,⟨bd',g1,⟨k1,k2,k3,k4,k5,k6⟩,glo⟩|⟨g1,_⟩⟩
   ·cases g1
   ·rw [hB] at g1;injection g1 with g1;subst g1
    have hnp:¬pr bd.b:=fun hb=>by cases k3.1 hb
    have hnl:nc.length=rows.length*de.size:=hs.newsLen
    by_cases hroom:len+rows.length≤cap
    ·have hth:w.there bd.b (bd.base+rs.length*de.size) nc.length:=by
      refine there_part (k5 rfl) ?_
      rw [hnl,←Nat.add_mul]
      exact Nat.mul_le_mul_right _ (by omega)
     have hoff:bd.base+row*bd.s+len*i.size=bd.base+rs.length*de.size:=by
      rw [k1,hsz,Nat.add_assoc,←Nat.add_mul,hl]
     have hrun:=run_append_room_src (P:=P) w t tx ty e i hu hi bd.b (bd.base+row*bd.s) len cap cx rows.length nc (by rw [hsz];exact hs) hroom
      (fun j hj=>by rw [hoff];exact (hth j hj).1) (fun j hj=>by rw [hoff];exact (hth j hj).2)
     rw [hoff] at hrun
     have hone:=One.set w bd.b (bd.base+rs.length*de.size) nc
     have hlk:Like pr w (w.setCells bd.b (bd.base+rs.length*de.size) nc):=fun b hb=>hone.block b (fun e=>hnp (e▸hb))
     have hup:Sim gl w0 pr0 ow ⟨n,tm,(o,.rows de.size (rs++rows) false)::ob,out,pa⟩ a ao (w.setCells bd.b (bd.base+rs.length*de.size) nc) B pr:=by
      refine h.upd ho (by simp) (by simp) hB hnp hone ⟨k1,by rw [List.length_append];omega,k3,by rw [hone.size];exact k4,fun h=>World.there_setCells (k5 h) _ _ _,RCr.app (RCr.mk fun j r hj=>?_) ?_⟩
      ·obtain ⟨ds,d1,d2,d3⟩:=k6.get hj
       have hjl:=(List.getElem?_eq_some_iff.1 hj).1
       refine ⟨ds,World.rangeAt_setCells_apart d1 _ _ _ (.inr (.inl ?_)),d2,d3.move hlk (fun _ h=>h)⟩
       have:(j+1)*de.size≤rs.length*de.size:=Nat.mul_le_mul_right _ hjl
       rw [Nat.add_mul] at this
       have:=d3.length
       omega
      ·exact RCr.unflat hrl (World.rangeAt_setCells_same w _ _ nc hth) (hnc.move hlk (fun _ h=>h))
     have hget:oget ((o,Obj.rows de.size (rs++rows) false)::ob) o=some (.rows de.size (rs++rows) false):=by simp [oget,idEq_iff.2 rfl]
     have hf2:oget ((o,Obj.rows de.size (rs++rows) false)::ob) id=none:=by
      simp only [oget]
      split
      ·rename_i e;exact absurd (idEq_iff.1 e) hoid
      ·exact hf
     have hhand:=hup.hand hget hB (by rw [List.length_append];omega:row≤(rs++rows).length) hf2
     refine ⟨_,_,_,hrun,Sim.eqv (σ:=⟨n,tm,(id,.rows de.size ((rs++rows).drop row) false)::(o,.dead)::(o,.rows de.size (rs++rows) false)::ob,out,pa⟩) (τ:=⟨n,tm,(id,.rows de.size (rs.drop row++rows) false)::([(o,.dead)]++ob),out,pa⟩) ⟨rfl,fun _=>rfl,fun o'=>?_,rfl,rfl⟩ hhand,?_⟩
     ·rw [List.drop_append_of_le_length (by omega)]
      simp only [List.cons_append,List.nil_append,oget]
      split
      ·rfl
      ·split<;>rfl
     ·rw [hlen]
      have:=RC.ref (w:=w.setCells bd.b (bd.base+rs.length*de.size) nc) (pr:=pr) (row:=0) (len:=len+rows.length) (cap:=cap) (upd_self B id ⟨bd.b,bd.base+row*bd.s,bd.s,bd.lim - row⟩) (by show 0+cap≤bd.lim - row;omega) hroom
      simpa using this
    ·obtain ⟨oc,c1,c2,c3⟩:=((k6.drop row)).flat
     rw [hlen] at c2
     refine append_grow hk ((hfr id).2 hf) hE ht htx he hlen (k6.drop row).lens c3 (run_firstCells_some w.drew de.size len _ len cap oc c2 fun j v hv=>?_) hs hnc hrl (by omega) h63 h48
     rw [Addr.add_mid,k1]
     exact c1 j v hv
   ·rw [hB] at g1;cases g1
 cases hd with
 | nils =>
  cases hcd with
  | base h'=>cases h';exact nowhere none rfl rfl (fun _=>Iff.rfl) h
 | emp =>
  obtain ⟨ad,rfl⟩:=hcd.emp_inv
  exact nowhere ad rfl rfl (fun _=>Iff.rfl) h
 | full ho hl=>exact main rfl ho (by omega) (by simp) rfl
 | part ho hl=>exact main rfl ho hl rfl rfl
theorem SafeOps.append (hE:E.good P=true) {l rest:List Oper} {op:Oper} {Q:Exit→St→Prop} {n t tx e sz bt sz' bt' e' d m:Nat} {x y:Operand} {z z':List V} {de:Ty} {tm:List (Nat×V)} {ob kl:List (Id×Obj)} {out:List (Nat×List (Nat×V))} {pa:Id} {olds rows rs:List (List V)}
 (hg:gd l tm op=some true) (hop:op.op=.call ⟨.builtin .append,#[x,y],#[t,tx]⟩) (hd:op.dst=some d) (hn:Nat.blt d n=true)
 (ht:ety E t=some ⟨.sli e,sz,bt,z⟩) (htx:ety E tx=some ⟨.sli e',sz',bt',z'⟩) (he:ety E e=some de) (hf:oget ob (pa++[d])=none)
 (hx:AppD ob (ev tm x) de.size olds kl) (hy:RowsOf ob (ev tm y) de.size rows) (h1:∀r∈rows,V.ones r=true) (hrs:olds++rows=rs) (hm:rs.length=m) (h48:m*de.bytes≤140737488355328) (h63:m≤9223372036854775807)
 (h:SafeOps r P gl l rest Q ⟨n,(d,.ref (pa++[d]) 0 m)::tm,(pa++[d],.rows de.size rs false)::(kl++ob),out,pa⟩):SafeOps r P gl l (op::rest) Q ⟨n,tm,ob,out,pa⟩ :=
 SafeOps.done hg fun w0 pr0 ow a ao w B pr hsim K hK=>by
  subst hrs
  rw [List.length_append] at hm
  subst hm
  obtain ⟨w',B',cv,hrun,hs',hc'⟩:=append_any (P:=P) (ty:=op.type) hsim hf hE ht htx he hx hy (ev_rc hsim.tms x) (ev_rc hsim.tms y) h1 h63 h48
  unfold Oper.wp execOp
  rw [hop]
  simp only [resolve,invoke,builtin,Sem.run_bind,Sem.run_pure,Result.andThen_ok,List.map_toArray,List.map_cons,List.map_nil,hrun,Oper.upon]
  rw [hd]
  exact hK _ _ (h _ _ _ _ _ _ _ _ { hs' with tms:=hs'.tms.put (by simpa using hn) hc' })
end Go.AM
