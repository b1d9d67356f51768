/- Helper lemmas for the claim's theorem: an abstract machine over the model, proved sound; no condition beyond each lemma's own. -/
import Derived.Test.YtmlcinmdkhmjhaaGreatAmI
set_option linter.unusedVariables false
set_option linter.unusedSimpArgs false
set_option linter.unnecessarySimpa false
set_option linter.unusedSectionVars false
namespace Go.AM
open Go Go.RowKit
variable {r:Bool} {P:Program} {E:Env} {gl:List (Nat×List V)}
def frontBd (lo:Nat) (bd:Bd):Bd:=⟨bd.b,bd.base+lo*bd.s,bd.s,bd.lim - lo⟩
def frontB (o p:Id) (lo:Nat) (B:BM):BM:=fun x=>match idEq p x with|true=>(B o).map (frontBd lo)|false=>B x
theorem Sim.front {w0:World} {pr0 ow:Nat→Prop} {n:Nat} {tm:List (Nat×V)} {ob:List (Id×Obj)} {out:List (Nat×List (Nat×V))} {pa:Id} {a:Act} {ao:List (Array Value)} {w:World} {B:BM} {pr:Nat→Prop}
 (h:Sim gl w0 pr0 ow ⟨n,tm,ob,out,pa⟩ a ao w B pr) {o p:Id} {d s lo len:Nat} {rs:List (List V)} (ho:oget ob o=some (.rows s rs false)) (hp:oget ob p=none) (hd:tget tm d=.ref o lo len) :
 Sim gl w0 pr0 ow ⟨n,(d,.ref p 0 len)::tm,(p,.rows s (rs.drop lo) false)::(o,.dead)::ob,out,pa⟩ a ao w (frontB o p lo B) pr:=by
 have hop:o≠p:=fun e=>by rw [e,hp] at ho;cases ho
 have hBp:B p=none:=h.obn p hp
 have hB:∀x bd,B x=some bd→frontB o p lo B x=some bd:=fun x bd hx=>by
  unfold frontB
  split
  ·rename_i e;rw [←idEq_iff.1 e,hBp] at hx;cases hx
  ·exact hx
 have hBn:∀x,x≠p→frontB o p lo B x=B x:=fun x hx=>by
  unfold frontB
  split
  ·rename_i e;exact absurd (idEq_iff.1 e).symm hx
  ·rfl
 have hBP:frontB o p lo B p=(B o).map (frontBd lo):=by
  unfold frontB
  rw [idEq_iff.2 (rfl:p=p)]
 have hget:∀x,oget ((p,Obj.rows s (rs.drop lo) false)::(o,.dead)::ob) x=if p=x then some (.rows s (rs.drop lo) false) else if o=x then some .dead else oget ob x:=fun x=>by
  rw [oget_cons,oget_cons]
 have hl:Like pr w w:=Like.refl _ _
 have ob_:(∃bd,B o=some bd∧ObjAt w B pr bd (.rows s rs false)∧(ow bd.b∨w0.heap.size≤bd.b))∨(B o=none∧rs=[]):=by
  rcases h.obs o _ ho with ⟨g1,_⟩|⟨_,g|⟨g1,s',fz,e⟩⟩
  ·cases g1
  ·exact .inl g
  ·injection e with e1 e2 e3;exact .inr ⟨g1,e2⟩
 have key:∀(d:Nat) (c:Value),RC w B pr (.ref o lo len) c→RC w (frontB o p lo B) pr (.ref p 0 len) c:=fun _ c hc=>by
  cases hc with
  | base hc=>cases hc
  | ref0=>exact .ref0 _ _ _
  | ref ho' hr hc' =>
   rename_i cap bd
   have k:ObjAt w B pr bd (.rows s rs false):=by
    rcases ob_ with ⟨bd',g1,g2,_⟩|⟨g1,_⟩
    ·rw [ho'] at g1;injection g1 with g1;subst g1;exact g2
    ·rw [ho'] at g1;cases g1
   have e:(Value.slice (some ⟨bd.b,bd.base+lo*bd.s,none⟩) len cap)=.slice (some ⟨(frontBd lo bd).b,(frontBd lo bd).base+0*(frontBd lo bd).s,none⟩) len cap:=by simp [frontBd]
   rw [e]
   refine .ref (by rw [hBP,ho'];rfl) ?_ hc'
   simp only [frontBd];omega
 refine { h with dfr:=?_,tms:=?_,outs:=h.outs.move hl (fun _ h=>h) hB,obn:=fun x hx=>?_,obs:=fun x y hx=>?_,inj:=fun x y b1 b2 a1 a2 e1 e2 e3=>?_ }
 ·refine h.dfr.to fun r m=>⟨m.here,m.lo,m.np,fun x bd hx hb=>?_⟩
  simp only [hget] at hx
  by_cases h1:p=x
  ·subst h1
   rw [hBP] at hb
   cases hBo:B o with
   | none=>rw [hBo] at hb;cases hb
   | some bd0 =>
    rw [hBo] at hb
    injection hb with hb
    subst hb
    exact m.nb o bd0 (by rw [ho];simp) hBo
  ·rw [if_neg h1] at hx
   rw [hBn x (fun e=>h1 e.symm)] at hb
   by_cases h2:o=x
   ·rw [if_pos h2] at hx;exact absurd rfl hx
   ·rw [if_neg h2] at hx
    exact m.nb x bd hx hb
 ·refine ⟨h.tms.1,fun t=>?_⟩
  simp only [tget_put]
  split
  ·rename_i e
   subst e
   exact key d _ (by have hc:=h.tms.2 d;simp only [hd] at hc;exact hc)
  ·exact (h.tms.2 t).move hl (fun _ h=>h) hB
 ·simp only [hget] at hx
  by_cases h1:p=x
  ·rw [if_pos h1] at hx;cases hx
  ·rw [if_neg h1] at hx
   by_cases h2:o=x
   ·rw [if_pos h2] at hx;cases hx
   ·rw [if_neg h2] at hx
    rw [hBn x (fun e=>h1 e.symm)]
    exact h.obn x hx
 ·simp only [hget] at hx
  by_cases h1:p=x
  ·rw [if_pos h1] at hx
   subst h1
   injection hx with hx
   subst hx
   refine .inr ⟨by simp,?_⟩
   rcases ob_ with ⟨bd,g1,⟨k1,k2,k3,k4,k5,k6⟩,g3⟩|⟨g1,g2⟩
   ·refine .inl ⟨frontBd lo bd,by rw [hBP,g1];rfl,⟨k1,by rw [List.length_drop];simp only [frontBd];omega,k3,k4,fun _=>?_,?_⟩,g3⟩
    ·simp only [frontBd]
     by_cases hlo:lo≤bd.lim
     ·rw [k1]
      refine there_part (k5 rfl) ?_
      rw [←Nat.add_mul]
      exact Nat.mul_le_mul_right _ (by omega)
     ·rw [show bd.lim - lo=0 by omega,Nat.zero_mul]
      intro j hj;omega
    ·simp only [frontBd]
     rw [k1]
     exact k6.drop lo
   ·subst g2
    exact .inr ⟨by rw [hBP,g1];rfl,s,false,by simp⟩
  ·rw [if_neg h1] at hx
   by_cases h2:o=x
   ·rw [if_pos h2] at hx
    injection hx with hx
    subst hx
    subst h2
    refine .inl ⟨rfl,fun bd hb=>?_⟩
    rw [hBn _ (fun e=>h1 e.symm)] at hb
    rcases ob_ with ⟨bd',g1,g2,_⟩|⟨g1,_⟩
    ·rw [hb] at g1;injection g1 with g1;subst g1;exact g2.lt
    ·rw [hb] at g1;cases g1
   ·rw [if_neg h2] at hx
    rcases h.obs x y hx with ⟨g1,g2⟩|⟨g1,g⟩
    ·exact .inl ⟨g1,fun bd hb=>g2 bd (by rw [hBn x (fun e=>h1 e.symm)] at hb;exact hb)⟩
    ·refine .inr ⟨g1,?_⟩
     rcases g with ⟨bd,k1,k2,k3⟩|⟨k1,k2⟩
     ·exact .inl ⟨bd,hB x bd k1,k2.move rfl (Nat.le_refl _) hl (fun _ h=>h) (fun _ h=>.inl h) hB,k3⟩
     ·exact .inr ⟨by rw [hBn x (fun e=>h1 e.symm)];exact k1,k2⟩
 ·simp only [hget] at a1 a2
  have key:∀x bd,(if p=x then some (Obj.rows s (rs.drop lo) false) else if o=x then some .dead else oget ob x)≠some .dead→frontB o p lo B x=some bd →
   (p=x∧∃b0,B o=some b0∧b0.b=bd.b)∨(p≠x∧o≠x∧oget ob x≠some .dead∧B x=some bd):=fun x bd ha hb=>by
   by_cases h1:p=x
   ·refine .inl ⟨h1,?_⟩
    subst h1
    rw [hBP] at hb
    cases hBo:B o with
    | none=>rw [hBo] at hb;cases hb
    | some b0=>rw [hBo] at hb;injection hb with hb;subst hb;exact ⟨b0,rfl,rfl⟩
   ·rw [if_neg h1] at ha
    by_cases h2:o=x
    ·rw [if_pos h2] at ha;exact absurd rfl ha
    ·rw [if_neg h2] at ha
     rw [hBn x (fun e=>h1 e.symm)] at hb
     exact .inr ⟨h1,h2,ha,hb⟩
  rcases key x b1 a1 e1 with ⟨q1,b0,q2,q3⟩|⟨q1,q2,q3,q4⟩<;>rcases key y b2 a2 e2 with ⟨p1,b0',p2,p3⟩|⟨p1,p2,p3,p4⟩
  ·rw [←q1,←p1]
  ·exact absurd (h.inj o y b0 b2 (by rw [ho];simp) p3 q2 p4 (q3.trans e3)) p2
  ·exact absurd (h.inj x o b1 b0' q3 (by rw [ho];simp) q4 p2 (e3.trans p3.symm)).symm q2
  ·exact h.inj x y b1 b2 q3 p3 q4 p4 e3
theorem QEv.slRefT {α:Type} {f:α→List V} {xs:List α} {tm:List (Nat×V)} {ob:List (Id×Obj)} {id:Id} {t:Nat} {x lo:Operand} {e sz bt:Nat} {z:List V} {de:Ty} {o:Id} {k:IntKind} {n:Int}
 (ht:ety E t=some ⟨.sli e,sz,bt,z⟩) (he:ety E e=some de) (hx:ev tm x=.ref o 0 (rws f xs).length) (ho:oget ob o=some (.rows de.size (rws f xs) false)) (hh:ev tm lo=.int k n) (hb:0≤n∧n≤(xs.length:Int)) :
 QEv P E gl tm ob id (.slice t x (some lo) none none) (.ref o n.toNat (xs.length - n.toNat)) []:=by
 have:=QEv.slRef (P:=P) (gl:=gl) (id:=id) (lo:=some lo) (hi:=none) (l:=n.toNat) (h:=(rws f xs).length) ht he hx ho rfl (.lim hh hb.1) .no (by rw [rws_len];omega) (Nat.le_refl _)
 rw [rws_len] at this
 simpa using this
end Go.AM
