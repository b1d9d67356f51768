/- Helper lemmas for the claim's theorem: an abstract machine over the model, proved sound; no condition beyond each lemma's own. -/
import Derived.Test.YtmlcinmdkhmjhaaGreatAmM
set_option linter.unusedVariables false
set_option linter.unusedSimpArgs false
set_option linter.unnecessarySimpa false
set_option linter.unusedSectionVars false
namespace Go.AM
open Go Go.RowKit
inductive Hi:Type 1
 | i (k:Nat) (a b:Hi)
 | s (k g:Nat) (a b:Hi)
 | r (k:Nat)
 | R (k:Nat)
 | n (k:Nat)
 | o (t:Hi)
 | k (t:Hi)
 | x (k:Nat) (t:Hi)
 | d (k:Nat) (t:Hi)
 | e (k:Nat) (t:Hi)
 | q (k:Nat) (t:Hi)
 | b {K:Type} (t:K→Hi)
 | c (k:Nat) {p:Prop} (h:p) (t:Hi)
 | v (k:Nat) {p:Prop} (h:p) {K:Type} (t:K→Hi)
 | C (k:Nat) {p:Prop} (h:p) (t:Hi)
 | V (k:Nat) {p:Prop} (h:p) {K:Type} (t:K→Hi)
 | y (k:Nat) {p q:Prop} (h:p) (h:q) (t:Hi)
 | B (k m d g:Nat) (b:Bool) (a c t:Hi)
 | O (k m d g:Nat) (b:Bool) (a c t:Hi)
 | M (k m d g:Nat) (t:Hi)
 | N (k m d g:Nat) (t:Hi)
 | K (k m:Nat)
 | D (k n:Nat) (z:List (Nat×Id)) (s:List Nat) (t:Hi)
 | A (f:Nat) (i:List Nat) (t:Hi)
 | X (i:Nat) (z:List Id) (t:Hi)
 | Y (i:Nat) (z:List Id) (t:Hi)
 | E (i:Nat) (z:List Id) (t:Hi)
 | f (k:Nat) (v:V) (t:Hi)
 | b2 {A B:Type} (t:A→B→Hi)
 | b3 {A B C:Type} (t:A→B→C→Hi)
 | b4 {A B C D:Type} (t:A→B→C→D→Hi)
 | g (k:Nat) {p:Prop} (h:p) (t:Hi)
 | G (k:Nat) {p:Prop} (h:p) (t:Hi)
 | T (k m d:Nat) {K:Type} (f:Bool→K) (t:{p:Prop}→p→Hi) (u:Bool→Hi)
 | U (k m g:Nat) {p:Prop} (h:p)
 | u (k m:Nat) {p:Prop} (h:p)
 | a (i:Nat) (t:Hi)
 | z (k:Nat) (t:Hi)
 | Q (k:Nat) (t:Hi)
 | P (i:Nat) (z:List Id) (t:Hi)
 | m (k:Nat) {A B:Type} (f:A→V) (g:B→V) (t:Hi)
 | L (k:Nat) {A:Type} (f:A→List V) (xs:List A) (t:Hi)
 | H (k:Nat) {A:Type} (f:A→List V) (a:A) (t:Hi)
 | p (k:Nat) (t:Hi)
 | pd (k:Nat) (t:Hi)
 | st (k:Nat) {A:Type} (y:A) (t:Hi)
 | h (k d:Nat) (u:V) (t:Hi)
 | hB (k:Nat) (o:Id) (cs:List V) (t:Hi)
 | fz (k:Nat) (o:Id) (t:Hi)
 | I (a b:Hi)
 | jr (k:Nat) {p:Prop} (h:p) (r:List (Id×Id))
 | jR (k:Nat) {p:Prop} (h:p) (r:List (Id×Id))
 | nr (k:Nat) (r:List (Id×Id))
 | oc (i:Nat) {p:Prop} (h:p) (t:Hi)
 | og (i:Nat) {p:Prop} (h:p) (t:Hi)
 | op (i:Nat) {p:Prop} (h:p) (t:Hi)
 | oh (i:Nat) {p:Prop} (h:p) (t:Hi)
 | oq (i:Nat) (t:Hi)
 | os (i:Nat) {A:Type} (y:A) (t:Hi)
 | oa (i:Nat) (t:Hi)
 | ap (k:Nat) (t:Hi)
 | ob (i:Nat) (t:Hi)
 | iv (k:Nat) (xs:List Int) (t:Hi)
 | nn
 | Z (t:Hi)
 | w (i:Nat) (t:Hi)
 | S (g:Nat) (a b:Hi)
 | j (k:Nat) {p:Prop} (h:p)
 | J (k:Nat) {p:Prop} (h:p)
 | l0 (k:Nat) (ts:List Nat) (us:List (List Nat)) (os:List Id) (τ:Unit→St→St) (t:Unit→Hi)
 | m0 (k:Nat) (es:List (Id×Nat)) (ts:List Nat) (us:List (List Nat)) (os:List Id) (τ:Unit→St→St) (t:Unit→Hi)
 | j0 (k m d:Nat) (ts:List Nat) (us:List (List Nat)) (os:List Id) {K:Type} (f:Unit→K) (τ:Unit→St→St) (t:Unit→Hi) (u:{p:Prop}→p→Hi)
 | l1 (k:Nat) (ts:List Nat) (us:List (List Nat)) (os:List Id) {A0:Type} (τ:A0→St→St) (t:A0→Hi)
 | m1 (k:Nat) (es:List (Id×Nat)) (ts:List Nat) (us:List (List Nat)) (os:List Id) {A0:Type} (τ:A0→St→St) (t:A0→Hi)
 | j1 (k m d:Nat) (ts:List Nat) (us:List (List Nat)) (os:List Id) {A0:Type} {K:Type} (f:A0→K) (τ:A0→St→St) (t:A0→Hi) (u:{p:Prop}→p→Hi)
 | l2 (k:Nat) (ts:List Nat) (us:List (List Nat)) (os:List Id) {A0 A1:Type} (τ:A0→A1→St→St) (t:A0→A1→Hi)
 | m2 (k:Nat) (es:List (Id×Nat)) (ts:List Nat) (us:List (List Nat)) (os:List Id) {A0 A1:Type} (τ:A0→A1→St→St) (t:A0→A1→Hi)
 | j2 (k m d:Nat) (ts:List Nat) (us:List (List Nat)) (os:List Id) {A0 A1:Type} {K:Type} (f:A0→A1→K) (τ:A0→A1→St→St) (t:A0→A1→Hi) (u:{p:Prop}→p→Hi)
 | l3 (k:Nat) (ts:List Nat) (us:List (List Nat)) (os:List Id) {A0 A1 A2:Type} (τ:A0→A1→A2→St→St) (t:A0→A1→A2→Hi)
 | m3 (k:Nat) (es:List (Id×Nat)) (ts:List Nat) (us:List (List Nat)) (os:List Id) {A0 A1 A2:Type} (τ:A0→A1→A2→St→St) (t:A0→A1→A2→Hi)
 | j3 (k m d:Nat) (ts:List Nat) (us:List (List Nat)) (os:List Id) {A0 A1 A2:Type} {K:Type} (f:A0→A1→A2→K) (τ:A0→A1→A2→St→St) (t:A0→A1→A2→Hi) (u:{p:Prop}→p→Hi)
 | l4 (k:Nat) (ts:List Nat) (us:List (List Nat)) (os:List Id) {A0 A1 A2 A3:Type} (τ:A0→A1→A2→A3→St→St) (t:A0→A1→A2→A3→Hi)
 | m4 (k:Nat) (es:List (Id×Nat)) (ts:List Nat) (us:List (List Nat)) (os:List Id) {A0 A1 A2 A3:Type} (τ:A0→A1→A2→A3→St→St) (t:A0→A1→A2→A3→Hi)
 | j4 (k m d:Nat) (ts:List Nat) (us:List (List Nat)) (os:List Id) {A0 A1 A2 A3:Type} {K:Type} (f:A0→A1→A2→A3→K) (τ:A0→A1→A2→A3→St→St) (t:A0→A1→A2→A3→Hi) (u:{p:Prop}→p→Hi)
 | l5 (k:Nat) (ts:List Nat) (us:List (List Nat)) (os:List Id) {A0 A1 A2 A3 A4:Type} (τ:A0→A1→A2→A3→A4→St→St) (t:A0→A1→A2→A3→A4→Hi)
 | m5 (k:Nat) (es:List (Id×Nat)) (ts:List Nat) (us:List (List Nat)) (os:List Id) {A0 A1 A2 A3 A4:Type} (τ:A0→A1→A2→A3→A4→St→St) (t:A0→A1→A2→A3→A4→Hi)
 | j5 (k m d:Nat) (ts:List Nat) (us:List (List Nat)) (os:List Id) {A0 A1 A2 A3 A4:Type} {K:Type} (f:A0→A1→A2→A3→A4→K) (τ:A0→A1→A2→A3→A4→St→St) (t:A0→A1→A2→A3→A4→Hi) (u:{p:Prop}→p→Hi)
 | l6 (k:Nat) (ts:List Nat) (us:List (List Nat)) (os:List Id) {A0 A1 A2 A3 A4 A5:Type} (τ:A0→A1→A2→A3→A4→A5→St→St) (t:A0→A1→A2→A3→A4→A5→Hi)
 | m6 (k:Nat) (es:List (Id×Nat)) (ts:List Nat) (us:List (List Nat)) (os:List Id) {A0 A1 A2 A3 A4 A5:Type} (τ:A0→A1→A2→A3→A4→A5→St→St) (t:A0→A1→A2→A3→A4→A5→Hi)
 | j6 (k m d:Nat) (ts:List Nat) (us:List (List Nat)) (os:List Id) {A0 A1 A2 A3 A4 A5:Type} {K:Type} (f:A0→A1→A2→A3→A4→A5→K) (τ:A0→A1→A2→A3→A4→A5→St→St) (t:A0→A1→A2→A3→A4→A5→Hi) (u:{p:Prop}→p→Hi)
 | l7 (k:Nat) (ts:List Nat) (us:List (List Nat)) (os:List Id) {A0 A1 A2 A3 A4 A5 A6:Type} (τ:A0→A1→A2→A3→A4→A5→A6→St→St) (t:A0→A1→A2→A3→A4→A5→A6→Hi)
 | j7 (k m d:Nat) (ts:List Nat) (us:List (List Nat)) (os:List Id) {A0 A1 A2 A3 A4 A5 A6:Type} {K:Type} (f:A0→A1→A2→A3→A4→A5→A6→K) (τ:A0→A1→A2→A3→A4→A5→A6→St→St) (t:A0→A1→A2→A3→A4→A5→A6→Hi) (u:{p:Prop}→p→Hi)
 | l8 (k:Nat) (ts:List Nat) (us:List (List Nat)) (os:List Id) {A0 A1 A2 A3 A4 A5 A6 A7:Type} (τ:A0→A1→A2→A3→A4→A5→A6→A7→St→St) (t:A0→A1→A2→A3→A4→A5→A6→A7→Hi)
 | j8 (k m d:Nat) (ts:List Nat) (us:List (List Nat)) (os:List Id) {A0 A1 A2 A3 A4 A5 A6 A7:Type} {K:Type} (f:A0→A1→A2→A3→A4→A5→A6→A7→K) (τ:A0→A1→A2→A3→A4→A5→A6→A7→St→St) (t:A0→A1→A2→A3→A4→A5→A6→A7→Hi) (u:{p:Prop}→p→Hi)
 | l9 (k:Nat) (ts:List Nat) (us:List (List Nat)) (os:List Id) {A0 A1 A2 A3 A4 A5 A6 A7 A8:Type} (τ:A0→A1→A2→A3→A4→A5→A6→A7→A8→St→St) (t:A0→A1→A2→A3→A4→A5→A6→A7→A8→Hi)
 | j9 (k m d:Nat) (ts:List Nat) (us:List (List Nat)) (os:List Id) {A0 A1 A2 A3 A4 A5 A6 A7 A8:Type} {K:Type} (f:A0→A1→A2→A3→A4→A5→A6→A7→A8→K) (τ:A0→A1→A2→A3→A4→A5→A6→A7→A8→St→St) (t:A0→A1→A2→A3→A4→A5→A6→A7→A8→Hi) (u:{p:Prop}→p→Hi)
 | l10 (k:Nat) (ts:List Nat) (us:List (List Nat)) (os:List Id) {A0 A1 A2 A3 A4 A5 A6 A7 A8 A9:Type} (τ:A0→A1→A2→A3→A4→A5→A6→A7→A8→A9→St→St) (t:A0→A1→A2→A3→A4→A5→A6→A7→A8→A9→Hi)
 | j10 (k m d:Nat) (ts:List Nat) (us:List (List Nat)) (os:List Id) {A0 A1 A2 A3 A4 A5 A6 A7 A8 A9:Type} {K:Type} (f:A0→A1→A2→A3→A4→A5→A6→A7→A8→A9→K) (τ:A0→A1→A2→A3→A4→A5→A6→A7→A8→A9→St→St) (t:A0→A1→A2→A3→A4→A5→A6→A7→A8→A9→Hi) (u:{p:Prop}→p→Hi)
 | l11 (k:Nat) (ts:List Nat) (us:List (List Nat)) (os:List Id) {A0 A1 A2 A3 A4 A5 A6 A7 A8 A9 A10:Type} (τ:A0→A1→A2→A3→A4→A5→A6→A7→A8→A9→A10→St→St) (t:A0→A1→A2→A3→A4→A5→A6→A7→A8→A9→A10→Hi)
 | j11 (k m d:Nat) (ts:List Nat) (us:List (List Nat)) (os:List Id) {A0 A1 A2 A3 A4 A5 A6 A7 A8 A9 A10:Type} {K:Type} (f:A0→A1→A2→A3→A4→A5→A6→A7→A8→A9→A10→K) (τ:A0→A1→A2→A3→A4→A5→A6→A7→A8→A9→A10→St→St) (t:A0→A1→A2→A3→A4→A5→A6→A7→A8→A9→A10→Hi) (u:{p:Prop}→p→Hi)
 | l12 (k:Nat) (ts:List Nat) (us:List (List Nat)) (os:List Id) {A0 A1 A2 A3 A4 A5 A6 A7 A8 A9 A10 A11:Type} (τ:A0→A1→A2→A3→A4→A5→A6→A7→A8→A9→A10→A11→St→St) (t:A0→A1→A2→A3→A4→A5→A6→A7→A8→A9→A10→A11→Hi)
 | j12 (k m d:Nat) (ts:List Nat) (us:List (List Nat)) (os:List Id) {A0 A1 A2 A3 A4 A5 A6 A7 A8 A9 A10 A11:Type} {K:Type} (f:A0→A1→A2→A3→A4→A5→A6→A7→A8→A9→A10→A11→K) (τ:A0→A1→A2→A3→A4→A5→A6→A7→A8→A9→A10→A11→St→St) (t:A0→A1→A2→A3→A4→A5→A6→A7→A8→A9→A10→A11→Hi) (u:{p:Prop}→p→Hi)
structure W (P:Program) (E:Env) (gl:List (Nat×List V)) (t:Hi) {K:Type} (o ρ:K) (Q:Exit→St→Prop) (c:Ctl) (σ:St):Prop where
 out:o=ρ→c.goal P E gl Q σ
structure WD (r:Bool) (P:Program) (E:Env) (gl:List (Nat×List V)) (t:Hi) {K:Type} (o ρ:K) (l:List Oper) (Z:List (Nat×Id)) (S:List Nat) (Q:St→Prop) (f:Nat) (listed:Array Bool) (σ:St):Prop where
 out:o=ρ→DAny r P E gl l Z S Q f listed σ
class Mx (P:Program):Prop where
 h:P.follows .mixedOrders=true
@[reducible] def St.t (d:Nat) (v:V) (s:St):St:=⟨s.n,(d,v)::s.tm,s.ob,s.out,s.pa⟩
@[reducible] def St.o (d:Id) (x:Obj) (s:St):St:=⟨s.n,s.tm,(d,x)::s.ob,s.out,s.pa⟩
def tgO (t:Nat):List (Nat×V)→Option V
 | []=>none
 | (d,v)::q=>match Nat.beq d t with
  | true=>some v
  | false=>tgO t q
def kpT:List Nat→List (Nat×V)→Option (List (Nat×V))
 | [],_=>some []
 | t::ts,tm=>match tgO t tm,kpT ts tm with
  | some v,some q=>some ((t,v)::q)
  | _,_=>none
def kpO:List Id→List (Id×Obj)→Option (List (Id×Obj))
 | [],_=>some []
 | o::os,ob=>match oget ob o,kpO os ob with
  | some x,some q=>some ((o,x)::q)
  | _,_=>none
def kpU:List (List Nat)→List (Nat×List (Nat×V))→Option (List (Nat×List (Nat×V)))
 | [],[]=>some []
 | ts::us,(n,tm)::s=>match kpT ts tm,kpU us s with
  | some q,some u=>some ((n,q)::u)
  | _,_=>none
 | _,_=>none
def kp (ts:List Nat) (us:List (List Nat)) (os:List Id):St→Option St
 | ⟨n,tm,ob,out,pa⟩=>match kpT ts tm,kpO os ob,kpU us out with
  | some tm',some ob',some out'=>some ⟨n,tm',ob',out',pa⟩
  | _,_,_=>none
def jt:Nat→Nat→Ctl→Option Ctl
 | 0,_,.code _ _ (.seq r y::s)=>some (adm 99 (.code r y s))
 | 1,d,.code _ _ s=>some (adm 99 (.out .normal (after d s)))
 | 1,d,.ops _ _ _ s=>some (adm 99 (.out .normal (after d s)))
 | 2,d,.ops r l rest s=>some (.ops r l (rest.drop d) s)
 | _,_,_=>none
def renL:List (Id×Id)→St→St
 | [],σ=>σ
 | (a,b)::r,⟨n,tm,ob,out,pa⟩=>renL r ⟨n,renT a b tm,renO a b ob,renOut a b out,pa⟩
theorem renL_gets {gl:List (Nat×List V)} {τ:St}:∀{r:List (Id×Id)} {σ:St},Gets gl (renL r σ) τ→Gets gl σ τ
 | [],_,h=>h
 | (a,b)::r,⟨_,_,_,_,_⟩,h=>.ren a b (renL_gets h)
def emL:List (Id×Nat)→St→Option St
 | [],σ=>some σ
 | (o,s)::r,⟨n,tm,ob,out,pa⟩=>match oget ob o with
  | none=>emL r ⟨n,tm,(o,.rows s [] false)::ob,out,pa⟩
  | some _=>none
theorem emL_gets {gl:List (Nat×List V)} {τ:St}:∀{r:List (Id×Nat)} {σ σ':St},emL r σ=some σ'→Gets gl σ' τ→Gets gl σ τ
 | [],_,_,h,g=>by cases h;exact g
 | (o,s)::r,⟨_,_,_,_,_⟩,σ',h,g=>by
  unfold emL at h
  split at h
  ·rename_i ho;exact .empty o s ho (emL_gets h g)
  ·cases h
def notOut:Ctl→Bool
 | .out ..=>false
 | _=>true
theorem Ctl.gets {P:Program} {E:Env} {gl:List (Nat×List V)} {Q:Exit→St→Prop} {σ τ:St} (hc:Gets gl σ τ):∀{c:Ctl},notOut c=true→c.goal P E gl Q τ→c.goal P E gl Q σ
 | .ops ..,_,h=>SafeOps.gets hc h
 | .code ..,_,h=>Safe.gets hc h
 | .out ..,hn,_=>by cases hn
section
variable {r:Bool} {P:Program} {E:Env} {gl:List (Nat×List V)} [hE:GoodE P E]
variable {K α:Type} {o ρ A B:K} {t t1 t0:Hi} {Q:Exit→St→Prop} {QD:St→Prop} {c c':Ctl} {σ σ':St} {k m g d n i f:Nat} {b bc:Bool} {l rest rest':List Oper} {s:List Fr} {x y:Code} {op:Oper} {tm tm1 tm0 tm':List (Nat×V)} {ob ob1 nw:List (Id×Obj)} {out:List (Nat×List (Nat×V))} {pa pb:Id} {Z:List (Nat×Id)} {S:List Nat} {listed:Array Bool} {opd fx ox oy:Operand} {is:List Nat} {args:Array Operand} {tys:Array Nat} {caps us:List V} {res v v1:V} {e:Exit}
theorem W.ti (h1:b=true→W P E gl t1 A ρ Q (.code r x s) ⟨n,tm,ob,out,pa⟩) (h0:b=false→W P E gl t0 B ρ Q (.code r y s) ⟨n,tm,ob,out,pa⟩)
 (hr:go E gl k c σ=some (.code r (.cond opd x y) s,⟨n,tm,ob,out,pa⟩):=by exact rfl) (hb:ev tm opd=.bool b:=by exact rfl):W P E gl (.i k t1 t0) (if b=true then A else B) ρ Q c σ :=
 ⟨fun h=>go_ok hE.h hr (Safe.ifC h (fun e h=>(h1 e).out h) (fun e h=>(h0 e).out h) hb)⟩
theorem W.ts (h1:b=true→W P E gl t1 A ρ Q (.ops r l rest s) ⟨n,(g,.bool true)::tm,ob,out,pa⟩) (h0:b=false→W P E gl t0 B ρ Q (.ops r l rest s) ⟨n,(g,.bool false)::tm,ob,out,pa⟩)
 (hr:go E gl k c σ=some (.ops r l rest s,⟨n,tm,ob,out,pa⟩):=by exact rfl) (hb:tget tm g=.bool b:=by exact rfl):W P E gl (.s k g t1 t0) (if b=true then A else B) ρ Q c σ :=
 ⟨fun h=>go_ok hE.h hr (SafeOps.ifD g h hb (fun e h=>(h1 e).out h) (fun e h=>(h0 e).out h))⟩
theorem W.tr {fn:Func} {vs:List V} (hq:o=ρ→oneV vs=res) (hr:go E gl k c σ=some (.out e [],⟨n,tm,ob,out,pa⟩):=by exact rfl) (hv:rvF E gl tm ob fn.results.toList=some vs:=by exact rfl) (hfr:(oneV vs).free=true:=by exact rfl) (he:isRet e=true:=by exact rfl) :
 W P E gl (.r k) o ρ (retQ E gl fn res) c σ :=
 ⟨fun h=>go_ok hE.h hr (retF hv (hq h) (by rw [←hq h];exact hfr) he)⟩
theorem W.tR {fn:Func} {vs:List V} (hq:o=ρ→∃ids,Res ob (oneV vs) res ids∧ids.Nodup) (hr:go E gl k c σ=some (.out e [],⟨n,tm,ob,out,pa⟩):=by exact rfl) (hv:rvF E gl tm ob fn.results.toList=some vs:=by exact rfl) (he:isRet e=true:=by exact rfl):W P E gl (.R k) o ρ (retQ E gl fn res) c σ :=
 ⟨fun h=>go_ok hE.h hr (retG (hq h) hv he)⟩
theorem W.tn {T KK:Type} {a:T} {τ:T→St} {oo:T ⊕ KK} (hr:go E gl k c σ=some (.out .normal (.lp (fun σ'=>∃x',oo=.inl x'∧Gets gl σ' (τ x'))::s),σ'):=by exact rfl) (hc:Gets gl σ' (τ a):=by exact covA):W P E gl (.n k) (nextO a:Option (T ⊕ KK)) (some oo) Q c σ :=
 ⟨fun h=>go_ok hE.h hr (lpK ⟨_,next_out h,hc⟩)⟩
theorem W.to {T KK:Type} {a:Option KK} {oo:T ⊕ KK} {ρ':KK} (h1:W P E gl t a (some ρ') Q c σ) (hρ:∀k,oo=.inr k→k=ρ':=by assumption):W P E gl (.o t) (inrO a) (some oo) Q c σ:=⟨fun h=>h1.out (inr_out h hρ)⟩
theorem W.tk {KK:Type} {A:Option KK} {ρ:KK} {p:Prop} [Decidable p] (h1:p→W P E gl t A (some ρ) Q c σ):W P E gl (.k t) (if p then A else none) (some ρ) Q c σ:=⟨fun h=>okG h fun hp h=>(h1 hp).out h⟩
theorem W.tb {KK:Type} {a:Option α} {F:α→Option KK} {ρ:KK} {t:α→Hi} (h1:∀x,a=some x→W P E gl (t x) (F x) (some ρ) Q c σ):W P E gl (.b t) (a.bind F) (some ρ) Q c σ:=⟨fun h=>bindG h fun x hx h=>(h1 x hx).out h⟩
theorem W.te {F:α→List V} {xs:List α} (h1:W P E gl t o ρ Q (.ops r l rest s) ⟨n,(d,.int .i64 (xs.length:Nat))::tm,ob,out,pa⟩) (hr:go E gl k c σ=some (.ops r l (op::rest) s,⟨n,tm,ob,out,pa⟩):=by exact rfl) (he:evF E tm op.op=some (.int .i64 ((rws F xs).length:Nat)):=by exact rfl) (hd:op.dst=some d:=by exact rfl) (hg:gd l tm op=some true:=by exact rfl) (hn:Nat.blt d n=true:=by exact rfl):W P E gl (.e k t) o ρ Q c σ :=
 ⟨fun h=>go_ok hE.h hr (SafeOps.len (h1.out h) he hd hg hn)⟩
theorem W.tx {F:α→List V} {xs:List α} {ty e sz bt st:Nat} {z:List V} {de:Ty} {kk:IntKind} {ix:Int} (h1:W P E gl t o ρ Q (.ops r l rest s) ⟨n,(d,.spt st (rws F xs) ix.toNat 0)::tm,ob,out,pa⟩) (hr:go E gl k c σ=some (.ops r l (op::rest) s,⟨n,tm,ob,out,pa⟩):=by exact rfl)
 (hop:op.op=.indexAddr ty ox oy:=by exact rfl) (hx:ev tm ox=.sl st (rws F xs):=by exact rfl) (hi:ev tm oy=.int kk ix:=by exact rfl) (ht:ety E ty=some ⟨.sli e,sz,bt,z⟩:=by exact rfl) (he:ety E e=some de:=by exact rfl) (hs:st=de.size:=by exact rfl)
 (hd:op.dst=some d:=by exact rfl) (hg:gd l tm op=some true:=by exact rfl) (hn:Nat.blt d n=true:=by exact rfl) (hb:0≤ix∧ix < (xs.length:Int):=by assumption):W P E gl (.x k t) o ρ Q c σ :=
 ⟨fun h=>go_ok hE.h hr (SafeOps.ix hb (h1.out h) hop hx hi ht he hs hd hg hn)⟩
theorem W.td [Inhabited α] {F:α→List V} {xs:List α} {ty st off:Nat} {dd:Ty} {ix:Int} {cs:List V} (h1:W P E gl t o ρ Q (.ops r l rest s) ⟨n,(d,v1)::tm,ob,out,pa⟩) (hr:go E gl k c σ=some (.ops r l (op::rest) s,⟨n,tm,ob,out,pa⟩):=by exact rfl)
 (hop:op.op=.load ty ox:=by exact rfl) (hx:ev tm ox=.spt st (rws F xs) ix.toNat off:=by exact rfl) (ht:ety E ty=some dd:=by exact rfl) (hc:cutV (F (gt xs ix)) off dd.size=some cs:=by exact rfl) (hm:mkV dd.k.isAgg cs=some v:=by exact rfl) (hv:norm v=some v1:=by exact rfl)
 (hd:op.dst=some d:=by exact rfl) (hg:gd l tm op=some true:=by exact rfl) (hn:Nat.blt d n=true:=by exact rfl) (hb:0≤ix∧ix < (xs.length:Int):=by assumption):W P E gl (.d k t) o ρ Q c σ :=
 ⟨fun h=>go_ok hE.h hr (SafeOps.ld hb (h1.out h) hop hx ht hc hm hv hd hg hn)⟩
theorem W.tq {KK:Type} {A:Option KK} {ρ:KK} {p:Prop} [Decidable p] (h1:p→W P E gl (.x k (.d 0 t)) A (some ρ) Q c σ):W P E gl (.q k t) (if p then A else none) (some ρ) Q c σ:=⟨fun h=>okG h fun hp h=>(h1 hp).out h⟩
theorem W.tc {fid:FuncId} {kn:Nat} (hs:SC P gl fid us res) (h1:W P E gl t o ρ Q (.ops r l rest s) ⟨n,(d,v1)::tm,ob1,out,pa⟩) (hr:go E gl k c σ=some (.ops r l (op::rest) s,⟨n,tm,ob,out,pa⟩):=by exact rfl) (hop:op.op=.call ⟨.value fx,args,tys⟩:=by exact rfl) (hd:op.dst=some d:=by exact rfl) (hg:gd l tm op=some true:=by exact rfl) (hn:Nat.blt d n=true:=by exact rfl)
 (hf:ev tm fx=.fn fid caps:=by exact rfl) (hu:evs tm args.toList++caps=us:=by exact rfl) (hfr:V.free.frees us=true:=by exact rfl) (hrs:fl (pa++[d]) 0 res=(v,nw,kn):=by exact rfl) (hv:deep 3 v=some v1:=by exact rfl) (hw:appO nw ob=some ob1:=by exact rfl) (hfs:fresh ob nw=true:=by exact rfl):W P E gl (.c k hs t) o ρ Q c σ :=
 ⟨fun h=>go_ok hE.h hr (SafeOps.cP hs (h1.out h) hop hd hg hn hf hu hfr hrs hv hw hfs)⟩
theorem W.tv {KK:Type} {a:Option α} {F:α→Option KK} {ρ:KK} {t:α→Hi} {fid:FuncId} {enc:α→V} (hs:∀x,a=some x→SC P gl fid us (enc x)) (h1:∀x,(hx:a=some x)→W P E gl (.c k (hs x hx) (t x)) (F x) (some ρ) Q c σ):W P E gl (.v k hs t) (a.bind F) (some ρ) Q c σ:=⟨fun h=>bindG h fun x hx h=>(h1 x hx).out h⟩
theorem W.tC {fid:FuncId} {kn:Nat} {vs:List V} (hs:SC P gl fid us res) (h1:W P E gl t o ρ Q (.ops r l rest s) ⟨n,(d,v1)::tm,ob1,out,pa⟩) (hr:go E gl k c σ=some (.ops r l (op::rest) s,⟨n,tm,ob,out,pa⟩):=by exact rfl) (hop:op.op=.call ⟨.value fx,args,tys⟩:=by exact rfl) (hd:op.dst=some d:=by exact rfl) (hg:gd l tm op=some true:=by exact rfl) (hn:Nat.blt d n=true:=by exact rfl)
 (hf:ev tm fx=.fn fid caps:=by exact rfl) (hu:spine (evs tm args.toList++caps)=some vs:=by exact rfl) (hsn:Snaps ob vs us:=by repeat first|exact .nil|with_reducible exact .free rfl|refine .cons ?_ ?_|exact .free rfl|exact .full rfl rfl|exact .nils _|exact .emp _|exact .map rfl|exact .brefL rfl rfl rfl rfl|refine .boxL rfl rfl ?_|refine .agg ?_|refine .fn ?_)
 (hns:NoSl res:=by repeat first|exact .nil|exact .plain rfl|refine .cons ?_ ?_|refine .tupL ?_|refine .aggL ?_|exact .ownM (fun _=>rfl)) (hrs:fl (pa++[d]) 0 res=(v,nw,kn):=by exact rfl) (hv:deep 3 v=some v1:=by exact rfl) (hw:appO nw ob=some ob1:=by exact rfl) (hfs:fresh ob nw=true:=by exact rfl):W P E gl (.C k hs t) o ρ Q c σ :=
 ⟨fun h=>go_ok hE.h hr (SafeOps.cS hs (h1.out h) hop hd hg hn hf hu hsn hns hrs hv hw hfs)⟩
theorem W.tV {KK:Type} {a:Option α} {F:α→Option KK} {ρ:KK} {t:α→Hi} {fid:FuncId} {enc:α→V} (hs:∀x,a=some x→SC P gl fid us (enc x)) (h1:∀x,(hx:a=some x)→W P E gl (.C k (hs x hx) (t x)) (F x) (some ρ) Q c σ):W P E gl (.V k hs t) (a.bind F) (some ρ) Q c σ:=⟨fun h=>bindG h fun x hx h=>(h1 x hx).out h⟩
theorem W.ty {fid:FuncId} {fn:Func} {cd:Code} {pb:Id} {tmi:List (Nat×V)} {hf:P.funcs[fid]?=some fn} {hc:∀(xs:Array Value) (w:World),(callFunc fid xs).run P w=.ok (.enter fid xs) w} (h1:W P E gl t o ρ Q (.code false cd (.inl r fn d pa l rest::s)) ⟨fn.ntmps,tmi,ob,(n,tm)::out,pb⟩) (hr:go E gl k c σ=some (.ops r l (op::rest) s,⟨n,tm,ob,out,pa⟩):=by exact rfl)
 (hop:op.op=.call ⟨.value fx,args,tys⟩:=by exact rfl) (hd:op.dst=some d:=by exact rfl) (hg:gd l tm op=some true:=by exact rfl) (hn:Nat.blt d n=true:=by exact rfl) (hfx:ev tm fx=.fn fid caps:=by exact rfl) (hb:fn.body=some cd:=by exact rfl) (hl:Nat.ble (evs tm args.toList++caps).length fn.ntmps=true:=by exact rfl) (hi:inT 0 (evs tm args.toList++caps)=some tmi:=by exact rfl) (hp:snoc pa d=some pb:=by exact rfl):W P E gl (.y k hf hc t) o ρ Q c σ :=
 ⟨fun h=>go_ok hE.h hr (SafeOps.inline hE.h hg hop hd hn hfx hf hb hc hl (by rw [←inT_eq hi,←snoc_eq hp];exact h1.out h))⟩
theorem W.tB (h1:bc=true→SafeOps r P gl l rest' (sem P E gl s Q) ⟨n,(d,.bool b)::(g,.bool true)::tm,ob,out,pa⟩→W P E gl t1 () () Q (.ops r l rest s) ⟨n,(g,.bool true)::tm,ob,out,pa⟩)
 (h0:bc=false→SafeOps r P gl l rest' (sem P E gl s Q) ⟨n,(d,.bool false)::(g,.bool false)::tm,ob,out,pa⟩→W P E gl t0 () () Q (.ops r l rest s) ⟨n,(g,.bool false)::tm,ob,out,pa⟩)
 (H:W P E gl t o ρ Q (.ops r l rest' s) ⟨n,(d,.bool (bc&&b))::tm,ob,out,pa⟩) (hr:go E gl k c σ=some (.ops r l rest s,⟨n,tm,ob,out,pa⟩):=by exact rfl) (hg:tget tm g=.bool bc:=by exact rfl) (hm:rest.drop m=rest':=by exact rfl):W P E gl (.B k m d g b t1 t0 t) o ρ Q c σ:=by
 subst hm
 exact ⟨fun h=>go_ok hE.h hr (SafeOps.bjoinL m d g hg (b:=bc&&b) (b1:=b) (b0:=false) (fun e K=>(h1 e K).out rfl) (fun e K=>(h0 e K).out rfl) (by cases bc<;>rfl) (H.out h))⟩
theorem W.tO (h1:bc=true→SafeOps r P gl l rest' (sem P E gl s Q) ⟨n,(d,.bool true)::(g,.bool true)::tm,ob,out,pa⟩→W P E gl t1 () () Q (.ops r l rest s) ⟨n,(g,.bool true)::tm,ob,out,pa⟩)
 (h0:bc=false→SafeOps r P gl l rest' (sem P E gl s Q) ⟨n,(d,.bool b)::(g,.bool false)::tm,ob,out,pa⟩→W P E gl t0 () () Q (.ops r l rest s) ⟨n,(g,.bool false)::tm,ob,out,pa⟩)
 (H:W P E gl t o ρ Q (.ops r l rest' s) ⟨n,(d,.bool (bc||b))::tm,ob,out,pa⟩) (hr:go E gl k c σ=some (.ops r l rest s,⟨n,tm,ob,out,pa⟩):=by exact rfl) (hg:tget tm g=.bool bc:=by exact rfl) (hm:rest.drop m=rest':=by exact rfl):W P E gl (.O k m d g b t1 t0 t) o ρ Q c σ:=by
 subst hm
 exact ⟨fun h=>go_ok hE.h hr (SafeOps.bjoinL m d g hg (b:=bc||b) (b1:=true) (b0:=b) (fun e K=>(h1 e K).out rfl) (fun e K=>(h0 e K).out rfl) (by cases bc<;>rfl) (H.out h))⟩
theorem W.tK (hr:goN E gl k c σ=some (.ops r l rest s,⟨n,tm',ob,out,pa⟩):=by exact rfl) (hK:SafeOps r P gl l rest (sem P E gl s Q) ⟨n,(d,v)::tm,ob,out,pa⟩:=by assumption) (hm:tm'.drop m=tm:=by exact rfl) (hv:tget tm' d=v:=by exact rfl) (hg:gone tm d (tm'.take m)=true:=by exact rfl):W P E gl (.K k m) o ρ Q c σ :=
 ⟨fun _=>goN_ok hE.h hr (SafeOps.drop' m hm hv hg hK)⟩
theorem W.tM {b1:Bool} (H:W P E gl t o ρ Q (.ops r l rest' s) ⟨n,(d,.bool (bc&&b1))::tm,ob,out,pa⟩) (hr:go E gl k c σ=some (.ops r l rest s,⟨n,tm,ob,out,pa⟩):=by exact rfl) (hg:tget tm g=.bool bc:=by exact rfl)
 (h1:runO E gl l m rest ⟨n,(g,.bool true)::tm,ob,out,pa⟩=some (rest',⟨n,tm1,ob,out,pa⟩):=by exact rfl) (h0:runO E gl l m rest ⟨n,(g,.bool false)::tm,ob,out,pa⟩=some (rest',⟨n,tm0,ob,out,pa⟩):=by exact rfl)
 (e1:tget tm1 d=.bool b1:=by exact rfl) (e0:tget tm0 d=.bool false:=by exact rfl) (m1:tm1.drop m=(g,.bool true)::tm:=by exact rfl) (m0:tm0.drop m=(g,.bool false)::tm:=by exact rfl)
 (g1:gone ((g,.bool true)::tm) d (tm1.take m)=true:=by exact rfl) (g0:gone ((g,.bool false)::tm) d (tm0.take m)=true:=by exact rfl):W P E gl (.M k m d g t) o ρ Q c σ :=
 ⟨fun h=>go_ok hE.h hr (SafeOps.bjA m d g (H.out h) hg h1 h0 e1 e0 m1 m0 g1 g0)⟩
theorem W.tN {b0:Bool} (H:W P E gl t o ρ Q (.ops r l rest' s) ⟨n,(d,.bool (bc||b0))::tm,ob,out,pa⟩) (hr:go E gl k c σ=some (.ops r l rest s,⟨n,tm,ob,out,pa⟩):=by exact rfl) (hg:tget tm g=.bool bc:=by exact rfl)
 (h1:runO E gl l m rest ⟨n,(g,.bool true)::tm,ob,out,pa⟩=some (rest',⟨n,tm1,ob,out,pa⟩):=by exact rfl) (h0:runO E gl l m rest ⟨n,(g,.bool false)::tm,ob,out,pa⟩=some (rest',⟨n,tm0,ob,out,pa⟩):=by exact rfl)
 (e1:tget tm1 d=.bool true:=by exact rfl) (e0:tget tm0 d=.bool b0:=by exact rfl) (m1:tm1.drop m=(g,.bool true)::tm:=by exact rfl) (m0:tm0.drop m=(g,.bool false)::tm:=by exact rfl)
 (g1:gone ((g,.bool true)::tm) d (tm1.take m)=true:=by exact rfl) (g0:gone ((g,.bool false)::tm) d (tm0.take m)=true:=by exact rfl):W P E gl (.N k m d g t) o ρ Q c σ :=
 ⟨fun h=>go_ok hE.h hr (SafeOps.bjO m d g (H.out h) hg h1 h0 e1 e0 m1 m0 g1 g0)⟩
theorem W.tD [hM:Mx P] {rid:Nat} (h1:WD r P E gl t o ρ l Z S (sem P E gl s Q .normal) n (Array.replicate n false) σ') (hr:go E gl k c σ=some (.code r (.region rid l.toArray true) s,σ'):=by exact rfl) (hn:l.length=n:=by exact rfl) (hnd:l.all noDefer=true:=by exact rfl):W P E gl (.D k n Z S t) o ρ Q c σ :=
 ⟨fun h=>go_ok hE.h hr (Safe.regionD Z S hE.h hM.h hn (h1.out h) hnd)⟩
theorem WD.tA (h1:WD r P E gl t o ρ l Z S QD f (marks is listed) σ') (hr:runA E gl l (zsOf Z) is σ=some σ':=by exact rfl) (hc:chkA l Z S is listed=true:=by kernel_rfl) (hn:f+is.length=g:=by exact rfl):WD r P E gl (.A f is t) o ρ l Z S QD g listed σ:=⟨fun h=>DAny.run f is hc hr (h1.out h) hn⟩
theorem WD.tZ (h1:W P E gl t o ρ Q (.out .normal s) σ) (hr:Region.ready .any l.toArray listed=[]:=by kernel_rfl):WD r P E gl (.Z t) o ρ l Z S (sem P E gl s Q .normal) 0 listed σ:=⟨fun h=>DAny.nil hr (h1.out h)⟩
theorem WD.tk {KK:Type} {A:Option KK} {ρ:KK} {p:Prop} [Decidable p] (h1:p→WD r P E gl t A (some ρ) l Z S QD f listed σ):WD r P E gl (.k t) (if p then A else none) (some ρ) l Z S QD f listed σ:=⟨fun h=>okG h fun hp h=>(h1 hp).out h⟩
theorem WD.tb {KK:Type} {a:Option α} {F:α→Option KK} {ρ:KK} {t:α→Hi} (h1:∀x,a=some x→WD r P E gl (t x) (F x) (some ρ) l Z S QD f listed σ):WD r P E gl (.b t) (a.bind F) (some ρ) l Z S QD f listed σ:=⟨fun h=>bindG h fun x hx h=>(h1 x hx).out h⟩
theorem WD.tS (h1:b=true→WD r P E gl t1 A ρ l Z S QD f listed ⟨n,(g,.bool true)::tm,ob,out,pa⟩) (h0:b=false→WD r P E gl t0 B ρ l Z S QD f listed ⟨n,(g,.bool false)::tm,ob,out,pa⟩) (hb:tget tm g=.bool b:=by exact rfl):WD r P E gl (.S g t1 t0) (if b=true then A else B) ρ l Z S QD f listed ⟨n,tm,ob,out,pa⟩ :=
 ⟨fun h=>DAny.ifD g h hb (fun e h=>(h1 e).out h) (fun e h=>(h0 e).out h)⟩
theorem WD.tX {F:α→List V} {xs:List α} {zs:List Id} {ty e sz bt st:Nat} {z:List V} {de:Ty} {kk:IntKind} {ix:Int} (h1:WD r P E gl t o ρ l Z S QD f (listed.setIfInBounds i true) ⟨n,(d,.spt st (rws F xs) ix.toNat 0)::tm,ob,out,pa⟩)
 (hi:opAt l i=some op:=by exact rfl) (hop:op.op=.indexAddr ty ox oy:=by exact rfl) (hx:ev tm ox=.sl st (rws F xs):=by exact rfl) (hy:ev tm oy=.int kk ix:=by exact rfl) (ht:ety E ty=some ⟨.sli e,sz,bt,z⟩:=by exact rfl) (he:ety E e=some de:=by exact rfl) (hs:st=de.size:=by exact rfl)
 (hd:op.dst=some d:=by exact rfl) (hg:gd l tm op=some true:=by exact rfl) (hn:Nat.blt d n=true:=by exact rfl) (hw:waitsAll l S listed i=true:=by kernel_rfl) (hzz:zAll l Z zs listed i=true:=by kernel_rfl) (hf:Region.free .any l.toArray listed i=true:=by kernel_rfl) (hr:(Region.ready .any l.toArray listed).contains i=true:=by kernel_rfl) (hb:0≤ix∧ix < (xs.length:Int):=by assumption):WD r P E gl (.X i zs t) o ρ l Z S QD (f+1) listed ⟨n,tm,ob,out,pa⟩ :=
 ⟨fun h=>DAny.take (by rw [←opAt_eq];exact hi) hw zs hzz hf hr hg hd hn (fun _ _=>by rw [hop];exact .idxSlM ht he hx hs hy hb) (h1.out h)⟩
theorem WD.tY [Inhabited α] {F:α→List V} {xs:List α} {zs:List Id} {ty st off:Nat} {dd:Ty} {ix:Int} {cs:List V} (h1:WD r P E gl t o ρ l Z S QD f (listed.setIfInBounds i true) ⟨n,(d,v1)::tm,ob,out,pa⟩)
 (hi:opAt l i=some op:=by exact rfl) (hop:op.op=.load ty ox:=by exact rfl) (hx:ev tm ox=.spt st (rws F xs) ix.toNat off:=by exact rfl) (ht:ety E ty=some dd:=by exact rfl) (hc:cutV (F (gt xs ix)) off dd.size=some cs:=by exact rfl) (hm:mkV dd.k.isAgg cs=some v:=by exact rfl) (hv:norm v=some v1:=by exact rfl)
 (hd:op.dst=some d:=by exact rfl) (hg:gd l tm op=some true:=by exact rfl) (hn:Nat.blt d n=true:=by exact rfl) (hw:waitsAll l S listed i=true:=by kernel_rfl) (hzz:zAll l Z zs listed i=true:=by kernel_rfl) (hf:Region.free .any l.toArray listed i=true:=by kernel_rfl) (hr:(Region.ready .any l.toArray listed).contains i=true:=by kernel_rfl) (hb:0≤ix∧ix < (xs.length:Int):=by assumption):WD r P E gl (.Y i zs t) o ρ l Z S QD (f+1) listed ⟨n,tm,ob,out,pa⟩:=by
 rw [norm_eq hv] at h1
 exact ⟨fun h=>DAny.take (by rw [←opAt_eq];exact hi) hw zs hzz hf hr hg hd hn (fun _ _=>by rw [hop];exact .load ht hx (.sptM hb hc) hm) (h1.out h)⟩
theorem WD.tc {fid:FuncId} {kn:Nat} (hs:SC P gl fid us res) (h1:WD r P E gl t o ρ l Z S QD f (listed.setIfInBounds i true) ⟨n,(d,v1)::tm,ob,out,pa⟩) (hi:opAt l i=some op:=by exact rfl) (hop:op.op=.call ⟨.value fx,args,tys⟩:=by exact rfl) (hd:op.dst=some d:=by exact rfl) (hg:gd l tm op=some true:=by exact rfl) (hn:Nat.blt d n=true:=by exact rfl)
 (hf:ev tm fx=.fn fid caps:=by exact rfl) (hu:evs tm args.toList++caps=us:=by exact rfl) (hfr:V.free.frees us=true:=by exact rfl) (hrs:fl (pa++[d]) 0 res=(v,[],kn):=by exact rfl) (hv:deep 3 v=some v1:=by exact rfl) (hc:chkA l Z S [i] listed=true:=by kernel_rfl):WD r P E gl (.c i hs t) o ρ l Z S QD (f+1) listed ⟨n,tm,ob,out,pa⟩ :=
 ⟨fun h=>DAny.cP hs i (h1.out h) hi hop hd hg hn hf hu hfr hrs hv hc⟩
theorem WD.tv {KK:Type} {a:Option α} {F:α→Option KK} {ρ:KK} {t:α→Hi} {fid:FuncId} {enc:α→V} (hs:∀x,a=some x→SC P gl fid us (enc x)) (h1:∀x,(hx:a=some x)→WD r P E gl (.c i (hs x hx) (t x)) (F x) (some ρ) l Z S QD f listed σ):WD r P E gl (.v i hs t) (a.bind F) (some ρ) l Z S QD f listed σ:=⟨fun h=>bindG h fun x hx h=>(h1 x hx).out h⟩
theorem WD.tE {F:α→List V} {xs:List α} {zs:List Id} (h1:WD r P E gl t o ρ l Z S QD f (listed.setIfInBounds i true) ⟨n,(d,.int .i64 (xs.length:Nat))::tm,ob,out,pa⟩) (hi:opAt l i=some op:=by exact rfl) (he:evF E tm op.op=some (.int .i64 ((rws F xs).length:Nat)):=by exact rfl)
 (hd:op.dst=some d:=by exact rfl) (hg:gd l tm op=some true:=by exact rfl) (hn:Nat.blt d n=true:=by exact rfl) (hw:waitsAll l S listed i=true:=by kernel_rfl) (hzz:zAll l Z zs listed i=true:=by kernel_rfl) (hf:Region.free .any l.toArray listed i=true:=by kernel_rfl) (hr:(Region.ready .any l.toArray listed).contains i=true:=by kernel_rfl):WD r P E gl (.E i zs t) o ρ l Z S QD (f+1) listed ⟨n,tm,ob,out,pa⟩ :=
 ⟨fun h=>DAny.take (by rw [←opAt_eq];exact hi) hw zs hzz hf hr hg hd hn (fun _ _=>.fnE he lenE) (h1.out h)⟩
theorem W.tf (h1:W P E gl t o ρ Q (.ops r l rest s) ⟨n,(d,v)::tm,ob,out,pa⟩) (hr:go E gl k c σ=some (.ops r l (op::rest) s,⟨n,tm,ob,out,pa⟩):=by exact rfl) (he:evF E tm op.op=some v:=by exact rfl) (hd:op.dst=some d:=by exact rfl) (hg:gd l tm op=some true:=by exact rfl) (hn:Nat.blt d n=true:=by exact rfl):W P E gl (.f k v t) o ρ Q c σ :=
 ⟨fun h=>go_ok hE.h hr (SafeOps.quiet0 hE.h hg hd hn (.fn he) (h1.out h))⟩
theorem W.tb2 {KK A B:Type} {a:Option (A×B)} {F:A×B→Option KK} {ρ:KK} {t:A→B→Hi} (h1:∀x y,a=some (x,y)→W P E gl (t x y) (F (x,y)) (some ρ) Q c σ):W P E gl (.b2 t) (a.bind F) (some ρ) Q c σ:=⟨fun h=>bindG h fun x hx h=>(h1 x.1 x.2 hx).out h⟩
theorem W.tb3 {KK A B C:Type} {a:Option (A×B×C)} {F:A×B×C→Option KK} {ρ:KK} {t:A→B→C→Hi} (h1:∀x y z,a=some (x,y,z)→W P E gl (t x y z) (F (x,y,z)) (some ρ) Q c σ):W P E gl (.b3 t) (a.bind F) (some ρ) Q c σ:=⟨fun h=>bindG h fun x hx h=>(h1 x.1 x.2.1 x.2.2 hx).out h⟩
theorem W.tb4 {KK A B C D:Type} {a:Option (A×B×C×D)} {F:A×B×C×D→Option KK} {ρ:KK} {t:A→B→C→D→Hi} (h1:∀x y z u,a=some (x,y,z,u)→W P E gl (t x y z u) (F (x,y,z,u)) (some ρ) Q c σ):W P E gl (.b4 t) (a.bind F) (some ρ) Q c σ:=⟨fun h=>bindG h fun x hx h=>(h1 x.1 x.2.1 x.2.2.1 x.2.2.2 hx).out h⟩
theorem W.te1 {A KK:Type} {a:A} {F:A→KK} {ρ:KK} {t:A→Hi} (h1:∀x,a=x→W P E gl (t x) (F x) ρ Q c σ):W P E gl (.b t) (letO a F) ρ Q c σ:=⟨fun h=>(h1 a rfl).out h⟩
theorem W.te2 {KK A B:Type} {a:A×B} {F:A×B→KK} {ρ:KK} {t:A→B→Hi} (h1:∀x y,a=(x,y)→W P E gl (t x y) (F (x,y)) ρ Q c σ):W P E gl (.b2 t) (letO a F) ρ Q c σ:=⟨fun h=>(h1 a.1 a.2 rfl).out h⟩
theorem W.te3 {KK A B C:Type} {a:A×B×C} {F:A×B×C→KK} {ρ:KK} {t:A→B→C→Hi} (h1:∀x y z,a=(x,y,z)→W P E gl (t x y z) (F (x,y,z)) ρ Q c σ):W P E gl (.b3 t) (letO a F) ρ Q c σ:=⟨fun h=>(h1 a.1 a.2.1 a.2.2 rfl).out h⟩
theorem WD.tb2 {KK A B:Type} {a:Option (A×B)} {F:A×B→Option KK} {ρ:KK} {t:A→B→Hi} (h1:∀x y,a=some (x,y)→WD r P E gl (t x y) (F (x,y)) (some ρ) l Z S QD f listed σ):WD r P E gl (.b2 t) (a.bind F) (some ρ) l Z S QD f listed σ:=⟨fun h=>bindG h fun x hx h=>(h1 x.1 x.2 hx).out h⟩
theorem WD.tb3 {KK A B C:Type} {a:Option (A×B×C)} {F:A×B×C→Option KK} {ρ:KK} {t:A→B→C→Hi} (h1:∀x y z,a=some (x,y,z)→WD r P E gl (t x y z) (F (x,y,z)) (some ρ) l Z S QD f listed σ):WD r P E gl (.b3 t) (a.bind F) (some ρ) l Z S QD f listed σ:=⟨fun h=>bindG h fun x hx h=>(h1 x.1 x.2.1 x.2.2 hx).out h⟩
theorem W.tg {a:Option α} {fid:FuncId} {enc:α→V} {xx:α} {hs:∀x,a=some x→SC P gl fid us (enc x)} (hx:a=some xx) (h1:W P E gl (.c k (hs xx hx) t) o ρ Q c σ):W P E gl (.g k hs t) o ρ Q c σ:=⟨h1.out⟩
theorem W.tg0 {a:α} {fid:FuncId} {enc:α→V} {xx:α} {hs:∀x,a=x→SC P gl fid us (enc x)} (hx:a=xx) (h1:W P E gl (.c k (hs xx hx) t) o ρ Q c σ):W P E gl (.g k hs t) o ρ Q c σ:=⟨h1.out⟩
theorem W.tG {a:Option α} {fid:FuncId} {enc:α→V} {xx:α} {hs:∀x,a=some x→SC P gl fid us (enc x)} (hx:a=some xx) (h1:W P E gl (.C k (hs xx hx) t) o ρ Q c σ):W P E gl (.G k hs t) o ρ Q c σ:=⟨h1.out⟩
theorem W.tG0 {a:α} {fid:FuncId} {enc:α→V} {xx:α} {hs:∀x,a=x→SC P gl fid us (enc x)} (hx:a=xx) (h1:W P E gl (.C k (hs xx hx) t) o ρ Q c σ):W P E gl (.G k hs t) o ρ Q c σ:=⟨h1.out⟩
theorem WD.tg {a:Option α} {fid:FuncId} {enc:α→V} {xx:α} {hs:∀x,a=some x→SC P gl fid us (enc x)} (hx:a=some xx) (h1:WD r P E gl (.c k (hs xx hx) t) o ρ l Z S QD f listed σ):WD r P E gl (.g k hs t) o ρ l Z S QD f listed σ:=⟨h1.out⟩
theorem WD.tG {a:Option α} {fid:FuncId} {enc:α→V} {xx:α} {hs:∀x,a=some x→SC P gl fid us (enc x)} (hx:a=some xx) (h1:WD r P E gl (.C k (hs xx hx) t) o ρ l Z S QD f listed σ):WD r P E gl (.G k hs t) o ρ l Z S QD f listed σ:=⟨h1.out⟩
theorem WD.tC {zs:List Id} {fid:FuncId} {kn:Nat} {vs:List V} (hs:SC P gl fid us res) (h1:WD r P E gl t o ρ l Z S QD f (listed.setIfInBounds i true) ⟨n,(d,v1)::tm,ob,out,pa⟩) (hi:opAt l i=some op:=by exact rfl) (hop:op.op=.call ⟨.value fx,args,tys⟩:=by exact rfl) (hd:op.dst=some d:=by exact rfl) (hg:gd l tm op=some true:=by exact rfl) (hn:Nat.blt d n=true:=by exact rfl)
 (hf:ev tm fx=.fn fid caps:=by exact rfl) (hu:spine (evs tm args.toList++caps)=some vs:=by exact rfl) (hz0:zs=zsOf Z:=by exact rfl) (hsn:∀ob',ObLeZ zs ob ob'→Snaps ob' vs us:=by intro _ hz;repeat first|exact .nil|with_reducible exact .free rfl|refine .cons ?_ ?_|exact .free rfl|exact .full (hz _ _ rfl rfl) rfl|exact .nils _|exact .emp _|refine .box (hz _ _ rfl rfl) ?_|refine .boxL (hz _ _ rfl rfl) rfl ?_|refine .agg ?_|refine .fn ?_)
 (hns:NoSl res:=by repeat first|exact .nil|exact .plain rfl|refine .cons ?_ ?_|refine .tupL ?_|refine .aggL ?_|exact .ownM (fun _=>rfl)) (hrs:fl (pa++[d]) 0 res=(v,[],kn):=by exact rfl) (hv:deep 3 v=some v1:=by exact rfl) (hw:waitsAll l S listed i=true:=by kernel_rfl) (hzz:zAll l Z zs listed i=true:=by kernel_rfl) (hfr:Region.free .any l.toArray listed i=true:=by kernel_rfl) (hr:(Region.ready .any l.toArray listed).contains i=true:=by kernel_rfl):WD r P E gl (.C i hs t) o ρ l Z S QD (f+1) listed ⟨n,tm,ob,out,pa⟩:=by
 rw [spine_eq hu] at hsn
 rw [deep_eq hv] at h1
 exact ⟨fun h=>DAny.take (by rw [←opAt_eq];exact hi) hw zs hzz hfr hr hg hd hn (fun ob' hz=>by rw [hop];exact .callS hf (hsn ob' hz) hs hns hrs) (h1.out h)⟩
structure JB {K:Type} (r:Bool) (P:Program) (gl:List (Nat×List V)) (f:Bool→K) (ρ:K) (l rest:List Oper) (Q:Exit→St→Prop) (d n:Nat) (tm:List (Nat×V)) (ob:List (Id×Obj)) (out:List (Nat×List (Nat×V))) (pa:Id):Prop where
 out:∀b,f b=ρ→SafeOps r P gl l rest Q ⟨n,(d,.bool b)::tm,ob,out,pa⟩
theorem W.tT {F:Bool→K} {t:{p:Prop}→p→Hi} {u:Bool→Hi} (h1:∀b,W P E gl (u b) (F b) ρ Q (.ops r l rest' s) ⟨n,(d,.bool b)::tm,ob,out,pa⟩) (h2:∀J:JB r P gl F ρ l rest' (sem P E gl s Q) d n tm ob out pa,W P E gl (t J) o ρ Q (.ops r l rest s) ⟨n,tm,ob,out,pa⟩)
 (hr:go E gl k c σ=some (.ops r l rest s,⟨n,tm,ob,out,pa⟩):=by exact rfl) (hm:rest.drop m=rest':=by exact rfl):W P E gl (.T k m d F t u) o ρ Q c σ:=⟨fun h=>go_ok hE.h hr ((h2 ⟨fun b h=>(h1 b).out h⟩).out h)⟩
theorem W.tu {F:Bool→K} {J:JB r P gl F ρ l rest (sem P E gl s Q) d n tm ob out pa} (hr:goN E gl k c σ=some (.ops r l rest s,⟨n,tm',ob,out,pa⟩):=by exact rfl) (hm:tm'.drop m=tm:=by exact rfl) (hv:tget tm' d=.bool b:=by exact rfl) (hg:gone tm d (tm'.take m)=true:=by exact rfl):W P E gl (.u k m J) (F b) ρ Q c σ :=
 ⟨fun h=>goN_ok hE.h hr (SafeOps.drop' m hm hv hg (J.out b h))⟩
theorem W.tU {F:Bool→K} {J:JB r P gl F ρ l rest (sem P E gl s Q) d n tm ob out pa} {b':Bool} (hr:goN E gl k c σ=some (.ops r l rest s,⟨n,tm',ob,out,pa⟩):=by exact rfl) (hb:tget tm g=.bool b:=by exact rfl) (hm:tm'.drop m=(g,.bool bc)::tm:=by exact rfl) (hv:tget tm' d=.bool b':=by exact rfl) (hg:gone ((g,.bool bc)::tm) d (tm'.take m)=true:=by exact rfl) (hc:b=bc:=by assumption):W P E gl (.U k m g J) (F b') ρ Q c σ :=
 ⟨fun h=>goN_ok hE.h hr (SafeOps.drop' m hm hv hg (SafeOps.unk g hb hc (J.out b' h)))⟩
theorem WD.ta (h1:W P E gl t o ρ (fun e τ=>e=.normal∧DAny r P E gl l Z S QD f (listed.setIfInBounds i true) τ) (.ops r l [op] []) σ) (hi:opAt l i=some op:=by exact rfl) (hr:Region.ready .any l.toArray listed=[i]:=by kernel_rfl) (hs:S.contains i=true:=by exact rfl):WD r P E gl (.a i t) o ρ l Z S QD (f+1) listed σ :=
 ⟨fun h=>DAny.onlyS (by rw [←opAt_eq];exact hi) hr hs (h1.out h)⟩
theorem W.tz (h1:WD r P E gl t o ρ l Z S QD f listed σ') (hr:go E gl k c σ=some (.out .normal [],σ'):=by exact rfl):W P E gl (.z k t) o ρ (fun e τ=>e=.normal∧DAny r P E gl l Z S QD f listed τ) c σ:=⟨fun h=>go_ok hE.h hr ⟨rfl,h1.out h⟩⟩
theorem W.tQ (h1:W P E gl t o ρ Q (.ops r l rest s) ⟨n,(d,v1)::tm,ob,out,pa⟩) (hr:go E gl k c σ=some (.ops r l (op::rest) s,⟨n,tm,ob,out,pa⟩):=by exact rfl) (hd:op.dst=some d:=by exact rfl) (hg:gd l tm op=some true:=by exact rfl) (hn:Nat.blt d n=true:=by exact rfl) (hq:QEv P E gl tm ob (pa++[d]) op.op v []:=by first|exact .slH rfl rfl rfl rfl rfl (by assumption)|exact .slL rfl rfl rfl rfl rfl (by assumption)|exact .idxRefM rfl rfl rfl rfl rfl rfl (by assumption)|exact .load rfl rfl (.rowsM (by assumption) rfl rfl) rfl|exact .quoV rfl rfl (by decide)|exact .shrV rfl rfl (by decide)|exact .remV rfl rfl (by decide)|exact .lookM (keyI _) rfl rfl rfl rfl rfl rfl rfl rfl rfl rfl|exact .lookM2 (keyI _) rfl rfl rfl rfl rfl rfl rfl rfl rfl rfl|exact .idxSlM rfl rfl rfl rfl rfl (by assumption)|exact .idxArrM rfl rfl rfl rfl rfl rfl _ rfl (by first|assumption|decide)|exact .slArrM rfl rfl rfl rfl rfl rfl rfl|exact .eqA rfl rfl rfl rfl (by kernel_rfl) rfl|exact .neA rfl rfl rfl rfl (by kernel_rfl) rfl|exact .load rfl rfl (.sptM (by first|assumption|simp) rfl) rfl) (hv:norm v=some v1:=by exact rfl):W P E gl (.Q k t) o ρ Q c σ:=by
 rw [norm_eq hv] at h1
 exact ⟨fun h=>go_ok hE.h hr (SafeOps.quiet0 hE.h hg hd hn hq (h1.out h))⟩
theorem WD.tP {zs:List Id} (h1:WD r P E gl t o ρ l Z S QD f (listed.setIfInBounds i true) ⟨n,(d,v1)::tm,ob,out,pa⟩) (hi:opAt l i=some op:=by exact rfl) (hd:op.dst=some d:=by exact rfl) (hg:gd l tm op=some true:=by exact rfl) (hn:Nat.blt d n=true:=by exact rfl) (hq:∀ob',ObLeZ zs ob ob'→QEv P E gl tm ob' (pa++[d]) op.op v []:=by intro _ hz;first|exact .lookM (keyI _) rfl rfl rfl rfl rfl rfl (hz _ _ rfl rfl) rfl rfl rfl|exact .lookM2 (keyI _) rfl rfl rfl rfl rfl rfl (hz _ _ rfl rfl) rfl rfl rfl|exact .slH rfl rfl rfl rfl rfl (by assumption)|exact .slL rfl rfl rfl rfl rfl (by assumption)|exact .idxRefM rfl rfl rfl (hz _ _ rfl rfl) rfl rfl (by assumption)|exact .load rfl rfl (.rowsM (by assumption) (hz _ _ rfl rfl) rfl) rfl|exact .load rfl rfl (.box (hz _ _ rfl rfl) rfl) rfl|exact .quoV rfl rfl (by decide)|exact .shrV rfl rfl (by decide)|exact .remV rfl rfl (by decide)|exact .idxSlM rfl rfl rfl rfl rfl (by assumption)|exact .idxArrM rfl rfl rfl rfl rfl rfl _ rfl (by first|assumption|decide)|exact .slArrM rfl rfl rfl rfl rfl rfl rfl|exact .eqA rfl rfl rfl rfl (by kernel_rfl) rfl|exact .neA rfl rfl rfl rfl (by kernel_rfl) rfl|exact .load rfl rfl (.sptM (by first|assumption|simp) rfl) rfl) (hv:norm v=some v1:=by exact rfl) (hw:waitsAll l S listed i=true:=by kernel_rfl) (hzz:zAll l Z zs listed i=true:=by kernel_rfl) (hf:Region.free .any l.toArray listed i=true:=by kernel_rfl) (hr:(Region.ready .any l.toArray listed).contains i=true:=by kernel_rfl):WD r P E gl (.P i zs t) o ρ l Z S QD (f+1) listed ⟨n,tm,ob,out,pa⟩:=by
 rw [norm_eq hv] at h1
 exact ⟨fun h=>DAny.take (by rw [←opAt_eq];exact hi) hw zs hzz hf hr hg hd hn hq (h1.out h)⟩
theorem W.tmk {A B:Type} [DecidableEq A] {fk:A→V} {fv:B→V} {ty:Nat} (h1:W P E gl t o ρ Q (.ops r l rest s) ⟨n,(d,.mapr pb)::tm,(pb,.map (mps fk fv []))::ob,out,pa⟩) (hr:go E gl k c σ=some (.ops r l (op::rest) s,⟨n,tm,ob,out,pa⟩):=by exact rfl) (hd:op.dst=some d:=by exact rfl) (hg:gd l tm op=some true:=by exact rfl) (hn:Nat.blt d n=true:=by exact rfl) (hp:snoc pa d=some pb:=by exact rfl) (hop:op.op=.makeMap ty none:=by exact rfl) (hf:fresh ob [(pb,.map (mps fk fv []))]=true:=by exact rfl):W P E gl (.m k fk fv t) o ρ Q c σ:=by
 have e:=snoc_eq hp
 exact ⟨fun h=>go_ok hE.h hr (SafeOps.quiet1 hE.h hg hd hn (by rw [hop,e];exact .mkMapM fk fv) hf (h1.out h))⟩
theorem W.tL {A:Type} {F:A→List V} {xs:List A} {ty nn st e sz bt:Nat} {z cells:List V} {de:Ty} {parts:Array (Nat×Operand)} (h1:W P E gl t o ρ Q (.ops r l rest s) ⟨n,(d,.ref pb 0 (rws F xs).length)::tm,(pb,.rows st (rws F xs) false)::ob,out,pa⟩) (hr:go E gl k c σ=some (.ops r l (op::rest) s,⟨n,tm,ob,out,pa⟩):=by exact rfl) (hd:op.dst=some d:=by exact rfl) (hg:gd l tm op=some true:=by exact rfl) (hn:Nat.blt d n=true:=by exact rfl) (hp:snoc pa d=some pb:=by exact rfl) (hop:op.op=.buildSlice ty nn parts:=by exact rfl) (ht:ety E ty=some ⟨.sli e,sz,bt,z⟩:=by exact rfl) (he:ety E e=some de:=by exact rfl) (hst:de.size=st:=by exact rfl) (hm:Nat.ble (nn*de.size) 16777216=true:=by exact rfl) (hc:fillV (fun i=>some (i*de.size,de.size)) (repV nn de.zero) (evParts tm parts.toList)=some cells:=by exact rfl)
 (hf:V.free.frees cells=true:=by exact rfl) (h11:V.ones cells=true:=by exact rfl) (hch:NzR (chunkV de.size nn cells) (rws F xs):=by repeat first|exact .nil|refine .cons (by repeat first|exact .nil|refine .same ?_|refine .nz ?_) ?_) (hl:(rws F xs).length=nn:=by exact rfl) (hfs:fresh ob [(pb,.rows st (rws F xs) false)]=true:=by exact rfl):W P E gl (.L k F xs t) o ρ Q c σ:=by
 subst hst
 have e:=snoc_eq hp
 exact ⟨fun h=>go_ok hE.h hr (SafeOps.quiet1 hE.h hg hd hn (by rw [hop,e];exact .litMN ht he (Nat.le_of_ble_eq_true hm) hc hf h11 hch hl) hfs (h1.out h))⟩
theorem W.tH {A:Type} {F:A→List V} {a:A} {ty st e sz bt:Nat} {z:List V} {de:Ty} {k1 k2:IntKind} {n1 m1:Int} (h1:W P E gl t o ρ Q (.ops r l rest s) ⟨n,(d,.ref pb 0 (rws F (List.replicate n1.toNat a)).length)::tm,(pb,.rows st (rws F (List.replicate n1.toNat a)) false)::ob,out,pa⟩) (hr:go E gl k c σ=some (.ops r l (op::rest) s,⟨n,tm,ob,out,pa⟩):=by exact rfl) (hd:op.dst=some d:=by exact rfl) (hg:gd l tm op=some true:=by exact rfl) (hn:Nat.blt d n=true:=by exact rfl) (hp:snoc pa d=some pb:=by exact rfl) (hop:op.op=.makeSlice ty ox oy:=by exact rfl) (ht:ety E ty=some ⟨.sli e,sz,bt,z⟩:=by exact rfl) (he:ety E e=some de:=by exact rfl) (hst:de.size=st:=by exact rfl) (hl:ev tm ox=.int k1 n1:=by exact rfl) (hc:ev tm oy=.int k2 m1:=by exact rfl) (hb:Nat.ble de.bytes 256=true:=by exact rfl) (hz:Nz de.zero (F a):=by repeat first|exact .nil|refine .same ?_|refine .nz ?_) (hf:V.free.frees de.zero=true:=by exact rfl) (hgg:0≤n1∧n1≤m1∧m1≤549755813888:=by assumption) (hfs:fresh ob [(pb,.rows st (rws F (List.replicate n1.toNat a)) false)]=true:=by exact rfl):W P E gl (.H k F a t) o ρ Q c σ:=by
 subst hst
 have e:=snoc_eq hp
 exact ⟨fun h=>go_ok hE.h hr (SafeOps.quiet1 hE.h hg hd hn (by rw [hop,e];exact .makeMN ht he hl hc hgg hb hz hf) hfs (h1.out h))⟩
theorem W.tp {κ β:Type} [DecidableEq κ] {fk:κ→V} {fv:β→V} {mm:List (κ×β)} {kk:κ} {vv:β} {q:Id} {ty k1 e sz bt:Nat} {z:List V} {dk:Ty} {oz:Operand} (h1:W P E gl t o ρ Q (.ops r l rest s) ⟨n,tm,(q,.map (mps fk fv (Go.AM.mput mm kk vv)))::ob,out,pa⟩) (hr:go E gl k c σ=some (.ops r l (op::rest) s,⟨n,tm,ob,out,pa⟩):=by exact rfl) (hg:gd l tm op=some true:=by exact rfl) (hop:op.op=.mapUpdate ty ox oy oz∨op.op=.insert ty ox oy oz:=by first|exact .inl rfl|exact .inr rfl) (hd:op.dst=none:=by exact rfl) (ht:ety E ty=some ⟨.map k1 e,sz,bt,z⟩:=by exact rfl) (hk:ety E k1=some dk:=by exact rfl)
 (hx:ev tm ox=.mapr q:=by exact rfl) (ho:oget ob q=some (.map (mps fk fv mm)):=by exact rfl) (hi:ev tm oy=fk kk:=by exact rfl) (hkk:kKind dk.k (fk kk)=true:=by exact rfl) (hy:ev tm oz=fv vv:=by exact rfl) (hfr:V.free.frees [fv vv]=true:=by exact rfl) (hf:KeyF fk:=by first|exact keyI _):W P E gl (.p k t) o ρ Q c σ :=
 ⟨fun h=>go_ok hE.h hr (SafeOps.mputM fk fv mm kk vv hE.h hf hg hop hd ht hk hx ho hi hkk hy hfr (h1.out h))⟩
theorem W.tst {A:Type} [Inhabited A] {y:A} {F:A→List V} {xs:List A} {q:Id} {ty st off:Nat} {ix:Int} {dd:Ty} {us:List V} (h1:W P E gl t o ρ Q (.ops r l rest s) ⟨n,tm,(q,.rows st (rws F (Go.AM.st xs ix y)) false)::ob,out,pa⟩) (hr:go E gl k c σ=some (.ops r l (op::rest) s,⟨n,tm,ob,out,pa⟩):=by exact rfl) (hop:op.op=.store ty ox oy:=by exact rfl) (hd:op.dst=none:=by exact rfl) (hg:gd l tm op=some true:=by exact rfl) (ht:ety E ty=some dd:=by exact rfl) (hu:(ev tm oy).cells?=some us:=by exact rfl) (hs:Nat.beq us.length dd.size=true:=by exact rfl) (h11:V.ones us=true:=by exact rfl)
 (hx:ev tm ox=.ptr q (0+ix.toNat) off:=by exact rfl) (ho:oget ob q=some (.rows st (rws F xs) false):=by exact rfl) (hl:Nat.ble (off+us.length) st=true:=by exact rfl) (hf:V.free.frees us=true:=by exact rfl) (hy:putCells (F (gt xs ix)) off us=F y:=by exact rfl) (hb:0≤ix∧ix < (xs.length:Int):=by assumption):W P E gl (.st k y t) o ρ Q c σ :=
 ⟨fun h=>go_ok hE.h hr (SafeOps.store hE.h hg hop hd ht hu hs h11 (by rw [hx];exact .rowsM hb ho hl hf hy) (h1.out h))⟩
theorem W.th0 {u:V} (h1:W P E gl t o ρ Q (.code r x s) ⟨n,(d,u)::tm,ob,out,pa⟩) (hr:goN E gl k c σ=some (.code r x s,⟨n,tm,ob,out,pa⟩):=by exact rfl) (hv:tget tm d=v:=by exact rfl) (hu:Up ob v u:=by first|exact .len (by simp [rws,st])|exact .full rfl rfl|exact up_fn (by assumption)|exact .agg (by repeat first|exact .nil|refine .cons (.refl _) ?_|refine .cons (.nils _) ?_|refine .cons (.full rfl rfl) ?_)):W P E gl (.h k d u t) o ρ Q c σ:=⟨fun h=>goN_ok hE.h hr (Safe.see d hv hu (h1.out h))⟩
theorem W.th {u:V} (h1:W P E gl t o ρ Q (.ops r l rest s) ⟨n,(d,u)::tm,ob,out,pa⟩) (hr:goN E gl k c σ=some (.ops r l rest s,⟨n,tm,ob,out,pa⟩):=by exact rfl) (hv:tget tm d=v:=by exact rfl) (hu:Up ob v u:=by first|exact .len (by simp [rws,st])|exact .full rfl rfl|exact up_fn (by assumption)|exact .agg (by repeat first|exact .nil|refine .cons (.refl _) ?_|refine .cons (.nils _) ?_|refine .cons (.full rfl rfl) ?_)):W P E gl (.h k d u t) o ρ Q c σ:=⟨fun h=>goN_ok hE.h hr (SafeOps.see d hv hu (h1.out h))⟩
theorem W.thB {q:Id} {cs cs0:List V} (h1:W P E gl t o ρ Q (.ops r l rest s) ⟨n,tm,(q,.box cs)::ob,out,pa⟩) (hr:goN E gl k c σ=some (.ops r l rest s,⟨n,tm,ob,out,pa⟩):=by exact rfl) (ho:oget ob q=some (.box cs0):=by exact rfl) (hu:Ups ob cs0 cs:=by repeat first|exact .nil|refine .cons (.refl _) ?_|refine .cons (.len (by simp [rws,st])) ?_):W P E gl (.hB k q cs t) o ρ Q c σ:=⟨fun h=>goN_ok hE.h hr (SafeOps.seeB q cs ho hu (h1.out h))⟩
theorem W.tfz {q:Id} {st:Nat} {rs:List (List V)} (h1:W P E gl t o ρ Q (.ops r l rest s) ⟨n,tm,(q,.rows st rs true)::ob,out,pa⟩) (hr:goN E gl k c σ=some (.ops r l rest s,⟨n,tm,ob,out,pa⟩):=by exact rfl) (ho:oget ob q=some (.rows st rs false):=by exact rfl):W P E gl (.fz k q t) o ρ Q c σ:=⟨fun h=>goN_ok hE.h hr (SafeOps.freeze q ho (h1.out h))⟩
theorem W.tI {p:Prop} [Decidable p] (h1:p→W P E gl t1 A ρ Q c σ) (h0:¬p→W P E gl t0 B ρ Q c σ):W P E gl (.I t1 t0) (if p then A else B) ρ Q c σ:=⟨fun h=>ifP_G h (fun e h=>(h1 e).out h) (fun e h=>(h0 e).out h)⟩
theorem W.tnr {T KK:Type} {a:T} {τ:T→St} {oo:T ⊕ KK} {rr:List (Id×Id)} (hr:go E gl k c σ=some (.out .normal (.lp (fun σ'=>∃x',oo=.inl x'∧Gets gl σ' (τ x'))::s),σ'):=by exact rfl) (hc:Gets gl (renL rr σ') (τ a):=by exact covA):W P E gl (.nr k rr) (nextO a:Option (T ⊕ KK)) (some oo) Q c σ :=
 ⟨fun h=>go_ok hE.h hr (lpK ⟨_,next_out h,renL_gets hc⟩)⟩
theorem WD.toc {fid:FuncId} {kn:Nat} {vs:List V} (hs:SC P gl fid us res) (h1:WD r P E gl t o ρ l Z S QD f (listed.setIfInBounds i true) ⟨n,(d,v1)::tm,ob1,out,pa⟩) (hi:opAt l i=some op:=by exact rfl) (hr:Region.ready .any l.toArray listed=[i]:=by kernel_rfl) (hop:op.op=.call ⟨.value fx,args,tys⟩:=by exact rfl) (hd:op.dst=some d:=by exact rfl) (hg:gd l tm op=some true:=by exact rfl) (hn:Nat.blt d n=true:=by exact rfl)
 (hf:ev tm fx=.fn fid caps:=by exact rfl) (hu:spine (evs tm args.toList++caps)=some vs:=by exact rfl) (hsn:Snaps ob vs us:=by repeat first|exact .nil|with_reducible exact .free rfl|refine .cons ?_ ?_|exact .free rfl|exact .full rfl rfl|exact .nils _|exact .emp _|exact .map rfl|exact .brefL rfl rfl rfl rfl|refine .boxL rfl rfl ?_|refine .agg ?_|refine .fn ?_)
 (hns:NoSl res:=by repeat first|exact .nil|exact .plain rfl|refine .cons ?_ ?_|refine .tupL ?_|refine .aggL ?_|exact .ownM (fun _=>rfl)) (hrs:fl (pa++[d]) 0 res=(v,nw,kn):=by exact rfl) (hv:deep 3 v=some v1:=by exact rfl) (hw:appO nw ob=some ob1:=by exact rfl) (hfs:fresh ob nw=true:=by exact rfl):WD r P E gl (.oc i hs t) o ρ l Z S QD (f+1) listed ⟨n,tm,ob,out,pa⟩:=by
 rw [spine_eq hu] at hsn
 rw [deep_eq hv,appO_eq hw] at h1
 exact ⟨fun h=>DAny.only (by rw [←opAt_eq];exact hi) hr (.quiet hg hd hn (by rw [hop];exact .callS hf hsn hs hns hrs) hfs (h1.out h))⟩
theorem WD.tog {a:Option α} {fid:FuncId} {enc:α→V} {xx:α} {hs:∀x,a=some x→SC P gl fid us (enc x)} (hx:a=some xx) (h1:WD r P E gl (.oc i (hs xx hx) t) o ρ l Z S QD f listed σ):WD r P E gl (.og i hs t) o ρ l Z S QD f listed σ:=⟨h1.out⟩
theorem WD.toq {ty:Nat} {dd:Ty} {cs:List V} (h1:WD r P E gl t o ρ l Z S QD f (listed.setIfInBounds i true) ⟨n,(d,.ptr pb 0 0)::tm,(pb,.box cs)::ob,out,pa⟩) (hi:opAt l i=some op:=by exact rfl) (hr:Region.ready .any l.toArray listed=[i]:=by kernel_rfl) (hop:op.op=.alloc ty:=by exact rfl) (hd:op.dst=some d:=by exact rfl) (hg:gd l tm op=some true:=by exact rfl) (hn:Nat.blt d n=true:=by exact rfl) (hp:snoc pa d=some pb:=by exact rfl) (ht:ety E ty=some dd:=by exact rfl) (hz:dd.zero=cs:=by exact rfl) (h11:V.ones dd.zero=true:=by exact rfl) (hfs:fresh ob [(pb,.box cs)]=true:=by exact rfl):WD r P E gl (.oq i t) o ρ l Z S QD (f+1) listed ⟨n,tm,ob,out,pa⟩:=by
 subst hz
 have e:=snoc_eq hp
 exact ⟨fun h=>DAny.only (by rw [←opAt_eq];exact hi) hr (.quiet (nw:=[(pb,.box dd.zero)]) hg hd hn (by rw [hop,e];exact .alloc ht h11) hfs (h1.out h))⟩
theorem WD.tos {A:Type} [Inhabited A] {y:A} {F:A→List V} {xs:List A} {q:Id} {ty st off:Nat} {ix:Int} {dd:Ty} {us:List V} (h1:WD r P E gl t o ρ l Z S QD f (listed.setIfInBounds i true) ⟨n,tm,(q,.rows st (rws F (Go.AM.st xs ix y)) false)::ob,out,pa⟩) (hi:opAt l i=some op:=by exact rfl) (hr:Region.ready .any l.toArray listed=[i]:=by kernel_rfl) (hop:op.op=.store ty ox oy:=by exact rfl) (hd:op.dst=none:=by exact rfl) (hg:gd l tm op=some true:=by exact rfl) (ht:ety E ty=some dd:=by exact rfl) (hu:(ev tm oy).cells?=some us:=by exact rfl) (hs:Nat.beq us.length dd.size=true:=by exact rfl) (h11:V.ones us=true:=by exact rfl)
 (hx:ev tm ox=.ptr q (0+ix.toNat) off:=by exact rfl) (ho:oget ob q=some (.rows st (rws F xs) false):=by exact rfl) (hl:Nat.ble (off+us.length) st=true:=by exact rfl) (hf:V.free.frees us=true:=by exact rfl) (hy:putCells (F (gt xs ix)) off us=F y:=by exact rfl) (hz:(zof Z i).any (idEq q)=true:=by exact rfl) (hb:0≤ix∧ix < (xs.length:Int):=by assumption):WD r P E gl (.os i y t) o ρ l Z S QD (f+1) listed ⟨n,tm,ob,out,pa⟩ :=
 ⟨fun h=>DAny.only (by rw [←opAt_eq];exact hi) hr (.store hg hop hd ht hu hs h11 (by rw [hx];exact .rowsM hb ho hl hf hy) hz (h1.out h))⟩
theorem W.tap {A:Type} {F:A→List V} {xs ys:List A} {ty tx e sz bt sz' bt' e':Nat} {z z':List V} {de:Ty} {kl:List (Id×Obj)} {st:Nat} (h1:W P E gl t o ρ Q (.ops r l rest s) ⟨n,(d,.ref pb 0 (rws F (xs++ys)).length)::tm,(pb,.rows st (rws F (xs++ys)) false)::(kl++ob),out,pa⟩) (hr:go E gl k c σ=some (.ops r l (op::rest) s,⟨n,tm,ob,out,pa⟩):=by exact rfl) (hd:op.dst=some d:=by exact rfl) (hg:gd l tm op=some true:=by exact rfl) (hn:Nat.blt d n=true:=by exact rfl) (hp:snoc pa d=some pb:=by exact rfl)
 (hop:op.op=.call ⟨.builtin .append,#[ox,oy],#[ty,tx]⟩:=by exact rfl) (ht:ety E ty=some ⟨.sli e,sz,bt,z⟩:=by exact rfl) (htx:ety E tx=some ⟨.sli e',sz',bt',z'⟩:=by exact rfl) (he:ety E e=some de:=by exact rfl) (hb:Nat.ble de.bytes 256=true:=by exact rfl) (hf:oget ob pb=none:=by exact rfl) (hst:de.size=st:=by exact rfl) (hx0:ev tm ox=v:=by exact rfl) (hy0:ev tm oy=v1:=by exact rfl)
 (hy:RowsL F ob st v1 ys:=by first|exact .sl _|exact .own rfl|exact .nils|exact .emp) (hx:AppL F ob st v xs kl:=by first|exact .own rfl|exact .nils|exact .emp) (h11:∀a,V.ones (F a)=true:=by exact fun _=>rfl) (hfew:few (xs++ys).length:=by assumption):W P E gl (.ap k t) o ρ Q c σ:=by
 subst hst;subst hx0;subst hy0
 have e:=snoc_eq hp
 subst e
 exact ⟨fun h=>go_ok hE.h hr (SafeOps.appendM F hE.h hg hop hd hn ht htx he hb hf hx hy h11 hfew (h1.out h))⟩
theorem WD.toa {A:Type} {F:A→List V} {xs ys:List A} {ty tx e sz bt sz' bt' e':Nat} {z z':List V} {de:Ty} {kl:List (Id×Obj)} {st:Nat} (h1:WD r P E gl t o ρ l Z S QD f (listed.setIfInBounds i true) ⟨n,(d,.ref pb 0 (rws F (xs++ys)).length)::tm,(pb,.rows st (rws F (xs++ys)) false)::(kl++ob),out,pa⟩) (hi:opAt l i=some op:=by exact rfl) (hr:Region.ready .any l.toArray listed=[i]:=by kernel_rfl) (hd:op.dst=some d:=by exact rfl) (hg:gd l tm op=some true:=by exact rfl) (hn:Nat.blt d n=true:=by exact rfl) (hp:snoc pa d=some pb:=by exact rfl)
 (hop:op.op=.call ⟨.builtin .append,#[ox,oy],#[ty,tx]⟩:=by exact rfl) (ht:ety E ty=some ⟨.sli e,sz,bt,z⟩:=by exact rfl) (htx:ety E tx=some ⟨.sli e',sz',bt',z'⟩:=by exact rfl) (he:ety E e=some de:=by exact rfl) (hb:Nat.ble de.bytes 256=true:=by exact rfl) (hf:oget ob pb=none:=by exact rfl) (hst:de.size=st:=by exact rfl) (hx0:ev tm ox=v:=by exact rfl) (hy0:ev tm oy=v1:=by exact rfl)
 (hy:RowsL F ob st v1 ys:=by first|exact .sl _|exact .own rfl|exact .nils|exact .emp) (hx:AppL F ob st v xs kl:=by first|exact .own rfl|exact .nils|exact .emp) (h11:∀a,V.ones (F a)=true:=by exact fun _=>rfl) (hz:kl.all (fun p=>(zof Z i).any (idEq p.1))=true:=by exact rfl) (hfew:few (xs++ys).length:=by assumption):WD r P E gl (.oa i t) o ρ l Z S QD (f+1) listed ⟨n,tm,ob,out,pa⟩:=by
 subst hst;subst hx0;subst hy0
 have e:=snoc_eq hp
 subst e
 exact ⟨fun h=>DAny.only (by rw [←opAt_eq];exact hi) hr (.appendM F hg hop hd hn ht htx he hb hf hx hy h11 hfew hz (h1.out h))⟩
theorem WD.te1 {A KK:Type} {a:A} {F:A→KK} {ρ:KK} {t:A→Hi} (h1:∀x,a=x→WD r P E gl (t x) (F x) ρ l Z S QD f listed σ):WD r P E gl (.b t) (letO a F) ρ l Z S QD f listed σ:=⟨fun h=>(h1 a rfl).out h⟩
theorem WD.te2 {KK A B:Type} {a:A×B} {F:A×B→KK} {ρ:KK} {t:A→B→Hi} (h1:∀x y,a=(x,y)→WD r P E gl (t x y) (F (x,y)) ρ l Z S QD f listed σ):WD r P E gl (.b2 t) (letO a F) ρ l Z S QD f listed σ:=⟨fun h=>(h1 a.1 a.2 rfl).out h⟩
theorem WD.tg0 {a:α} {fid:FuncId} {enc:α→V} {xx:α} {hs:∀x,a=x→SC P gl fid us (enc x)} (hx:a=xx) (h1:WD r P E gl (.c k (hs xx hx) t) o ρ l Z S QD f listed σ):WD r P E gl (.g k hs t) o ρ l Z S QD f listed σ:=⟨h1.out⟩
theorem WD.tob {ty:Nat} {cs:List V} (h1:WD r P E gl t o ρ l Z S QD f (listed.setIfInBounds i true) ⟨n,(d,.ptr pb 0 0)::tm,(pb,.box cs)::ob,out,pa⟩) (hi:opAt l i=some op:=by exact rfl) (hr:Region.ready .any l.toArray listed=[i]:=by kernel_rfl) (hop:op.op=.box ty ox:=by exact rfl) (hd:op.dst=some d:=by exact rfl) (hg:gd l tm op=some true:=by exact rfl) (hn:Nat.blt d n=true:=by exact rfl) (hp:snoc pa d=some pb:=by exact rfl) (hc:(ev tm ox).cells?=some cs:=by exact rfl) (h11:V.ones cs=true:=by exact rfl) (hfs:fresh ob [(pb,.box cs)]=true:=by exact rfl):WD r P E gl (.ob i t) o ρ l Z S QD (f+1) listed ⟨n,tm,ob,out,pa⟩:=by
 have e:=snoc_eq hp
 exact ⟨fun h=>DAny.only (by rw [←opAt_eq];exact hi) hr (.quiet (nw:=[(pb,.box cs)]) hg hd hn (by rw [hop,e];exact .box hc h11) hfs (h1.out h))⟩
def sel:Int→List Int→Int→Int
 | _,[],_=>0
 | _,[x],_=>x
 | j,x::y::q,n=>if n=j then x else sel (j+1) (y::q) n
theorem sel_cut {kk:IntKind}:∀{xs:List Int} {m:Nat},m < xs.length→∀j:Int,cutV (xs.map (V.int kk)) m 1=some [V.int kk (sel j xs (j+m))]
 | [],m,h,_=>by simp at h
 | [x],m,h,j=>by
  have h0:m=0:=by simp at h;omega
  subst h0;rfl
 | x::y::q,0,_,j=>by
  have e:j+((0:Nat):Int)=j:=by omega
  rw [e,sel,if_pos rfl]
  rfl
 | x::y::q,m+1,h,j=>by
  have hj:¬(j+((m+1:Nat):Int)=j):=by omega
  have:=sel_cut (kk:=kk) (xs:=y::q) (m:=m) (by simpa using h) (j+1)
  have e:j+((m+1:Nat):Int)=j+1+m:=by omega
  rw [sel,if_neg hj,e,←this]
  rfl
theorem W.tiv {xs:List Int} {ty e sz bt mm:Nat} {z cs:List V} {de:Ty} {kk k2:IntKind} {ix:Int} (h1:W P E gl t o ρ Q (.ops r l rest s) ⟨n,(d,.int k2 (sel 0 xs ix))::tm,ob,out,pa⟩) (hr:go E gl k c σ=some (.ops r l (op::rest) s,⟨n,tm,ob,out,pa⟩):=by exact rfl) (hd:op.dst=some d:=by exact rfl) (hg:gd l tm op=some true:=by exact rfl) (hn:Nat.blt d n=true:=by exact rfl) (hop:op.op=.index ty ox oy:=by exact rfl)
 (ht:ety E ty=some ⟨.arr mm e,sz,bt,z⟩:=by exact rfl) (he:ety E e=some de:=by exact rfl) (hs:de.size=1:=by exact rfl) (hag:de.k.isAgg=false:=by exact rfl) (hx:ev tm ox=.agg cs:=by exact rfl) (hcs:cs=xs.map (V.int k2):=by exact rfl) (hm:mm=xs.length:=by exact rfl) (hi:ev tm oy=.int kk ix:=by exact rfl) (hb:0≤ix∧ix < (xs.length:Int):=by assumption):W P E gl (.iv k xs t) o ρ Q c σ:=by
 subst hcs
 refine ⟨fun h=>go_ok hE.h hr (SafeOps.quiet0 hE.h hg hd hn ?_ (h1.out h))⟩
 rw [hop]
 have hc:=sel_cut (kk:=k2) (xs:=xs) (m:=ix.toNat) (by omega) 0
 have e0:(0:Int)+(ix.toNat:Int)=ix:=by omega
 rw [e0] at hc
 exact .idxVM ht he hx hi hs (mm:Int) rfl (by rw [hm];exact hb) (by rw [Nat.mul_one];exact hc) (by rw [hag];rfl)
theorem W.tnn {KK:Type} {ρ:KK}:W P E gl .nn (none:Option KK) (some ρ) Q c σ:=⟨fun h=>by cases h⟩
theorem WD.tnn {KK:Type} {ρ:KK}:WD r P E gl .nn (none:Option KK) (some ρ) l Z S QD f listed σ:=⟨fun h=>by cases h⟩
theorem WD.top {fid:FuncId} {kn:Nat} (hs:SC P gl fid us res) (h1:WD r P E gl t o ρ l Z S QD f (listed.setIfInBounds i true) ⟨n,(d,v1)::tm,ob1,out,pa⟩) (hi:opAt l i=some op:=by exact rfl) (hr:Region.ready .any l.toArray listed=[i]:=by kernel_rfl) (hop:op.op=.call ⟨.value fx,args,tys⟩:=by exact rfl) (hd:op.dst=some d:=by exact rfl) (hg:gd l tm op=some true:=by exact rfl) (hn:Nat.blt d n=true:=by exact rfl)
 (hf:ev tm fx=.fn fid caps:=by exact rfl) (hu:evs tm args.toList++caps=us:=by exact rfl) (hfr:V.free.frees us=true:=by exact rfl) (hrs:fl (pa++[d]) 0 res=(v,nw,kn):=by exact rfl) (hv:deep 3 v=some v1:=by exact rfl) (hw:appO nw ob=some ob1:=by exact rfl) (hfs:fresh ob nw=true:=by exact rfl):WD r P E gl (.op i hs t) o ρ l Z S QD (f+1) listed ⟨n,tm,ob,out,pa⟩:=by
 subst hu
 rw [deep_eq hv,appO_eq hw] at h1
 exact ⟨fun h=>DAny.only (by rw [←opAt_eq];exact hi) hr (.quiet hg hd hn (by rw [hop];exact .callP hf hfr hs hrs) hfs (h1.out h))⟩
theorem WD.toh {a:Option α} {fid:FuncId} {enc:α→V} {xx:α} {hs:∀x,a=some x→SC P gl fid us (enc x)} (hx:a=some xx) (h1:WD r P E gl (.op i (hs xx hx) t) o ρ l Z S QD f listed σ):WD r P E gl (.oh i hs t) o ρ l Z S QD f listed σ:=⟨h1.out⟩
theorem W.th2 {u:V} (h1:W P E gl t o ρ Q (.code r x s) ⟨n,(d,u)::tm,ob,out,pa⟩) (hr:go E gl k c σ=some (.code r x s,⟨n,tm,ob,out,pa⟩):=by exact rfl) (hv:tget tm d=v:=by exact rfl) (hu:Up ob v u:=by first|exact .len (by simp [rws,st])|exact .full rfl rfl|exact up_fn (by assumption)|exact .agg (by repeat first|exact .nil|refine .cons (.refl _) ?_|refine .cons (.nils _) ?_|refine .cons (.full rfl rfl) ?_)):W P E gl (.h k d u t) o ρ Q c σ:=⟨fun h=>go_ok hE.h hr (Safe.see d hv hu (h1.out h))⟩
theorem W.th3 {u:V} (h1:W P E gl t o ρ Q (.ops r l rest s) ⟨n,(d,u)::tm,ob,out,pa⟩) (hr:go E gl k c σ=some (.ops r l rest s,⟨n,tm,ob,out,pa⟩):=by exact rfl) (hv:tget tm d=v:=by exact rfl) (hu:Up ob v u:=by first|exact .len (by simp [rws,st])|exact .full rfl rfl|exact up_fn (by assumption)|exact .agg (by repeat first|exact .nil|refine .cons (.refl _) ?_|refine .cons (.nils _) ?_|refine .cons (.full rfl rfl) ?_)):W P E gl (.h k d u t) o ρ Q c σ:=⟨fun h=>go_ok hE.h hr (SafeOps.see d hv hu (h1.out h))⟩
theorem WD.tw {q:Id} {z:Obj} {ty:Nat} (h1:WD r P E gl t o ρ l Z S QD f (listed.setIfInBounds i true) ⟨n,tm,(q,z)::ob,out,pa⟩) (hi:opAt l i=some op:=by exact rfl) (hop:op.op=.store ty ox oy:=by exact rfl) (hs:AM.sto E tm ob ty ox oy=some (q,z):=by exact rfl) (hr:Region.ready .any l.toArray listed=[i]:=by kernel_rfl) (hd:op.dst=none:=by exact rfl)
 (hg:gd l tm op=some true:=by exact rfl) (hz:(zof Z i).any (idEq q)=true:=by exact rfl):WD r P E gl (.w i t) o ρ l Z S QD (f+1) listed ⟨n,tm,ob,out,pa⟩:=⟨fun h=>DAny.sto i (h1.out h) hi hop hs hr hd hg hz⟩
structure J0 {K:Type} (P:Program) (E:Env) (gl:List (Nat×List V)) (f:Unit→K) (ρ:K) (Q:Exit→St→Prop) (c:Ctl) (τ:Unit→St):Prop where
 out:f ()=ρ→c.goal P E gl Q (τ ())
theorem W.tj0 {ts:List Nat} {us:List (List Nat)} {os:List Id} {m d:Nat} {ctl:Ctl} {f:Unit→K} {τ:Unit→St→St} {t:Unit→Hi} {u:{p:Prop}→p→Hi} {n':Nat} {tm':List (Nat×V)} {ob':List (Id×Obj)} {out':List (Nat×List (Nat×V))} {pa':Id}
 (h1:W P E gl (t ()) (f ()) ρ Q ctl (τ () ⟨n',tm',ob',out',pa'⟩)) (h2:∀J:J0 P E gl f ρ Q ctl (fun a=>τ () ⟨n',tm',ob',out',pa'⟩),W P E gl (u J) o ρ Q c' σ') (hr:go E gl k c σ=some (c',σ'):=by exact rfl) (hj:jt m d c'=some ctl:=by exact rfl) (hk:kp ts us os σ'=some ⟨n',tm',ob',out',pa'⟩:=by exact rfl):W P E gl (.j0 k m d ts us os f τ t u) o ρ Q c σ :=
 ⟨fun h=>go_ok hE.h hr ((h2 ⟨fun  h=>(h1).out h⟩).out h)⟩
theorem W.tj0a {f:Unit→K} {τ:Unit→St} {J:J0 P E gl f ρ Q c' τ} (hr:go E gl k c σ=some (c',σ'):=by exact rfl) (hc:Gets gl σ' (τ ()):=by exact covA) (hno:notOut c'=true:=by exact rfl):W P E gl (.j k J) (f ()) ρ Q c σ :=
 ⟨fun h=>go_ok hE.h hr (Ctl.gets hc hno (J.out  h))⟩
theorem W.tj0c {f:Unit→K} {τ:Unit→St} {J:J0 P E gl f ρ Q c' τ} {rr:List (Id×Id)} (hr:goN E gl k c σ=some (c',σ'):=by exact rfl) (hc:Gets gl (renL rr σ') (τ ()):=by exact covA) (hno:notOut c'=true:=by exact rfl):W P E gl (.jr k J rr) (f ()) ρ Q c σ :=
 ⟨fun h=>goN_ok hE.h hr (Ctl.gets (renL_gets hc) hno (J.out  h))⟩
theorem W.tj0d {f:Unit→K} {τ:Unit→St} {J:J0 P E gl f ρ Q c' τ} {rr:List (Id×Id)} (hr:go E gl k c σ=some (c',σ'):=by exact rfl) (hc:Gets gl (renL rr σ') (τ ()):=by exact covA) (hno:notOut c'=true:=by exact rfl):W P E gl (.jR k J rr) (f ()) ρ Q c σ :=
 ⟨fun h=>go_ok hE.h hr (Ctl.gets (renL_gets hc) hno (J.out  h))⟩
theorem W.tj0b {f:Unit→K} {τ:Unit→St} {J:J0 P E gl f ρ Q c' τ} (hr:goN E gl k c σ=some (c',σ'):=by exact rfl) (hc:Gets gl σ' (τ ()):=by exact covA) (hno:notOut c'=true:=by exact rfl):W P E gl (.J k J) (f ()) ρ Q c σ :=
 ⟨fun h=>goN_ok hE.h hr (Ctl.gets hc hno (J.out  h))⟩
theorem W.tl0 {KK:Type} {step:(Unit)→Option ((Unit) ⊕ KK)} {ρ:KK} {ts:List Nat} {us:List (List Nat)} {os:List Id} {τ:Unit→St→St} {t:Unit→Hi} {n':Nat} {tm':List (Nat×V)} {ob':List (Id×Obj)} {out':List (Nat×List (Nat×V))} {pa':Id}
 (h1:∀oo,(∀k,oo=.inr k→k=ρ)→W P E gl (t ()) (step ()) (some oo) Q (.code r x (.lp (fun σ'=>∃x',oo=.inl x'∧Gets gl σ' (τ () ⟨n',tm',ob',out',pa'⟩))::s)) (τ () ⟨n',tm',ob',out',pa'⟩))
 (hr:go E gl k c σ=some (.code r (.loop x) s,σ'):=by exact rfl) (hk:kp ts us os σ'=some ⟨n',tm',ob',out',pa'⟩:=by exact rfl) (hc:Gets gl σ' (τ () ⟨n',tm',ob',out',pa'⟩):=by exact covA):W P E gl (.l0 k ts us os τ t) (whileO step ()) (some ρ) Q c σ :=
 ⟨fun h=>go_ok hE.h hr (Safe.loopS (fun p=>τ () ⟨n',tm',ob',out',pa'⟩) h hc (fun p oo hs hρ=>(h1  oo hρ).out hs))⟩
theorem W.tem0 {KK:Type} {step:(Unit)→Option ((Unit) ⊕ KK)} {ρ:KK} {es:List (Id×Nat)} {ts:List Nat} {us:List (List Nat)} {os:List Id} {τ:Unit→St→St} {t:Unit→Hi} {σ2:St} {n':Nat} {tm':List (Nat×V)} {ob':List (Id×Obj)} {out':List (Nat×List (Nat×V))} {pa':Id}
 (h1:∀oo,(∀k,oo=.inr k→k=ρ)→W P E gl (t ()) (step ()) (some oo) Q (.code r x (.lp (fun σ'=>∃x',oo=.inl x'∧Gets gl σ' (τ () ⟨n',tm',ob',out',pa'⟩))::s)) (τ () ⟨n',tm',ob',out',pa'⟩))
 (hr:go E gl k c σ=some (.code r (.loop x) s,σ'):=by exact rfl) (hk:kp ts us os σ'=some ⟨n',tm',ob',out',pa'⟩:=by exact rfl) (he:emL es σ'=some σ2:=by exact rfl) (hc:Gets gl σ2 (τ () ⟨n',tm',ob',out',pa'⟩):=by first|exact covA|refine .cov ⟨rfl,rfl,?_,?_,?_,rfl⟩<;>repeat first|exact upT_nil|refine upT_cons (.refl _) ?_|refine upT_cons (.nilref _) ?_|exact upOb_nil|refine upOb_cons rfl (.refl _) ?_|refine upOb_cons rfl (.box (by repeat first|exact .nil|refine .cons (.refl _) ?_|refine .cons (.nilref _) ?_)) ?_|exact upOut_nil|refine upOut_cons rfl ?_):W P E gl (.m0 k es ts us os τ t) (whileO step ()) (some ρ) Q c σ :=
 ⟨fun h=>go_ok hE.h hr (Safe.loopS (fun p=>τ () ⟨n',tm',ob',out',pa'⟩) h (emL_gets he hc) (fun p oo hs hρ=>(h1  oo hρ).out hs))⟩
structure J1 {K:Type} {A0:Type} (P:Program) (E:Env) (gl:List (Nat×List V)) (f:A0→K) (ρ:K) (Q:Exit→St→Prop) (c:Ctl) (τ:A0→St):Prop where
 out:∀a0,f a0=ρ→c.goal P E gl Q (τ a0)
theorem W.tj1 {A0:Type} {ts:List Nat} {us:List (List Nat)} {os:List Id} {m d:Nat} {ctl:Ctl} {f:A0→K} {τ:A0→St→St} {t:A0→Hi} {u:{p:Prop}→p→Hi} {n':Nat} {tm':List (Nat×V)} {ob':List (Id×Obj)} {out':List (Nat×List (Nat×V))} {pa':Id}
 (h1:∀a0,W P E gl (t a0) (f a0) ρ Q ctl (τ a0 ⟨n',tm',ob',out',pa'⟩)) (h2:∀J:J1 P E gl f ρ Q ctl (fun a0=>τ a0 ⟨n',tm',ob',out',pa'⟩),W P E gl (u J) o ρ Q c' σ') (hr:go E gl k c σ=some (c',σ'):=by exact rfl) (hj:jt m d c'=some ctl:=by exact rfl) (hk:kp ts us os σ'=some ⟨n',tm',ob',out',pa'⟩:=by exact rfl):W P E gl (.j1 k m d ts us os f τ t u) o ρ Q c σ :=
 ⟨fun h=>go_ok hE.h hr ((h2 ⟨fun a0 h=>(h1 a0).out h⟩).out h)⟩
theorem W.tj1a {A0:Type} {f:A0→K} {τ:A0→St} {J:J1 P E gl f ρ Q c' τ} {a0:A0} (hr:go E gl k c σ=some (c',σ'):=by exact rfl) (hc:Gets gl σ' (τ a0):=by exact covA) (hno:notOut c'=true:=by exact rfl):W P E gl (.j k J) (f a0) ρ Q c σ :=
 ⟨fun h=>go_ok hE.h hr (Ctl.gets hc hno (J.out a0 h))⟩
theorem W.tj1c {A0:Type} {f:A0→K} {τ:A0→St} {J:J1 P E gl f ρ Q c' τ} {a0:A0} {rr:List (Id×Id)} (hr:goN E gl k c σ=some (c',σ'):=by exact rfl) (hc:Gets gl (renL rr σ') (τ a0):=by exact covA) (hno:notOut c'=true:=by exact rfl):W P E gl (.jr k J rr) (f a0) ρ Q c σ :=
 ⟨fun h=>goN_ok hE.h hr (Ctl.gets (renL_gets hc) hno (J.out a0 h))⟩
theorem W.tj1d {A0:Type} {f:A0→K} {τ:A0→St} {J:J1 P E gl f ρ Q c' τ} {a0:A0} {rr:List (Id×Id)} (hr:go E gl k c σ=some (c',σ'):=by exact rfl) (hc:Gets gl (renL rr σ') (τ a0):=by exact covA) (hno:notOut c'=true:=by exact rfl):W P E gl (.jR k J rr) (f a0) ρ Q c σ :=
 ⟨fun h=>go_ok hE.h hr (Ctl.gets (renL_gets hc) hno (J.out a0 h))⟩
theorem W.tj1b {A0:Type} {f:A0→K} {τ:A0→St} {J:J1 P E gl f ρ Q c' τ} {a0:A0} (hr:goN E gl k c σ=some (c',σ'):=by exact rfl) (hc:Gets gl σ' (τ a0):=by exact covA) (hno:notOut c'=true:=by exact rfl):W P E gl (.J k J) (f a0) ρ Q c σ :=
 ⟨fun h=>goN_ok hE.h hr (Ctl.gets hc hno (J.out a0 h))⟩
theorem W.tl1 {A0:Type} {KK:Type} {step:(A0)→Option ((A0) ⊕ KK)} {b0:A0} {ρ:KK} {ts:List Nat} {us:List (List Nat)} {os:List Id} {τ:A0→St→St} {t:A0→Hi} {n':Nat} {tm':List (Nat×V)} {ob':List (Id×Obj)} {out':List (Nat×List (Nat×V))} {pa':Id}
 (h1:∀a0,∀oo,(∀k,oo=.inr k→k=ρ)→W P E gl (t a0) (step a0) (some oo) Q (.code r x (.lp (fun σ'=>∃x',oo=.inl x'∧Gets gl σ' (τ x' ⟨n',tm',ob',out',pa'⟩))::s)) (τ a0 ⟨n',tm',ob',out',pa'⟩))
 (hr:go E gl k c σ=some (.code r (.loop x) s,σ'):=by exact rfl) (hk:kp ts us os σ'=some ⟨n',tm',ob',out',pa'⟩:=by exact rfl) (hc:Gets gl σ' (τ b0 ⟨n',tm',ob',out',pa'⟩):=by exact covA):W P E gl (.l1 k ts us os τ t) (whileO step b0) (some ρ) Q c σ :=
 ⟨fun h=>go_ok hE.h hr (Safe.loopS (fun p=>τ p ⟨n',tm',ob',out',pa'⟩) h hc (fun p oo hs hρ=>(h1 p oo hρ).out hs))⟩
theorem W.tem1 {A0:Type} {KK:Type} {step:(A0)→Option ((A0) ⊕ KK)} {b0:A0} {ρ:KK} {es:List (Id×Nat)} {ts:List Nat} {us:List (List Nat)} {os:List Id} {τ:A0→St→St} {t:A0→Hi} {σ2:St} {n':Nat} {tm':List (Nat×V)} {ob':List (Id×Obj)} {out':List (Nat×List (Nat×V))} {pa':Id}
 (h1:∀a0,∀oo,(∀k,oo=.inr k→k=ρ)→W P E gl (t a0) (step a0) (some oo) Q (.code r x (.lp (fun σ'=>∃x',oo=.inl x'∧Gets gl σ' (τ x' ⟨n',tm',ob',out',pa'⟩))::s)) (τ a0 ⟨n',tm',ob',out',pa'⟩))
 (hr:go E gl k c σ=some (.code r (.loop x) s,σ'):=by exact rfl) (hk:kp ts us os σ'=some ⟨n',tm',ob',out',pa'⟩:=by exact rfl) (he:emL es σ'=some σ2:=by exact rfl) (hc:Gets gl σ2 (τ b0 ⟨n',tm',ob',out',pa'⟩):=by first|exact covA|refine .cov ⟨rfl,rfl,?_,?_,?_,rfl⟩<;>repeat first|exact upT_nil|refine upT_cons (.refl _) ?_|refine upT_cons (.nilref _) ?_|exact upOb_nil|refine upOb_cons rfl (.refl _) ?_|refine upOb_cons rfl (.box (by repeat first|exact .nil|refine .cons (.refl _) ?_|refine .cons (.nilref _) ?_)) ?_|exact upOut_nil|refine upOut_cons rfl ?_):W P E gl (.m1 k es ts us os τ t) (whileO step b0) (some ρ) Q c σ :=
 ⟨fun h=>go_ok hE.h hr (Safe.loopS (fun p=>τ p ⟨n',tm',ob',out',pa'⟩) h (emL_gets he hc) (fun p oo hs hρ=>(h1 p oo hρ).out hs))⟩
structure J2 {K:Type} {A0 A1:Type} (P:Program) (E:Env) (gl:List (Nat×List V)) (f:A0→A1→K) (ρ:K) (Q:Exit→St→Prop) (c:Ctl) (τ:A0→A1→St):Prop where
 out:∀a0 a1,f a0 a1=ρ→c.goal P E gl Q (τ a0 a1)
theorem W.tj2 {A0 A1:Type} {ts:List Nat} {us:List (List Nat)} {os:List Id} {m d:Nat} {ctl:Ctl} {f:A0→A1→K} {τ:A0→A1→St→St} {t:A0→A1→Hi} {u:{p:Prop}→p→Hi} {n':Nat} {tm':List (Nat×V)} {ob':List (Id×Obj)} {out':List (Nat×List (Nat×V))} {pa':Id}
 (h1:∀a0 a1,W P E gl (t a0 a1) (f a0 a1) ρ Q ctl (τ a0 a1 ⟨n',tm',ob',out',pa'⟩)) (h2:∀J:J2 P E gl f ρ Q ctl (fun a0 a1=>τ a0 a1 ⟨n',tm',ob',out',pa'⟩),W P E gl (u J) o ρ Q c' σ') (hr:go E gl k c σ=some (c',σ'):=by exact rfl) (hj:jt m d c'=some ctl:=by exact rfl) (hk:kp ts us os σ'=some ⟨n',tm',ob',out',pa'⟩:=by exact rfl):W P E gl (.j2 k m d ts us os f τ t u) o ρ Q c σ :=
 ⟨fun h=>go_ok hE.h hr ((h2 ⟨fun a0 a1 h=>(h1 a0 a1).out h⟩).out h)⟩
theorem W.tj2a {A0 A1:Type} {f:A0→A1→K} {τ:A0→A1→St} {J:J2 P E gl f ρ Q c' τ} {a0:A0} {a1:A1} (hr:go E gl k c σ=some (c',σ'):=by exact rfl) (hc:Gets gl σ' (τ a0 a1):=by exact covA) (hno:notOut c'=true:=by exact rfl):W P E gl (.j k J) (f a0 a1) ρ Q c σ :=
 ⟨fun h=>go_ok hE.h hr (Ctl.gets hc hno (J.out a0 a1 h))⟩
theorem W.tj2c {A0 A1:Type} {f:A0→A1→K} {τ:A0→A1→St} {J:J2 P E gl f ρ Q c' τ} {a0:A0} {a1:A1} {rr:List (Id×Id)} (hr:goN E gl k c σ=some (c',σ'):=by exact rfl) (hc:Gets gl (renL rr σ') (τ a0 a1):=by exact covA) (hno:notOut c'=true:=by exact rfl):W P E gl (.jr k J rr) (f a0 a1) ρ Q c σ :=
 ⟨fun h=>goN_ok hE.h hr (Ctl.gets (renL_gets hc) hno (J.out a0 a1 h))⟩
theorem W.tj2d {A0 A1:Type} {f:A0→A1→K} {τ:A0→A1→St} {J:J2 P E gl f ρ Q c' τ} {a0:A0} {a1:A1} {rr:List (Id×Id)} (hr:go E gl k c σ=some (c',σ'):=by exact rfl) (hc:Gets gl (renL rr σ') (τ a0 a1):=by exact covA) (hno:notOut c'=true:=by exact rfl):W P E gl (.jR k J rr) (f a0 a1) ρ Q c σ :=
 ⟨fun h=>go_ok hE.h hr (Ctl.gets (renL_gets hc) hno (J.out a0 a1 h))⟩
theorem W.tj2b {A0 A1:Type} {f:A0→A1→K} {τ:A0→A1→St} {J:J2 P E gl f ρ Q c' τ} {a0:A0} {a1:A1} (hr:goN E gl k c σ=some (c',σ'):=by exact rfl) (hc:Gets gl σ' (τ a0 a1):=by exact covA) (hno:notOut c'=true:=by exact rfl):W P E gl (.J k J) (f a0 a1) ρ Q c σ :=
 ⟨fun h=>goN_ok hE.h hr (Ctl.gets hc hno (J.out a0 a1 h))⟩
theorem W.tl2 {A0 A1:Type} {KK:Type} {step:(A0×A1)→Option ((A0×A1) ⊕ KK)} {b0:A0} {b1:A1} {ρ:KK} {ts:List Nat} {us:List (List Nat)} {os:List Id} {τ:A0→A1→St→St} {t:A0→A1→Hi} {n':Nat} {tm':List (Nat×V)} {ob':List (Id×Obj)} {out':List (Nat×List (Nat×V))} {pa':Id}
 (h1:∀a0 a1,∀oo,(∀k,oo=.inr k→k=ρ)→W P E gl (t a0 a1) (step (a0,a1)) (some oo) Q (.code r x (.lp (fun σ'=>∃x',oo=.inl x'∧Gets gl σ' (τ x'.1 x'.2 ⟨n',tm',ob',out',pa'⟩))::s)) (τ a0 a1 ⟨n',tm',ob',out',pa'⟩))
 (hr:go E gl k c σ=some (.code r (.loop x) s,σ'):=by exact rfl) (hk:kp ts us os σ'=some ⟨n',tm',ob',out',pa'⟩:=by exact rfl) (hc:Gets gl σ' (τ b0 b1 ⟨n',tm',ob',out',pa'⟩):=by exact covA):W P E gl (.l2 k ts us os τ t) (whileO step (b0,b1)) (some ρ) Q c σ :=
 ⟨fun h=>go_ok hE.h hr (Safe.loopS (fun p=>τ p.1 p.2 ⟨n',tm',ob',out',pa'⟩) h hc (fun p oo hs hρ=>(h1 p.1 p.2 oo hρ).out hs))⟩
theorem W.tem2 {A0 A1:Type} {KK:Type} {step:(A0×A1)→Option ((A0×A1) ⊕ KK)} {b0:A0} {b1:A1} {ρ:KK} {es:List (Id×Nat)} {ts:List Nat} {us:List (List Nat)} {os:List Id} {τ:A0→A1→St→St} {t:A0→A1→Hi} {σ2:St} {n':Nat} {tm':List (Nat×V)} {ob':List (Id×Obj)} {out':List (Nat×List (Nat×V))} {pa':Id}
 (h1:∀a0 a1,∀oo,(∀k,oo=.inr k→k=ρ)→W P E gl (t a0 a1) (step (a0,a1)) (some oo) Q (.code r x (.lp (fun σ'=>∃x',oo=.inl x'∧Gets gl σ' (τ x'.1 x'.2 ⟨n',tm',ob',out',pa'⟩))::s)) (τ a0 a1 ⟨n',tm',ob',out',pa'⟩))
 (hr:go E gl k c σ=some (.code r (.loop x) s,σ'):=by exact rfl) (hk:kp ts us os σ'=some ⟨n',tm',ob',out',pa'⟩:=by exact rfl) (he:emL es σ'=some σ2:=by exact rfl) (hc:Gets gl σ2 (τ b0 b1 ⟨n',tm',ob',out',pa'⟩):=by first|exact covA|refine .cov ⟨rfl,rfl,?_,?_,?_,rfl⟩<;>repeat first|exact upT_nil|refine upT_cons (.refl _) ?_|refine upT_cons (.nilref _) ?_|exact upOb_nil|refine upOb_cons rfl (.refl _) ?_|refine upOb_cons rfl (.box (by repeat first|exact .nil|refine .cons (.refl _) ?_|refine .cons (.nilref _) ?_)) ?_|exact upOut_nil|refine upOut_cons rfl ?_):W P E gl (.m2 k es ts us os τ t) (whileO step (b0,b1)) (some ρ) Q c σ :=
 ⟨fun h=>go_ok hE.h hr (Safe.loopS (fun p=>τ p.1 p.2 ⟨n',tm',ob',out',pa'⟩) h (emL_gets he hc) (fun p oo hs hρ=>(h1 p.1 p.2 oo hρ).out hs))⟩
structure J3 {K:Type} {A0 A1 A2:Type} (P:Program) (E:Env) (gl:List (Nat×List V)) (f:A0→A1→A2→K) (ρ:K) (Q:Exit→St→Prop) (c:Ctl) (τ:A0→A1→A2→St):Prop where
 out:∀a0 a1 a2,f a0 a1 a2=ρ→c.goal P E gl Q (τ a0 a1 a2)
theorem W.tj3 {A0 A1 A2:Type} {ts:List Nat} {us:List (List Nat)} {os:List Id} {m d:Nat} {ctl:Ctl} {f:A0→A1→A2→K} {τ:A0→A1→A2→St→St} {t:A0→A1→A2→Hi} {u:{p:Prop}→p→Hi} {n':Nat} {tm':List (Nat×V)} {ob':List (Id×Obj)} {out':List (Nat×List (Nat×V))} {pa':Id}
 (h1:∀a0 a1 a2,W P E gl (t a0 a1 a2) (f a0 a1 a2) ρ Q ctl (τ a0 a1 a2 ⟨n',tm',ob',out',pa'⟩)) (h2:∀J:J3 P E gl f ρ Q ctl (fun a0 a1 a2=>τ a0 a1 a2 ⟨n',tm',ob',out',pa'⟩),W P E gl (u J) o ρ Q c' σ') (hr:go E gl k c σ=some (c',σ'):=by exact rfl) (hj:jt m d c'=some ctl:=by exact rfl) (hk:kp ts us os σ'=some ⟨n',tm',ob',out',pa'⟩:=by exact rfl):W P E gl (.j3 k m d ts us os f τ t u) o ρ Q c σ :=
 ⟨fun h=>go_ok hE.h hr ((h2 ⟨fun a0 a1 a2 h=>(h1 a0 a1 a2).out h⟩).out h)⟩
theorem W.tj3a {A0 A1 A2:Type} {f:A0→A1→A2→K} {τ:A0→A1→A2→St} {J:J3 P E gl f ρ Q c' τ} {a0:A0} {a1:A1} {a2:A2} (hr:go E gl k c σ=some (c',σ'):=by exact rfl) (hc:Gets gl σ' (τ a0 a1 a2):=by exact covA) (hno:notOut c'=true:=by exact rfl):W P E gl (.j k J) (f a0 a1 a2) ρ Q c σ :=
 ⟨fun h=>go_ok hE.h hr (Ctl.gets hc hno (J.out a0 a1 a2 h))⟩
theorem W.tj3c {A0 A1 A2:Type} {f:A0→A1→A2→K} {τ:A0→A1→A2→St} {J:J3 P E gl f ρ Q c' τ} {a0:A0} {a1:A1} {a2:A2} {rr:List (Id×Id)} (hr:goN E gl k c σ=some (c',σ'):=by exact rfl) (hc:Gets gl (renL rr σ') (τ a0 a1 a2):=by exact covA) (hno:notOut c'=true:=by exact rfl):W P E gl (.jr k J rr) (f a0 a1 a2) ρ Q c σ :=
 ⟨fun h=>goN_ok hE.h hr (Ctl.gets (renL_gets hc) hno (J.out a0 a1 a2 h))⟩
theorem W.tj3d {A0 A1 A2:Type} {f:A0→A1→A2→K} {τ:A0→A1→A2→St} {J:J3 P E gl f ρ Q c' τ} {a0:A0} {a1:A1} {a2:A2} {rr:List (Id×Id)} (hr:go E gl k c σ=some (c',σ'):=by exact rfl) (hc:Gets gl (renL rr σ') (τ a0 a1 a2):=by exact covA) (hno:notOut c'=true:=by exact rfl):W P E gl (.jR k J rr) (f a0 a1 a2) ρ Q c σ :=
 ⟨fun h=>go_ok hE.h hr (Ctl.gets (renL_gets hc) hno (J.out a0 a1 a2 h))⟩
theorem W.tj3b {A0 A1 A2:Type} {f:A0→A1→A2→K} {τ:A0→A1→A2→St} {J:J3 P E gl f ρ Q c' τ} {a0:A0} {a1:A1} {a2:A2} (hr:goN E gl k c σ=some (c',σ'):=by exact rfl) (hc:Gets gl σ' (τ a0 a1 a2):=by exact covA) (hno:notOut c'=true:=by exact rfl):W P E gl (.J k J) (f a0 a1 a2) ρ Q c σ :=
 ⟨fun h=>goN_ok hE.h hr (Ctl.gets hc hno (J.out a0 a1 a2 h))⟩
theorem W.tl3 {A0 A1 A2:Type} {KK:Type} {step:(A0×A1×A2)→Option ((A0×A1×A2) ⊕ KK)} {b0:A0} {b1:A1} {b2:A2} {ρ:KK} {ts:List Nat} {us:List (List Nat)} {os:List Id} {τ:A0→A1→A2→St→St} {t:A0→A1→A2→Hi} {n':Nat} {tm':List (Nat×V)} {ob':List (Id×Obj)} {out':List (Nat×List (Nat×V))} {pa':Id}
 (h1:∀a0 a1 a2,∀oo,(∀k,oo=.inr k→k=ρ)→W P E gl (t a0 a1 a2) (step (a0,a1,a2)) (some oo) Q (.code r x (.lp (fun σ'=>∃x',oo=.inl x'∧Gets gl σ' (τ x'.1 x'.2.1 x'.2.2 ⟨n',tm',ob',out',pa'⟩))::s)) (τ a0 a1 a2 ⟨n',tm',ob',out',pa'⟩))
 (hr:go E gl k c σ=some (.code r (.loop x) s,σ'):=by exact rfl) (hk:kp ts us os σ'=some ⟨n',tm',ob',out',pa'⟩:=by exact rfl) (hc:Gets gl σ' (τ b0 b1 b2 ⟨n',tm',ob',out',pa'⟩):=by exact covA):W P E gl (.l3 k ts us os τ t) (whileO step (b0,b1,b2)) (some ρ) Q c σ :=
 ⟨fun h=>go_ok hE.h hr (Safe.loopS (fun p=>τ p.1 p.2.1 p.2.2 ⟨n',tm',ob',out',pa'⟩) h hc (fun p oo hs hρ=>(h1 p.1 p.2.1 p.2.2 oo hρ).out hs))⟩
theorem W.tem3 {A0 A1 A2:Type} {KK:Type} {step:(A0×A1×A2)→Option ((A0×A1×A2) ⊕ KK)} {b0:A0} {b1:A1} {b2:A2} {ρ:KK} {es:List (Id×Nat)} {ts:List Nat} {us:List (List Nat)} {os:List Id} {τ:A0→A1→A2→St→St} {t:A0→A1→A2→Hi} {σ2:St} {n':Nat} {tm':List (Nat×V)} {ob':List (Id×Obj)} {out':List (Nat×List (Nat×V))} {pa':Id}
 (h1:∀a0 a1 a2,∀oo,(∀k,oo=.inr k→k=ρ)→W P E gl (t a0 a1 a2) (step (a0,a1,a2)) (some oo) Q (.code r x (.lp (fun σ'=>∃x',oo=.inl x'∧Gets gl σ' (τ x'.1 x'.2.1 x'.2.2 ⟨n',tm',ob',out',pa'⟩))::s)) (τ a0 a1 a2 ⟨n',tm',ob',out',pa'⟩))
 (hr:go E gl k c σ=some (.code r (.loop x) s,σ'):=by exact rfl) (hk:kp ts us os σ'=some ⟨n',tm',ob',out',pa'⟩:=by exact rfl) (he:emL es σ'=some σ2:=by exact rfl) (hc:Gets gl σ2 (τ b0 b1 b2 ⟨n',tm',ob',out',pa'⟩):=by first|exact covA|refine .cov ⟨rfl,rfl,?_,?_,?_,rfl⟩<;>repeat first|exact upT_nil|refine upT_cons (.refl _) ?_|refine upT_cons (.nilref _) ?_|exact upOb_nil|refine upOb_cons rfl (.refl _) ?_|refine upOb_cons rfl (.box (by repeat first|exact .nil|refine .cons (.refl _) ?_|refine .cons (.nilref _) ?_)) ?_|exact upOut_nil|refine upOut_cons rfl ?_):W P E gl (.m3 k es ts us os τ t) (whileO step (b0,b1,b2)) (some ρ) Q c σ :=
 ⟨fun h=>go_ok hE.h hr (Safe.loopS (fun p=>τ p.1 p.2.1 p.2.2 ⟨n',tm',ob',out',pa'⟩) h (emL_gets he hc) (fun p oo hs hρ=>(h1 p.1 p.2.1 p.2.2 oo hρ).out hs))⟩
structure J4 {K:Type} {A0 A1 A2 A3:Type} (P:Program) (E:Env) (gl:List (Nat×List V)) (f:A0→A1→A2→A3→K) (ρ:K) (Q:Exit→St→Prop) (c:Ctl) (τ:A0→A1→A2→A3→St):Prop where
 out:∀a0 a1 a2 a3,f a0 a1 a2 a3=ρ→c.goal P E gl Q (τ a0 a1 a2 a3)
theorem W.tj4 {A0 A1 A2 A3:Type} {ts:List Nat} {us:List (List Nat)} {os:List Id} {m d:Nat} {ctl:Ctl} {f:A0→A1→A2→A3→K} {τ:A0→A1→A2→A3→St→St} {t:A0→A1→A2→A3→Hi} {u:{p:Prop}→p→Hi} {n':Nat} {tm':List (Nat×V)} {ob':List (Id×Obj)} {out':List (Nat×List (Nat×V))} {pa':Id}
 (h1:∀a0 a1 a2 a3,W P E gl (t a0 a1 a2 a3) (f a0 a1 a2 a3) ρ Q ctl (τ a0 a1 a2 a3 ⟨n',tm',ob',out',pa'⟩)) (h2:∀J:J4 P E gl f ρ Q ctl (fun a0 a1 a2 a3=>τ a0 a1 a2 a3 ⟨n',tm',ob',out',pa'⟩),W P E gl (u J) o ρ Q c' σ') (hr:go E gl k c σ=some (c',σ'):=by exact rfl) (hj:jt m d c'=some ctl:=by exact rfl) (hk:kp ts us os σ'=some ⟨n',tm',ob',out',pa'⟩:=by exact rfl):W P E gl (.j4 k m d ts us os f τ t u) o ρ Q c σ :=
 ⟨fun h=>go_ok hE.h hr ((h2 ⟨fun a0 a1 a2 a3 h=>(h1 a0 a1 a2 a3).out h⟩).out h)⟩
theorem W.tj4a {A0 A1 A2 A3:Type} {f:A0→A1→A2→A3→K} {τ:A0→A1→A2→A3→St} {J:J4 P E gl f ρ Q c' τ} {a0:A0} {a1:A1} {a2:A2} {a3:A3} (hr:go E gl k c σ=some (c',σ'):=by exact rfl) (hc:Gets gl σ' (τ a0 a1 a2 a3):=by exact covA) (hno:notOut c'=true:=by exact rfl):W P E gl (.j k J) (f a0 a1 a2 a3) ρ Q c σ :=
 ⟨fun h=>go_ok hE.h hr (Ctl.gets hc hno (J.out a0 a1 a2 a3 h))⟩
theorem W.tj4c {A0 A1 A2 A3:Type} {f:A0→A1→A2→A3→K} {τ:A0→A1→A2→A3→St} {J:J4 P E gl f ρ Q c' τ} {a0:A0} {a1:A1} {a2:A2} {a3:A3} {rr:List (Id×Id)} (hr:goN E gl k c σ=some (c',σ'):=by exact rfl) (hc:Gets gl (renL rr σ') (τ a0 a1 a2 a3):=by exact covA) (hno:notOut c'=true:=by exact rfl):W P E gl (.jr k J rr) (f a0 a1 a2 a3) ρ Q c σ :=
 ⟨fun h=>goN_ok hE.h hr (Ctl.gets (renL_gets hc) hno (J.out a0 a1 a2 a3 h))⟩
theorem W.tj4d {A0 A1 A2 A3:Type} {f:A0→A1→A2→A3→K} {τ:A0→A1→A2→A3→St} {J:J4 P E gl f ρ Q c' τ} {a0:A0} {a1:A1} {a2:A2} {a3:A3} {rr:List (Id×Id)} (hr:go E gl k c σ=some (c',σ'):=by exact rfl) (hc:Gets gl (renL rr σ') (τ a0 a1 a2 a3):=by exact covA) (hno:notOut c'=true:=by exact rfl):W P E gl (.jR k J rr) (f a0 a1 a2 a3) ρ Q c σ :=
 ⟨fun h=>go_ok hE.h hr (Ctl.gets (renL_gets hc) hno (J.out a0 a1 a2 a3 h))⟩
theorem W.tj4b {A0 A1 A2 A3:Type} {f:A0→A1→A2→A3→K} {τ:A0→A1→A2→A3→St} {J:J4 P E gl f ρ Q c' τ} {a0:A0} {a1:A1} {a2:A2} {a3:A3} (hr:goN E gl k c σ=some (c',σ'):=by exact rfl) (hc:Gets gl σ' (τ a0 a1 a2 a3):=by exact covA) (hno:notOut c'=true:=by exact rfl):W P E gl (.J k J) (f a0 a1 a2 a3) ρ Q c σ :=
 ⟨fun h=>goN_ok hE.h hr (Ctl.gets hc hno (J.out a0 a1 a2 a3 h))⟩
theorem W.tl4 {A0 A1 A2 A3:Type} {KK:Type} {step:(A0×A1×A2×A3)→Option ((A0×A1×A2×A3) ⊕ KK)} {b0:A0} {b1:A1} {b2:A2} {b3:A3} {ρ:KK} {ts:List Nat} {us:List (List Nat)} {os:List Id} {τ:A0→A1→A2→A3→St→St} {t:A0→A1→A2→A3→Hi} {n':Nat} {tm':List (Nat×V)} {ob':List (Id×Obj)} {out':List (Nat×List (Nat×V))} {pa':Id}
 (h1:∀a0 a1 a2 a3,∀oo,(∀k,oo=.inr k→k=ρ)→W P E gl (t a0 a1 a2 a3) (step (a0,a1,a2,a3)) (some oo) Q (.code r x (.lp (fun σ'=>∃x',oo=.inl x'∧Gets gl σ' (τ x'.1 x'.2.1 x'.2.2.1 x'.2.2.2 ⟨n',tm',ob',out',pa'⟩))::s)) (τ a0 a1 a2 a3 ⟨n',tm',ob',out',pa'⟩))
 (hr:go E gl k c σ=some (.code r (.loop x) s,σ'):=by exact rfl) (hk:kp ts us os σ'=some ⟨n',tm',ob',out',pa'⟩:=by exact rfl) (hc:Gets gl σ' (τ b0 b1 b2 b3 ⟨n',tm',ob',out',pa'⟩):=by exact covA):W P E gl (.l4 k ts us os τ t) (whileO step (b0,b1,b2,b3)) (some ρ) Q c σ :=
 ⟨fun h=>go_ok hE.h hr (Safe.loopS (fun p=>τ p.1 p.2.1 p.2.2.1 p.2.2.2 ⟨n',tm',ob',out',pa'⟩) h hc (fun p oo hs hρ=>(h1 p.1 p.2.1 p.2.2.1 p.2.2.2 oo hρ).out hs))⟩
theorem W.tem4 {A0 A1 A2 A3:Type} {KK:Type} {step:(A0×A1×A2×A3)→Option ((A0×A1×A2×A3) ⊕ KK)} {b0:A0} {b1:A1} {b2:A2} {b3:A3} {ρ:KK} {es:List (Id×Nat)} {ts:List Nat} {us:List (List Nat)} {os:List Id} {τ:A0→A1→A2→A3→St→St} {t:A0→A1→A2→A3→Hi} {σ2:St} {n':Nat} {tm':List (Nat×V)} {ob':List (Id×Obj)} {out':List (Nat×List (Nat×V))} {pa':Id}
 (h1:∀a0 a1 a2 a3,∀oo,(∀k,oo=.inr k→k=ρ)→W P E gl (t a0 a1 a2 a3) (step (a0,a1,a2,a3)) (some oo) Q (.code r x (.lp (fun σ'=>∃x',oo=.inl x'∧Gets gl σ' (τ x'.1 x'.2.1 x'.2.2.1 x'.2.2.2 ⟨n',tm',ob',out',pa'⟩))::s)) (τ a0 a1 a2 a3 ⟨n',tm',ob',out',pa'⟩))
 (hr:go E gl k c σ=some (.code r (.loop x) s,σ'):=by exact rfl) (hk:kp ts us os σ'=some ⟨n',tm',ob',out',pa'⟩:=by exact rfl) (he:emL es σ'=some σ2:=by exact rfl) (hc:Gets gl σ2 (τ b0 b1 b2 b3 ⟨n',tm',ob',out',pa'⟩):=by first|exact covA|refine .cov ⟨rfl,rfl,?_,?_,?_,rfl⟩<;>repeat first|exact upT_nil|refine upT_cons (.refl _) ?_|refine upT_cons (.nilref _) ?_|exact upOb_nil|refine upOb_cons rfl (.refl _) ?_|refine upOb_cons rfl (.box (by repeat first|exact .nil|refine .cons (.refl _) ?_|refine .cons (.nilref _) ?_)) ?_|exact upOut_nil|refine upOut_cons rfl ?_):W P E gl (.m4 k es ts us os τ t) (whileO step (b0,b1,b2,b3)) (some ρ) Q c σ :=
 ⟨fun h=>go_ok hE.h hr (Safe.loopS (fun p=>τ p.1 p.2.1 p.2.2.1 p.2.2.2 ⟨n',tm',ob',out',pa'⟩) h (emL_gets he hc) (fun p oo hs hρ=>(h1 p.1 p.2.1 p.2.2.1 p.2.2.2 oo hρ).out hs))⟩
structure J5 {K:Type} {A0 A1 A2 A3 A4:Type} (P:Program) (E:Env) (gl:List (Nat×List V)) (f:A0→A1→A2→A3→A4→K) (ρ:K) (Q:Exit→St→Prop) (c:Ctl) (τ:A0→A1→A2→A3→A4→St):Prop where
 out:∀a0 a1 a2 a3 a4,f a0 a1 a2 a3 a4=ρ→c.goal P E gl Q (τ a0 a1 a2 a3 a4)
theorem W.tj5 {A0 A1 A2 A3 A4:Type} {ts:List Nat} {us:List (List Nat)} {os:List Id} {m d:Nat} {ctl:Ctl} {f:A0→A1→A2→A3→A4→K} {τ:A0→A1→A2→A3→A4→St→St} {t:A0→A1→A2→A3→A4→Hi} {u:{p:Prop}→p→Hi} {n':Nat} {tm':List (Nat×V)} {ob':List (Id×Obj)} {out':List (Nat×List (Nat×V))} {pa':Id}
 (h1:∀a0 a1 a2 a3 a4,W P E gl (t a0 a1 a2 a3 a4) (f a0 a1 a2 a3 a4) ρ Q ctl (τ a0 a1 a2 a3 a4 ⟨n',tm',ob',out',pa'⟩)) (h2:∀J:J5 P E gl f ρ Q ctl (fun a0 a1 a2 a3 a4=>τ a0 a1 a2 a3 a4 ⟨n',tm',ob',out',pa'⟩),W P E gl (u J) o ρ Q c' σ') (hr:go E gl k c σ=some (c',σ'):=by exact rfl) (hj:jt m d c'=some ctl:=by exact rfl) (hk:kp ts us os σ'=some ⟨n',tm',ob',out',pa'⟩:=by exact rfl):W P E gl (.j5 k m d ts us os f τ t u) o ρ Q c σ :=
 ⟨fun h=>go_ok hE.h hr ((h2 ⟨fun a0 a1 a2 a3 a4 h=>(h1 a0 a1 a2 a3 a4).out h⟩).out h)⟩
theorem W.tj5a {A0 A1 A2 A3 A4:Type} {f:A0→A1→A2→A3→A4→K} {τ:A0→A1→A2→A3→A4→St} {J:J5 P E gl f ρ Q c' τ} {a0:A0} {a1:A1} {a2:A2} {a3:A3} {a4:A4} (hr:go E gl k c σ=some (c',σ'):=by exact rfl) (hc:Gets gl σ' (τ a0 a1 a2 a3 a4):=by exact covA) (hno:notOut c'=true:=by exact rfl):W P E gl (.j k J) (f a0 a1 a2 a3 a4) ρ Q c σ :=
 ⟨fun h=>go_ok hE.h hr (Ctl.gets hc hno (J.out a0 a1 a2 a3 a4 h))⟩
theorem W.tj5c {A0 A1 A2 A3 A4:Type} {f:A0→A1→A2→A3→A4→K} {τ:A0→A1→A2→A3→A4→St} {J:J5 P E gl f ρ Q c' τ} {a0:A0} {a1:A1} {a2:A2} {a3:A3} {a4:A4} {rr:List (Id×Id)} (hr:goN E gl k c σ=some (c',σ'):=by exact rfl) (hc:Gets gl (renL rr σ') (τ a0 a1 a2 a3 a4):=by exact covA) (hno:notOut c'=true:=by exact rfl):W P E gl (.jr k J rr) (f a0 a1 a2 a3 a4) ρ Q c σ :=
 ⟨fun h=>goN_ok hE.h hr (Ctl.gets (renL_gets hc) hno (J.out a0 a1 a2 a3 a4 h))⟩
theorem W.tj5d {A0 A1 A2 A3 A4:Type} {f:A0→A1→A2→A3→A4→K} {τ:A0→A1→A2→A3→A4→St} {J:J5 P E gl f ρ Q c' τ} {a0:A0} {a1:A1} {a2:A2} {a3:A3} {a4:A4} {rr:List (Id×Id)} (hr:go E gl k c σ=some (c',σ'):=by exact rfl) (hc:Gets gl (renL rr σ') (τ a0 a1 a2 a3 a4):=by exact covA) (hno:notOut c'=true:=by exact rfl):W P E gl (.jR k J rr) (f a0 a1 a2 a3 a4) ρ Q c σ :=
 ⟨fun h=>go_ok hE.h hr (Ctl.gets (renL_gets hc) hno (J.out a0 a1 a2 a3 a4 h))⟩
theorem W.tj5b {A0 A1 A2 A3 A4:Type} {f:A0→A1→A2→A3→A4→K} {τ:A0→A1→A2→A3→A4→St} {J:J5 P E gl f ρ Q c' τ} {a0:A0} {a1:A1} {a2:A2} {a3:A3} {a4:A4} (hr:goN E gl k c σ=some (c',σ'):=by exact rfl) (hc:Gets gl σ' (τ a0 a1 a2 a3 a4):=by exact covA) (hno:notOut c'=true:=by exact rfl):W P E gl (.J k J) (f a0 a1 a2 a3 a4) ρ Q c σ :=
 ⟨fun h=>goN_ok hE.h hr (Ctl.gets hc hno (J.out a0 a1 a2 a3 a4 h))⟩
theorem W.tl5 {A0 A1 A2 A3 A4:Type} {KK:Type} {step:(A0×A1×A2×A3×A4)→Option ((A0×A1×A2×A3×A4) ⊕ KK)} {b0:A0} {b1:A1} {b2:A2} {b3:A3} {b4:A4} {ρ:KK} {ts:List Nat} {us:List (List Nat)} {os:List Id} {τ:A0→A1→A2→A3→A4→St→St} {t:A0→A1→A2→A3→A4→Hi} {n':Nat} {tm':List (Nat×V)} {ob':List (Id×Obj)} {out':List (Nat×List (Nat×V))} {pa':Id}
 (h1:∀a0 a1 a2 a3 a4,∀oo,(∀k,oo=.inr k→k=ρ)→W P E gl (t a0 a1 a2 a3 a4) (step (a0,a1,a2,a3,a4)) (some oo) Q (.code r x (.lp (fun σ'=>∃x',oo=.inl x'∧Gets gl σ' (τ x'.1 x'.2.1 x'.2.2.1 x'.2.2.2.1 x'.2.2.2.2 ⟨n',tm',ob',out',pa'⟩))::s)) (τ a0 a1 a2 a3 a4 ⟨n',tm',ob',out',pa'⟩))
 (hr:go E gl k c σ=some (.code r (.loop x) s,σ'):=by exact rfl) (hk:kp ts us os σ'=some ⟨n',tm',ob',out',pa'⟩:=by exact rfl) (hc:Gets gl σ' (τ b0 b1 b2 b3 b4 ⟨n',tm',ob',out',pa'⟩):=by exact covA):W P E gl (.l5 k ts us os τ t) (whileO step (b0,b1,b2,b3,b4)) (some ρ) Q c σ :=
 ⟨fun h=>go_ok hE.h hr (Safe.loopS (fun p=>τ p.1 p.2.1 p.2.2.1 p.2.2.2.1 p.2.2.2.2 ⟨n',tm',ob',out',pa'⟩) h hc (fun p oo hs hρ=>(h1 p.1 p.2.1 p.2.2.1 p.2.2.2.1 p.2.2.2.2 oo hρ).out hs))⟩
theorem W.tem5 {A0 A1 A2 A3 A4:Type} {KK:Type} {step:(A0×A1×A2×A3×A4)→Option ((A0×A1×A2×A3×A4) ⊕ KK)} {b0:A0} {b1:A1} {b2:A2} {b3:A3} {b4:A4} {ρ:KK} {es:List (Id×Nat)} {ts:List Nat} {us:List (List Nat)} {os:List Id} {τ:A0→A1→A2→A3→A4→St→St} {t:A0→A1→A2→A3→A4→Hi} {σ2:St} {n':Nat} {tm':List (Nat×V)} {ob':List (Id×Obj)} {out':List (Nat×List (Nat×V))} {pa':Id}
 (h1:∀a0 a1 a2 a3 a4,∀oo,(∀k,oo=.inr k→k=ρ)→W P E gl (t a0 a1 a2 a3 a4) (step (a0,a1,a2,a3,a4)) (some oo) Q (.code r x (.lp (fun σ'=>∃x',oo=.inl x'∧Gets gl σ' (τ x'.1 x'.2.1 x'.2.2.1 x'.2.2.2.1 x'.2.2.2.2 ⟨n',tm',ob',out',pa'⟩))::s)) (τ a0 a1 a2 a3 a4 ⟨n',tm',ob',out',pa'⟩))
 (hr:go E gl k c σ=some (.code r (.loop x) s,σ'):=by exact rfl) (hk:kp ts us os σ'=some ⟨n',tm',ob',out',pa'⟩:=by exact rfl) (he:emL es σ'=some σ2:=by exact rfl) (hc:Gets gl σ2 (τ b0 b1 b2 b3 b4 ⟨n',tm',ob',out',pa'⟩):=by first|exact covA|refine .cov ⟨rfl,rfl,?_,?_,?_,rfl⟩<;>repeat first|exact upT_nil|refine upT_cons (.refl _) ?_|refine upT_cons (.nilref _) ?_|exact upOb_nil|refine upOb_cons rfl (.refl _) ?_|refine upOb_cons rfl (.box (by repeat first|exact .nil|refine .cons (.refl _) ?_|refine .cons (.nilref _) ?_)) ?_|exact upOut_nil|refine upOut_cons rfl ?_):W P E gl (.m5 k es ts us os τ t) (whileO step (b0,b1,b2,b3,b4)) (some ρ) Q c σ :=
 ⟨fun h=>go_ok hE.h hr (Safe.loopS (fun p=>τ p.1 p.2.1 p.2.2.1 p.2.2.2.1 p.2.2.2.2 ⟨n',tm',ob',out',pa'⟩) h (emL_gets he hc) (fun p oo hs hρ=>(h1 p.1 p.2.1 p.2.2.1 p.2.2.2.1 p.2.2.2.2 oo hρ).out hs))⟩
structure J6 {K:Type} {A0 A1 A2 A3 A4 A5:Type} (P:Program) (E:Env) (gl:List (Nat×List V)) (f:A0→A1→A2→A3→A4→A5→K) (ρ:K) (Q:Exit→St→Prop) (c:Ctl) (τ:A0→A1→A2→A3→A4→A5→St):Prop where
 out:∀a0 a1 a2 a3 a4 a5,f a0 a1 a2 a3 a4 a5=ρ→c.goal P E gl Q (τ a0 a1 a2 a3 a4 a5)
theorem W.tj6 {A0 A1 A2 A3 A4 A5:Type} {ts:List Nat} {us:List (List Nat)} {os:List Id} {m d:Nat} {ctl:Ctl} {f:A0→A1→A2→A3→A4→A5→K} {τ:A0→A1→A2→A3→A4→A5→St→St} {t:A0→A1→A2→A3→A4→A5→Hi} {u:{p:Prop}→p→Hi} {n':Nat} {tm':List (Nat×V)} {ob':List (Id×Obj)} {out':List (Nat×List (Nat×V))} {pa':Id}
 (h1:∀a0 a1 a2 a3 a4 a5,W P E gl (t a0 a1 a2 a3 a4 a5) (f a0 a1 a2 a3 a4 a5) ρ Q ctl (τ a0 a1 a2 a3 a4 a5 ⟨n',tm',ob',out',pa'⟩)) (h2:∀J:J6 P E gl f ρ Q ctl (fun a0 a1 a2 a3 a4 a5=>τ a0 a1 a2 a3 a4 a5 ⟨n',tm',ob',out',pa'⟩),W P E gl (u J) o ρ Q c' σ') (hr:go E gl k c σ=some (c',σ'):=by exact rfl) (hj:jt m d c'=some ctl:=by exact rfl) (hk:kp ts us os σ'=some ⟨n',tm',ob',out',pa'⟩:=by exact rfl):W P E gl (.j6 k m d ts us os f τ t u) o ρ Q c σ :=
 ⟨fun h=>go_ok hE.h hr ((h2 ⟨fun a0 a1 a2 a3 a4 a5 h=>(h1 a0 a1 a2 a3 a4 a5).out h⟩).out h)⟩
theorem W.tj6a {A0 A1 A2 A3 A4 A5:Type} {f:A0→A1→A2→A3→A4→A5→K} {τ:A0→A1→A2→A3→A4→A5→St} {J:J6 P E gl f ρ Q c' τ} {a0:A0} {a1:A1} {a2:A2} {a3:A3} {a4:A4} {a5:A5} (hr:go E gl k c σ=some (c',σ'):=by exact rfl) (hc:Gets gl σ' (τ a0 a1 a2 a3 a4 a5):=by exact covA) (hno:notOut c'=true:=by exact rfl):W P E gl (.j k J) (f a0 a1 a2 a3 a4 a5) ρ Q c σ :=
 ⟨fun h=>go_ok hE.h hr (Ctl.gets hc hno (J.out a0 a1 a2 a3 a4 a5 h))⟩
theorem W.tj6c {A0 A1 A2 A3 A4 A5:Type} {f:A0→A1→A2→A3→A4→A5→K} {τ:A0→A1→A2→A3→A4→A5→St} {J:J6 P E gl f ρ Q c' τ} {a0:A0} {a1:A1} {a2:A2} {a3:A3} {a4:A4} {a5:A5} {rr:List (Id×Id)} (hr:goN E gl k c σ=some (c',σ'):=by exact rfl) (hc:Gets gl (renL rr σ') (τ a0 a1 a2 a3 a4 a5):=by exact covA) (hno:notOut c'=true:=by exact rfl):W P E gl (.jr k J rr) (f a0 a1 a2 a3 a4 a5) ρ Q c σ :=
 ⟨fun h=>goN_ok hE.h hr (Ctl.gets (renL_gets hc) hno (J.out a0 a1 a2 a3 a4 a5 h))⟩
theorem W.tj6d {A0 A1 A2 A3 A4 A5:Type} {f:A0→A1→A2→A3→A4→A5→K} {τ:A0→A1→A2→A3→A4→A5→St} {J:J6 P E gl f ρ Q c' τ} {a0:A0} {a1:A1} {a2:A2} {a3:A3} {a4:A4} {a5:A5} {rr:List (Id×Id)} (hr:go E gl k c σ=some (c',σ'):=by exact rfl) (hc:Gets gl (renL rr σ') (τ a0 a1 a2 a3 a4 a5):=by exact covA) (hno:notOut c'=true:=by exact rfl):W P E gl (.jR k J rr) (f a0 a1 a2 a3 a4 a5) ρ Q c σ :=
 ⟨fun h=>go_ok hE.h hr (Ctl.gets (renL_gets hc) hno (J.out a0 a1 a2 a3 a4 a5 h))⟩
theorem W.tj6b {A0 A1 A2 A3 A4 A5:Type} {f:A0→A1→A2→A3→A4→A5→K} {τ:A0→A1→A2→A3→A4→A5→St} {J:J6 P E gl f ρ Q c' τ} {a0:A0} {a1:A1} {a2:A2} {a3:A3} {a4:A4} {a5:A5} (hr:goN E gl k c σ=some (c',σ'):=by exact rfl) (hc:Gets gl σ' (τ a0 a1 a2 a3 a4 a5):=by exact covA) (hno:notOut c'=true:=by exact rfl):W P E gl (.J k J) (f a0 a1 a2 a3 a4 a5) ρ Q c σ :=
 ⟨fun h=>goN_ok hE.h hr (Ctl.gets hc hno (J.out a0 a1 a2 a3 a4 a5 h))⟩
theorem W.tl6 {A0 A1 A2 A3 A4 A5:Type} {KK:Type} {step:(A0×A1×A2×A3×A4×A5)→Option ((A0×A1×A2×A3×A4×A5) ⊕ KK)} {b0:A0} {b1:A1} {b2:A2} {b3:A3} {b4:A4} {b5:A5} {ρ:KK} {ts:List Nat} {us:List (List Nat)} {os:List Id} {τ:A0→A1→A2→A3→A4→A5→St→St} {t:A0→A1→A2→A3→A4→A5→Hi} {n':Nat} {tm':List (Nat×V)} {ob':List (Id×Obj)} {out':List (Nat×List (Nat×V))} {pa':Id}
 (h1:∀a0 a1 a2 a3 a4 a5,∀oo,(∀k,oo=.inr k→k=ρ)→W P E gl (t a0 a1 a2 a3 a4 a5) (step (a0,a1,a2,a3,a4,a5)) (some oo) Q (.code r x (.lp (fun σ'=>∃x',oo=.inl x'∧Gets gl σ' (τ x'.1 x'.2.1 x'.2.2.1 x'.2.2.2.1 x'.2.2.2.2.1 x'.2.2.2.2.2 ⟨n',tm',ob',out',pa'⟩))::s)) (τ a0 a1 a2 a3 a4 a5 ⟨n',tm',ob',out',pa'⟩))
 (hr:go E gl k c σ=some (.code r (.loop x) s,σ'):=by exact rfl) (hk:kp ts us os σ'=some ⟨n',tm',ob',out',pa'⟩:=by exact rfl) (hc:Gets gl σ' (τ b0 b1 b2 b3 b4 b5 ⟨n',tm',ob',out',pa'⟩):=by exact covA):W P E gl (.l6 k ts us os τ t) (whileO step (b0,b1,b2,b3,b4,b5)) (some ρ) Q c σ :=
 ⟨fun h=>go_ok hE.h hr (Safe.loopS (fun p=>τ p.1 p.2.1 p.2.2.1 p.2.2.2.1 p.2.2.2.2.1 p.2.2.2.2.2 ⟨n',tm',ob',out',pa'⟩) h hc (fun p oo hs hρ=>(h1 p.1 p.2.1 p.2.2.1 p.2.2.2.1 p.2.2.2.2.1 p.2.2.2.2.2 oo hρ).out hs))⟩
theorem W.tem6 {A0 A1 A2 A3 A4 A5:Type} {KK:Type} {step:(A0×A1×A2×A3×A4×A5)→Option ((A0×A1×A2×A3×A4×A5) ⊕ KK)} {b0:A0} {b1:A1} {b2:A2} {b3:A3} {b4:A4} {b5:A5} {ρ:KK} {es:List (Id×Nat)} {ts:List Nat} {us:List (List Nat)} {os:List Id} {τ:A0→A1→A2→A3→A4→A5→St→St} {t:A0→A1→A2→A3→A4→A5→Hi} {σ2:St} {n':Nat} {tm':List (Nat×V)} {ob':List (Id×Obj)} {out':List (Nat×List (Nat×V))} {pa':Id}
 (h1:∀a0 a1 a2 a3 a4 a5,∀oo,(∀k,oo=.inr k→k=ρ)→W P E gl (t a0 a1 a2 a3 a4 a5) (step (a0,a1,a2,a3,a4,a5)) (some oo) Q (.code r x (.lp (fun σ'=>∃x',oo=.inl x'∧Gets gl σ' (τ x'.1 x'.2.1 x'.2.2.1 x'.2.2.2.1 x'.2.2.2.2.1 x'.2.2.2.2.2 ⟨n',tm',ob',out',pa'⟩))::s)) (τ a0 a1 a2 a3 a4 a5 ⟨n',tm',ob',out',pa'⟩))
 (hr:go E gl k c σ=some (.code r (.loop x) s,σ'):=by exact rfl) (hk:kp ts us os σ'=some ⟨n',tm',ob',out',pa'⟩:=by exact rfl) (he:emL es σ'=some σ2:=by exact rfl) (hc:Gets gl σ2 (τ b0 b1 b2 b3 b4 b5 ⟨n',tm',ob',out',pa'⟩):=by first|exact covA|refine .cov ⟨rfl,rfl,?_,?_,?_,rfl⟩<;>repeat first|exact upT_nil|refine upT_cons (.refl _) ?_|refine upT_cons (.nilref _) ?_|exact upOb_nil|refine upOb_cons rfl (.refl _) ?_|refine upOb_cons rfl (.box (by repeat first|exact .nil|refine .cons (.refl _) ?_|refine .cons (.nilref _) ?_)) ?_|exact upOut_nil|refine upOut_cons rfl ?_):W P E gl (.m6 k es ts us os τ t) (whileO step (b0,b1,b2,b3,b4,b5)) (some ρ) Q c σ :=
 ⟨fun h=>go_ok hE.h hr (Safe.loopS (fun p=>τ p.1 p.2.1 p.2.2.1 p.2.2.2.1 p.2.2.2.2.1 p.2.2.2.2.2 ⟨n',tm',ob',out',pa'⟩) h (emL_gets he hc) (fun p oo hs hρ=>(h1 p.1 p.2.1 p.2.2.1 p.2.2.2.1 p.2.2.2.2.1 p.2.2.2.2.2 oo hρ).out hs))⟩
structure J7 {K:Type} {A0 A1 A2 A3 A4 A5 A6:Type} (P:Program) (E:Env) (gl:List (Nat×List V)) (f:A0→A1→A2→A3→A4→A5→A6→K) (ρ:K) (Q:Exit→St→Prop) (c:Ctl) (τ:A0→A1→A2→A3→A4→A5→A6→St):Prop where
 out:∀a0 a1 a2 a3 a4 a5 a6,f a0 a1 a2 a3 a4 a5 a6=ρ→c.goal P E gl Q (τ a0 a1 a2 a3 a4 a5 a6)
theorem W.tj7 {A0 A1 A2 A3 A4 A5 A6:Type} {ts:List Nat} {us:List (List Nat)} {os:List Id} {m d:Nat} {ctl:Ctl} {f:A0→A1→A2→A3→A4→A5→A6→K} {τ:A0→A1→A2→A3→A4→A5→A6→St→St} {t:A0→A1→A2→A3→A4→A5→A6→Hi} {u:{p:Prop}→p→Hi} {n':Nat} {tm':List (Nat×V)} {ob':List (Id×Obj)} {out':List (Nat×List (Nat×V))} {pa':Id}
 (h1:∀a0 a1 a2 a3 a4 a5 a6,W P E gl (t a0 a1 a2 a3 a4 a5 a6) (f a0 a1 a2 a3 a4 a5 a6) ρ Q ctl (τ a0 a1 a2 a3 a4 a5 a6 ⟨n',tm',ob',out',pa'⟩)) (h2:∀J:J7 P E gl f ρ Q ctl (fun a0 a1 a2 a3 a4 a5 a6=>τ a0 a1 a2 a3 a4 a5 a6 ⟨n',tm',ob',out',pa'⟩),W P E gl (u J) o ρ Q c' σ') (hr:go E gl k c σ=some (c',σ'):=by exact rfl) (hj:jt m d c'=some ctl:=by exact rfl) (hk:kp ts us os σ'=some ⟨n',tm',ob',out',pa'⟩:=by exact rfl):W P E gl (.j7 k m d ts us os f τ t u) o ρ Q c σ :=
 ⟨fun h=>go_ok hE.h hr ((h2 ⟨fun a0 a1 a2 a3 a4 a5 a6 h=>(h1 a0 a1 a2 a3 a4 a5 a6).out h⟩).out h)⟩
theorem W.tj7a {A0 A1 A2 A3 A4 A5 A6:Type} {f:A0→A1→A2→A3→A4→A5→A6→K} {τ:A0→A1→A2→A3→A4→A5→A6→St} {J:J7 P E gl f ρ Q c' τ} {a0:A0} {a1:A1} {a2:A2} {a3:A3} {a4:A4} {a5:A5} {a6:A6} (hr:go E gl k c σ=some (c',σ'):=by exact rfl) (hc:Gets gl σ' (τ a0 a1 a2 a3 a4 a5 a6):=by exact covA) (hno:notOut c'=true:=by exact rfl):W P E gl (.j k J) (f a0 a1 a2 a3 a4 a5 a6) ρ Q c σ :=
 ⟨fun h=>go_ok hE.h hr (Ctl.gets hc hno (J.out a0 a1 a2 a3 a4 a5 a6 h))⟩
theorem W.tj7c {A0 A1 A2 A3 A4 A5 A6:Type} {f:A0→A1→A2→A3→A4→A5→A6→K} {τ:A0→A1→A2→A3→A4→A5→A6→St} {J:J7 P E gl f ρ Q c' τ} {a0:A0} {a1:A1} {a2:A2} {a3:A3} {a4:A4} {a5:A5} {a6:A6} {rr:List (Id×Id)} (hr:goN E gl k c σ=some (c',σ'):=by exact rfl) (hc:Gets gl (renL rr σ') (τ a0 a1 a2 a3 a4 a5 a6):=by exact covA) (hno:notOut c'=true:=by exact rfl):W P E gl (.jr k J rr) (f a0 a1 a2 a3 a4 a5 a6) ρ Q c σ :=
 ⟨fun h=>goN_ok hE.h hr (Ctl.gets (renL_gets hc) hno (J.out a0 a1 a2 a3 a4 a5 a6 h))⟩
theorem W.tj7d {A0 A1 A2 A3 A4 A5 A6:Type} {f:A0→A1→A2→A3→A4→A5→A6→K} {τ:A0→A1→A2→A3→A4→A5→A6→St} {J:J7 P E gl f ρ Q c' τ} {a0:A0} {a1:A1} {a2:A2} {a3:A3} {a4:A4} {a5:A5} {a6:A6} {rr:List (Id×Id)} (hr:go E gl k c σ=some (c',σ'):=by exact rfl) (hc:Gets gl (renL rr σ') (τ a0 a1 a2 a3 a4 a5 a6):=by exact covA) (hno:notOut c'=true:=by exact rfl):W P E gl (.jR k J rr) (f a0 a1 a2 a3 a4 a5 a6) ρ Q c σ :=
 ⟨fun h=>go_ok hE.h hr (Ctl.gets (renL_gets hc) hno (J.out a0 a1 a2 a3 a4 a5 a6 h))⟩
theorem W.tj7b {A0 A1 A2 A3 A4 A5 A6:Type} {f:A0→A1→A2→A3→A4→A5→A6→K} {τ:A0→A1→A2→A3→A4→A5→A6→St} {J:J7 P E gl f ρ Q c' τ} {a0:A0} {a1:A1} {a2:A2} {a3:A3} {a4:A4} {a5:A5} {a6:A6} (hr:goN E gl k c σ=some (c',σ'):=by exact rfl) (hc:Gets gl σ' (τ a0 a1 a2 a3 a4 a5 a6):=by exact covA) (hno:notOut c'=true:=by exact rfl):W P E gl (.J k J) (f a0 a1 a2 a3 a4 a5 a6) ρ Q c σ :=
 ⟨fun h=>goN_ok hE.h hr (Ctl.gets hc hno (J.out a0 a1 a2 a3 a4 a5 a6 h))⟩
theorem W.tl7 {A0 A1 A2 A3 A4 A5 A6:Type} {KK:Type} {step:(A0×A1×A2×A3×A4×A5×A6)→Option ((A0×A1×A2×A3×A4×A5×A6) ⊕ KK)} {b0:A0} {b1:A1} {b2:A2} {b3:A3} {b4:A4} {b5:A5} {b6:A6} {ρ:KK} {ts:List Nat} {us:List (List Nat)} {os:List Id} {τ:A0→A1→A2→A3→A4→A5→A6→St→St} {t:A0→A1→A2→A3→A4→A5→A6→Hi} {n':Nat} {tm':List (Nat×V)} {ob':List (Id×Obj)} {out':List (Nat×List (Nat×V))} {pa':Id}
 (h1:∀a0 a1 a2 a3 a4 a5 a6,∀oo,(∀k,oo=.inr k→k=ρ)→W P E gl (t a0 a1 a2 a3 a4 a5 a6) (step (a0,a1,a2,a3,a4,a5,a6)) (some oo) Q (.code r x (.lp (fun σ'=>∃x',oo=.inl x'∧Gets gl σ' (τ x'.1 x'.2.1 x'.2.2.1 x'.2.2.2.1 x'.2.2.2.2.1 x'.2.2.2.2.2.1 x'.2.2.2.2.2.2 ⟨n',tm',ob',out',pa'⟩))::s)) (τ a0 a1 a2 a3 a4 a5 a6 ⟨n',tm',ob',out',pa'⟩))
 (hr:go E gl k c σ=some (.code r (.loop x) s,σ'):=by exact rfl) (hk:kp ts us os σ'=some ⟨n',tm',ob',out',pa'⟩:=by exact rfl) (hc:Gets gl σ' (τ b0 b1 b2 b3 b4 b5 b6 ⟨n',tm',ob',out',pa'⟩):=by exact covA):W P E gl (.l7 k ts us os τ t) (whileO step (b0,b1,b2,b3,b4,b5,b6)) (some ρ) Q c σ :=
 ⟨fun h=>go_ok hE.h hr (Safe.loopS (fun p=>τ p.1 p.2.1 p.2.2.1 p.2.2.2.1 p.2.2.2.2.1 p.2.2.2.2.2.1 p.2.2.2.2.2.2 ⟨n',tm',ob',out',pa'⟩) h hc (fun p oo hs hρ=>(h1 p.1 p.2.1 p.2.2.1 p.2.2.2.1 p.2.2.2.2.1 p.2.2.2.2.2.1 p.2.2.2.2.2.2 oo hρ).out hs))⟩
structure J8 {K:Type} {A0 A1 A2 A3 A4 A5 A6 A7:Type} (P:Program) (E:Env) (gl:List (Nat×List V)) (f:A0→A1→A2→A3→A4→A5→A6→A7→K) (ρ:K) (Q:Exit→St→Prop) (c:Ctl) (τ:A0→A1→A2→A3→A4→A5→A6→A7→St):Prop where
 out:∀a0 a1 a2 a3 a4 a5 a6 a7,f a0 a1 a2 a3 a4 a5 a6 a7=ρ→c.goal P E gl Q (τ a0 a1 a2 a3 a4 a5 a6 a7)
theorem W.tj8 {A0 A1 A2 A3 A4 A5 A6 A7:Type} {ts:List Nat} {us:List (List Nat)} {os:List Id} {m d:Nat} {ctl:Ctl} {f:A0→A1→A2→A3→A4→A5→A6→A7→K} {τ:A0→A1→A2→A3→A4→A5→A6→A7→St→St} {t:A0→A1→A2→A3→A4→A5→A6→A7→Hi} {u:{p:Prop}→p→Hi} {n':Nat} {tm':List (Nat×V)} {ob':List (Id×Obj)} {out':List (Nat×List (Nat×V))} {pa':Id}
 (h1:∀a0 a1 a2 a3 a4 a5 a6 a7,W P E gl (t a0 a1 a2 a3 a4 a5 a6 a7) (f a0 a1 a2 a3 a4 a5 a6 a7) ρ Q ctl (τ a0 a1 a2 a3 a4 a5 a6 a7 ⟨n',tm',ob',out',pa'⟩)) (h2:∀J:J8 P E gl f ρ Q ctl (fun a0 a1 a2 a3 a4 a5 a6 a7=>τ a0 a1 a2 a3 a4 a5 a6 a7 ⟨n',tm',ob',out',pa'⟩),W P E gl (u J) o ρ Q c' σ') (hr:go E gl k c σ=some (c',σ'):=by exact rfl) (hj:jt m d c'=some ctl:=by exact rfl) (hk:kp ts us os σ'=some ⟨n',tm',ob',out',pa'⟩:=by exact rfl):W P E gl (.j8 k m d ts us os f τ t u) o ρ Q c σ :=
 ⟨fun h=>go_ok hE.h hr ((h2 ⟨fun a0 a1 a2 a3 a4 a5 a6 a7 h=>(h1 a0 a1 a2 a3 a4 a5 a6 a7).out h⟩).out h)⟩
theorem W.tj8a {A0 A1 A2 A3 A4 A5 A6 A7:Type} {f:A0→A1→A2→A3→A4→A5→A6→A7→K} {τ:A0→A1→A2→A3→A4→A5→A6→A7→St} {J:J8 P E gl f ρ Q c' τ} {a0:A0} {a1:A1} {a2:A2} {a3:A3} {a4:A4} {a5:A5} {a6:A6} {a7:A7} (hr:go E gl k c σ=some (c',σ'):=by exact rfl) (hc:Gets gl σ' (τ a0 a1 a2 a3 a4 a5 a6 a7):=by exact covA) (hno:notOut c'=true:=by exact rfl):W P E gl (.j k J) (f a0 a1 a2 a3 a4 a5 a6 a7) ρ Q c σ :=
 ⟨fun h=>go_ok hE.h hr (Ctl.gets hc hno (J.out a0 a1 a2 a3 a4 a5 a6 a7 h))⟩
theorem W.tj8c {A0 A1 A2 A3 A4 A5 A6 A7:Type} {f:A0→A1→A2→A3→A4→A5→A6→A7→K} {τ:A0→A1→A2→A3→A4→A5→A6→A7→St} {J:J8 P E gl f ρ Q c' τ} {a0:A0} {a1:A1} {a2:A2} {a3:A3} {a4:A4} {a5:A5} {a6:A6} {a7:A7} {rr:List (Id×Id)} (hr:goN E gl k c σ=some (c',σ'):=by exact rfl) (hc:Gets gl (renL rr σ') (τ a0 a1 a2 a3 a4 a5 a6 a7):=by exact covA) (hno:notOut c'=true:=by exact rfl):W P E gl (.jr k J rr) (f a0 a1 a2 a3 a4 a5 a6 a7) ρ Q c σ :=
 ⟨fun h=>goN_ok hE.h hr (Ctl.gets (renL_gets hc) hno (J.out a0 a1 a2 a3 a4 a5 a6 a7 h))⟩
theorem W.tj8d {A0 A1 A2 A3 A4 A5 A6 A7:Type} {f:A0→A1→A2→A3→A4→A5→A6→A7→K} {τ:A0→A1→A2→A3→A4→A5→A6→A7→St} {J:J8 P E gl f ρ Q c' τ} {a0:A0} {a1:A1} {a2:A2} {a3:A3} {a4:A4} {a5:A5} {a6:A6} {a7:A7} {rr:List (Id×Id)} (hr:go E gl k c σ=some (c',σ'):=by exact rfl) (hc:Gets gl (renL rr σ') (τ a0 a1 a2 a3 a4 a5 a6 a7):=by exact covA) (hno:notOut c'=true:=by exact rfl):W P E gl (.jR k J rr) (f a0 a1 a2 a3 a4 a5 a6 a7) ρ Q c σ :=
 ⟨fun h=>go_ok hE.h hr (Ctl.gets (renL_gets hc) hno (J.out a0 a1 a2 a3 a4 a5 a6 a7 h))⟩
theorem W.tj8b {A0 A1 A2 A3 A4 A5 A6 A7:Type} {f:A0→A1→A2→A3→A4→A5→A6→A7→K} {τ:A0→A1→A2→A3→A4→A5→A6→A7→St} {J:J8 P E gl f ρ Q c' τ} {a0:A0} {a1:A1} {a2:A2} {a3:A3} {a4:A4} {a5:A5} {a6:A6} {a7:A7} (hr:goN E gl k c σ=some (c',σ'):=by exact rfl) (hc:Gets gl σ' (τ a0 a1 a2 a3 a4 a5 a6 a7):=by exact covA) (hno:notOut c'=true:=by exact rfl):W P E gl (.J k J) (f a0 a1 a2 a3 a4 a5 a6 a7) ρ Q c σ :=
 ⟨fun h=>goN_ok hE.h hr (Ctl.gets hc hno (J.out a0 a1 a2 a3 a4 a5 a6 a7 h))⟩
theorem W.tl8 {A0 A1 A2 A3 A4 A5 A6 A7:Type} {KK:Type} {step:(A0×A1×A2×A3×A4×A5×A6×A7)→Option ((A0×A1×A2×A3×A4×A5×A6×A7) ⊕ KK)} {b0:A0} {b1:A1} {b2:A2} {b3:A3} {b4:A4} {b5:A5} {b6:A6} {b7:A7} {ρ:KK} {ts:List Nat} {us:List (List Nat)} {os:List Id} {τ:A0→A1→A2→A3→A4→A5→A6→A7→St→St} {t:A0→A1→A2→A3→A4→A5→A6→A7→Hi} {n':Nat} {tm':List (Nat×V)} {ob':List (Id×Obj)} {out':List (Nat×List (Nat×V))} {pa':Id}
 (h1:∀a0 a1 a2 a3 a4 a5 a6 a7,∀oo,(∀k,oo=.inr k→k=ρ)→W P E gl (t a0 a1 a2 a3 a4 a5 a6 a7) (step (a0,a1,a2,a3,a4,a5,a6,a7)) (some oo) Q (.code r x (.lp (fun σ'=>∃x',oo=.inl x'∧Gets gl σ' (τ x'.1 x'.2.1 x'.2.2.1 x'.2.2.2.1 x'.2.2.2.2.1 x'.2.2.2.2.2.1 x'.2.2.2.2.2.2.1 x'.2.2.2.2.2.2.2 ⟨n',tm',ob',out',pa'⟩))::s)) (τ a0 a1 a2 a3 a4 a5 a6 a7 ⟨n',tm',ob',out',pa'⟩))
 (hr:go E gl k c σ=some (.code r (.loop x) s,σ'):=by exact rfl) (hk:kp ts us os σ'=some ⟨n',tm',ob',out',pa'⟩:=by exact rfl) (hc:Gets gl σ' (τ b0 b1 b2 b3 b4 b5 b6 b7 ⟨n',tm',ob',out',pa'⟩):=by exact covA):W P E gl (.l8 k ts us os τ t) (whileO step (b0,b1,b2,b3,b4,b5,b6,b7)) (some ρ) Q c σ :=
 ⟨fun h=>go_ok hE.h hr (Safe.loopS (fun p=>τ p.1 p.2.1 p.2.2.1 p.2.2.2.1 p.2.2.2.2.1 p.2.2.2.2.2.1 p.2.2.2.2.2.2.1 p.2.2.2.2.2.2.2 ⟨n',tm',ob',out',pa'⟩) h hc (fun p oo hs hρ=>(h1 p.1 p.2.1 p.2.2.1 p.2.2.2.1 p.2.2.2.2.1 p.2.2.2.2.2.1 p.2.2.2.2.2.2.1 p.2.2.2.2.2.2.2 oo hρ).out hs))⟩
structure J9 {K:Type} {A0 A1 A2 A3 A4 A5 A6 A7 A8:Type} (P:Program) (E:Env) (gl:List (Nat×List V)) (f:A0→A1→A2→A3→A4→A5→A6→A7→A8→K) (ρ:K) (Q:Exit→St→Prop) (c:Ctl) (τ:A0→A1→A2→A3→A4→A5→A6→A7→A8→St):Prop where
 out:∀a0 a1 a2 a3 a4 a5 a6 a7 a8,f a0 a1 a2 a3 a4 a5 a6 a7 a8=ρ→c.goal P E gl Q (τ a0 a1 a2 a3 a4 a5 a6 a7 a8)
theorem W.tj9 {A0 A1 A2 A3 A4 A5 A6 A7 A8:Type} {ts:List Nat} {us:List (List Nat)} {os:List Id} {m d:Nat} {ctl:Ctl} {f:A0→A1→A2→A3→A4→A5→A6→A7→A8→K} {τ:A0→A1→A2→A3→A4→A5→A6→A7→A8→St→St} {t:A0→A1→A2→A3→A4→A5→A6→A7→A8→Hi} {u:{p:Prop}→p→Hi} {n':Nat} {tm':List (Nat×V)} {ob':List (Id×Obj)} {out':List (Nat×List (Nat×V))} {pa':Id}
 (h1:∀a0 a1 a2 a3 a4 a5 a6 a7 a8,W P E gl (t a0 a1 a2 a3 a4 a5 a6 a7 a8) (f a0 a1 a2 a3 a4 a5 a6 a7 a8) ρ Q ctl (τ a0 a1 a2 a3 a4 a5 a6 a7 a8 ⟨n',tm',ob',out',pa'⟩)) (h2:∀J:J9 P E gl f ρ Q ctl (fun a0 a1 a2 a3 a4 a5 a6 a7 a8=>τ a0 a1 a2 a3 a4 a5 a6 a7 a8 ⟨n',tm',ob',out',pa'⟩),W P E gl (u J) o ρ Q c' σ') (hr:go E gl k c σ=some (c',σ'):=by exact rfl) (hj:jt m d c'=some ctl:=by exact rfl) (hk:kp ts us os σ'=some ⟨n',tm',ob',out',pa'⟩:=by exact rfl):W P E gl (.j9 k m d ts us os f τ t u) o ρ Q c σ :=
 ⟨fun h=>go_ok hE.h hr ((h2 ⟨fun a0 a1 a2 a3 a4 a5 a6 a7 a8 h=>(h1 a0 a1 a2 a3 a4 a5 a6 a7 a8).out h⟩).out h)⟩
theorem W.tj9a {A0 A1 A2 A3 A4 A5 A6 A7 A8:Type} {f:A0→A1→A2→A3→A4→A5→A6→A7→A8→K} {τ:A0→A1→A2→A3→A4→A5→A6→A7→A8→St} {J:J9 P E gl f ρ Q c' τ} {a0:A0} {a1:A1} {a2:A2} {a3:A3} {a4:A4} {a5:A5} {a6:A6} {a7:A7} {a8:A8} (hr:go E gl k c σ=some (c',σ'):=by exact rfl) (hc:Gets gl σ' (τ a0 a1 a2 a3 a4 a5 a6 a7 a8):=by exact covA) (hno:notOut c'=true:=by exact rfl):W P E gl (.j k J) (f a0 a1 a2 a3 a4 a5 a6 a7 a8) ρ Q c σ :=
 ⟨fun h=>go_ok hE.h hr (Ctl.gets hc hno (J.out a0 a1 a2 a3 a4 a5 a6 a7 a8 h))⟩
theorem W.tj9c {A0 A1 A2 A3 A4 A5 A6 A7 A8:Type} {f:A0→A1→A2→A3→A4→A5→A6→A7→A8→K} {τ:A0→A1→A2→A3→A4→A5→A6→A7→A8→St} {J:J9 P E gl f ρ Q c' τ} {a0:A0} {a1:A1} {a2:A2} {a3:A3} {a4:A4} {a5:A5} {a6:A6} {a7:A7} {a8:A8} {rr:List (Id×Id)} (hr:goN E gl k c σ=some (c',σ'):=by exact rfl) (hc:Gets gl (renL rr σ') (τ a0 a1 a2 a3 a4 a5 a6 a7 a8):=by exact covA) (hno:notOut c'=true:=by exact rfl):W P E gl (.jr k J rr) (f a0 a1 a2 a3 a4 a5 a6 a7 a8) ρ Q c σ :=
 ⟨fun h=>goN_ok hE.h hr (Ctl.gets (renL_gets hc) hno (J.out a0 a1 a2 a3 a4 a5 a6 a7 a8 h))⟩
theorem W.tj9d {A0 A1 A2 A3 A4 A5 A6 A7 A8:Type} {f:A0→A1→A2→A3→A4→A5→A6→A7→A8→K} {τ:A0→A1→A2→A3→A4→A5→A6→A7→A8→St} {J:J9 P E gl f ρ Q c' τ} {a0:A0} {a1:A1} {a2:A2} {a3:A3} {a4:A4} {a5:A5} {a6:A6} {a7:A7} {a8:A8} {rr:List (Id×Id)} (hr:go E gl k c σ=some (c',σ'):=by exact rfl) (hc:Gets gl (renL rr σ') (τ a0 a1 a2 a3 a4 a5 a6 a7 a8):=by exact covA) (hno:notOut c'=true:=by exact rfl):W P E gl (.jR k J rr) (f a0 a1 a2 a3 a4 a5 a6 a7 a8) ρ Q c σ :=
 ⟨fun h=>go_ok hE.h hr (Ctl.gets (renL_gets hc) hno (J.out a0 a1 a2 a3 a4 a5 a6 a7 a8 h))⟩
theorem W.tj9b {A0 A1 A2 A3 A4 A5 A6 A7 A8:Type} {f:A0→A1→A2→A3→A4→A5→A6→A7→A8→K} {τ:A0→A1→A2→A3→A4→A5→A6→A7→A8→St} {J:J9 P E gl f ρ Q c' τ} {a0:A0} {a1:A1} {a2:A2} {a3:A3} {a4:A4} {a5:A5} {a6:A6} {a7:A7} {a8:A8} (hr:goN E gl k c σ=some (c',σ'):=by exact rfl) (hc:Gets gl σ' (τ a0 a1 a2 a3 a4 a5 a6 a7 a8):=by exact covA) (hno:notOut c'=true:=by exact rfl):W P E gl (.J k J) (f a0 a1 a2 a3 a4 a5 a6 a7 a8) ρ Q c σ :=
 ⟨fun h=>goN_ok hE.h hr (Ctl.gets hc hno (J.out a0 a1 a2 a3 a4 a5 a6 a7 a8 h))⟩
theorem W.tl9 {A0 A1 A2 A3 A4 A5 A6 A7 A8:Type} {KK:Type} {step:(A0×A1×A2×A3×A4×A5×A6×A7×A8)→Option ((A0×A1×A2×A3×A4×A5×A6×A7×A8) ⊕ KK)} {b0:A0} {b1:A1} {b2:A2} {b3:A3} {b4:A4} {b5:A5} {b6:A6} {b7:A7} {b8:A8} {ρ:KK} {ts:List Nat} {us:List (List Nat)} {os:List Id} {τ:A0→A1→A2→A3→A4→A5→A6→A7→A8→St→St} {t:A0→A1→A2→A3→A4→A5→A6→A7→A8→Hi} {n':Nat} {tm':List (Nat×V)} {ob':List (Id×Obj)} {out':List (Nat×List (Nat×V))} {pa':Id}
 (h1:∀a0 a1 a2 a3 a4 a5 a6 a7 a8,∀oo,(∀k,oo=.inr k→k=ρ)→W P E gl (t a0 a1 a2 a3 a4 a5 a6 a7 a8) (step (a0,a1,a2,a3,a4,a5,a6,a7,a8)) (some oo) Q (.code r x (.lp (fun σ'=>∃x',oo=.inl x'∧Gets gl σ' (τ x'.1 x'.2.1 x'.2.2.1 x'.2.2.2.1 x'.2.2.2.2.1 x'.2.2.2.2.2.1 x'.2.2.2.2.2.2.1 x'.2.2.2.2.2.2.2.1 x'.2.2.2.2.2.2.2.2 ⟨n',tm',ob',out',pa'⟩))::s)) (τ a0 a1 a2 a3 a4 a5 a6 a7 a8 ⟨n',tm',ob',out',pa'⟩))
 (hr:go E gl k c σ=some (.code r (.loop x) s,σ'):=by exact rfl) (hk:kp ts us os σ'=some ⟨n',tm',ob',out',pa'⟩:=by exact rfl) (hc:Gets gl σ' (τ b0 b1 b2 b3 b4 b5 b6 b7 b8 ⟨n',tm',ob',out',pa'⟩):=by exact covA):W P E gl (.l9 k ts us os τ t) (whileO step (b0,b1,b2,b3,b4,b5,b6,b7,b8)) (some ρ) Q c σ :=
 ⟨fun h=>go_ok hE.h hr (Safe.loopS (fun p=>τ p.1 p.2.1 p.2.2.1 p.2.2.2.1 p.2.2.2.2.1 p.2.2.2.2.2.1 p.2.2.2.2.2.2.1 p.2.2.2.2.2.2.2.1 p.2.2.2.2.2.2.2.2 ⟨n',tm',ob',out',pa'⟩) h hc (fun p oo hs hρ=>(h1 p.1 p.2.1 p.2.2.1 p.2.2.2.1 p.2.2.2.2.1 p.2.2.2.2.2.1 p.2.2.2.2.2.2.1 p.2.2.2.2.2.2.2.1 p.2.2.2.2.2.2.2.2 oo hρ).out hs))⟩
structure J10 {K:Type} {A0 A1 A2 A3 A4 A5 A6 A7 A8 A9:Type} (P:Program) (E:Env) (gl:List (Nat×List V)) (f:A0→A1→A2→A3→A4→A5→A6→A7→A8→A9→K) (ρ:K) (Q:Exit→St→Prop) (c:Ctl) (τ:A0→A1→A2→A3→A4→A5→A6→A7→A8→A9→St):Prop where
 out:∀a0 a1 a2 a3 a4 a5 a6 a7 a8 a9,f a0 a1 a2 a3 a4 a5 a6 a7 a8 a9=ρ→c.goal P E gl Q (τ a0 a1 a2 a3 a4 a5 a6 a7 a8 a9)
theorem W.tj10 {A0 A1 A2 A3 A4 A5 A6 A7 A8 A9:Type} {ts:List Nat} {us:List (List Nat)} {os:List Id} {m d:Nat} {ctl:Ctl} {f:A0→A1→A2→A3→A4→A5→A6→A7→A8→A9→K} {τ:A0→A1→A2→A3→A4→A5→A6→A7→A8→A9→St→St} {t:A0→A1→A2→A3→A4→A5→A6→A7→A8→A9→Hi} {u:{p:Prop}→p→Hi} {n':Nat} {tm':List (Nat×V)} {ob':List (Id×Obj)} {out':List (Nat×List (Nat×V))} {pa':Id}
 (h1:∀a0 a1 a2 a3 a4 a5 a6 a7 a8 a9,W P E gl (t a0 a1 a2 a3 a4 a5 a6 a7 a8 a9) (f a0 a1 a2 a3 a4 a5 a6 a7 a8 a9) ρ Q ctl (τ a0 a1 a2 a3 a4 a5 a6 a7 a8 a9 ⟨n',tm',ob',out',pa'⟩)) (h2:∀J:J10 P E gl f ρ Q ctl (fun a0 a1 a2 a3 a4 a5 a6 a7 a8 a9=>τ a0 a1 a2 a3 a4 a5 a6 a7 a8 a9 ⟨n',tm',ob',out',pa'⟩),W P E gl (u J) o ρ Q c' σ') (hr:go E gl k c σ=some (c',σ'):=by exact rfl) (hj:jt m d c'=some ctl:=by exact rfl) (hk:kp ts us os σ'=some ⟨n',tm',ob',out',pa'⟩:=by exact rfl):W P E gl (.j10 k m d ts us os f τ t u) o ρ Q c σ :=
 ⟨fun h=>go_ok hE.h hr ((h2 ⟨fun a0 a1 a2 a3 a4 a5 a6 a7 a8 a9 h=>(h1 a0 a1 a2 a3 a4 a5 a6 a7 a8 a9).out h⟩).out h)⟩
theorem W.tj10a {A0 A1 A2 A3 A4 A5 A6 A7 A8 A9:Type} {f:A0→A1→A2→A3→A4→A5→A6→A7→A8→A9→K} {τ:A0→A1→A2→A3→A4→A5→A6→A7→A8→A9→St} {J:J10 P E gl f ρ Q c' τ} {a0:A0} {a1:A1} {a2:A2} {a3:A3} {a4:A4} {a5:A5} {a6:A6} {a7:A7} {a8:A8} {a9:A9} (hr:go E gl k c σ=some (c',σ'):=by exact rfl) (hc:Gets gl σ' (τ a0 a1 a2 a3 a4 a5 a6 a7 a8 a9):=by exact covA) (hno:notOut c'=true:=by exact rfl):W P E gl (.j k J) (f a0 a1 a2 a3 a4 a5 a6 a7 a8 a9) ρ Q c σ :=
 ⟨fun h=>go_ok hE.h hr (Ctl.gets hc hno (J.out a0 a1 a2 a3 a4 a5 a6 a7 a8 a9 h))⟩
theorem W.tj10c {A0 A1 A2 A3 A4 A5 A6 A7 A8 A9:Type} {f:A0→A1→A2→A3→A4→A5→A6→A7→A8→A9→K} {τ:A0→A1→A2→A3→A4→A5→A6→A7→A8→A9→St} {J:J10 P E gl f ρ Q c' τ} {a0:A0} {a1:A1} {a2:A2} {a3:A3} {a4:A4} {a5:A5} {a6:A6} {a7:A7} {a8:A8} {a9:A9} {rr:List (Id×Id)} (hr:goN E gl k c σ=some (c',σ'):=by exact rfl) (hc:Gets gl (renL rr σ') (τ a0 a1 a2 a3 a4 a5 a6 a7 a8 a9):=by exact covA) (hno:notOut c'=true:=by exact rfl):W P E gl (.jr k J rr) (f a0 a1 a2 a3 a4 a5 a6 a7 a8 a9) ρ Q c σ :=
 ⟨fun h=>goN_ok hE.h hr (Ctl.gets (renL_gets hc) hno (J.out a0 a1 a2 a3 a4 a5 a6 a7 a8 a9 h))⟩
theorem W.tj10d {A0 A1 A2 A3 A4 A5 A6 A7 A8 A9:Type} {f:A0→A1→A2→A3→A4→A5→A6→A7→A8→A9→K} {τ:A0→A1→A2→A3→A4→A5→A6→A7→A8→A9→St} {J:J10 P E gl f ρ Q c' τ} {a0:A0} {a1:A1} {a2:A2} {a3:A3} {a4:A4} {a5:A5} {a6:A6} {a7:A7} {a8:A8} {a9:A9} {rr:List (Id×Id)} (hr:go E gl k c σ=some (c',σ'):=by exact rfl) (hc:Gets gl (renL rr σ') (τ a0 a1 a2 a3 a4 a5 a6 a7 a8 a9):=by exact covA) (hno:notOut c'=true:=by exact rfl):W P E gl (.jR k J rr) (f a0 a1 a2 a3 a4 a5 a6 a7 a8 a9) ρ Q c σ :=
 ⟨fun h=>go_ok hE.h hr (Ctl.gets (renL_gets hc) hno (J.out a0 a1 a2 a3 a4 a5 a6 a7 a8 a9 h))⟩
theorem W.tj10b {A0 A1 A2 A3 A4 A5 A6 A7 A8 A9:Type} {f:A0→A1→A2→A3→A4→A5→A6→A7→A8→A9→K} {τ:A0→A1→A2→A3→A4→A5→A6→A7→A8→A9→St} {J:J10 P E gl f ρ Q c' τ} {a0:A0} {a1:A1} {a2:A2} {a3:A3} {a4:A4} {a5:A5} {a6:A6} {a7:A7} {a8:A8} {a9:A9} (hr:goN E gl k c σ=some (c',σ'):=by exact rfl) (hc:Gets gl σ' (τ a0 a1 a2 a3 a4 a5 a6 a7 a8 a9):=by exact covA) (hno:notOut c'=true:=by exact rfl):W P E gl (.J k J) (f a0 a1 a2 a3 a4 a5 a6 a7 a8 a9) ρ Q c σ :=
 ⟨fun h=>goN_ok hE.h hr (Ctl.gets hc hno (J.out a0 a1 a2 a3 a4 a5 a6 a7 a8 a9 h))⟩
theorem W.tl10 {A0 A1 A2 A3 A4 A5 A6 A7 A8 A9:Type} {KK:Type} {step:(A0×A1×A2×A3×A4×A5×A6×A7×A8×A9)→Option ((A0×A1×A2×A3×A4×A5×A6×A7×A8×A9) ⊕ KK)} {b0:A0} {b1:A1} {b2:A2} {b3:A3} {b4:A4} {b5:A5} {b6:A6} {b7:A7} {b8:A8} {b9:A9} {ρ:KK} {ts:List Nat} {us:List (List Nat)} {os:List Id} {τ:A0→A1→A2→A3→A4→A5→A6→A7→A8→A9→St→St} {t:A0→A1→A2→A3→A4→A5→A6→A7→A8→A9→Hi} {n':Nat} {tm':List (Nat×V)} {ob':List (Id×Obj)} {out':List (Nat×List (Nat×V))} {pa':Id}
 (h1:∀a0 a1 a2 a3 a4 a5 a6 a7 a8 a9,∀oo,(∀k,oo=.inr k→k=ρ)→W P E gl (t a0 a1 a2 a3 a4 a5 a6 a7 a8 a9) (step (a0,a1,a2,a3,a4,a5,a6,a7,a8,a9)) (some oo) Q (.code r x (.lp (fun σ'=>∃x',oo=.inl x'∧Gets gl σ' (τ x'.1 x'.2.1 x'.2.2.1 x'.2.2.2.1 x'.2.2.2.2.1 x'.2.2.2.2.2.1 x'.2.2.2.2.2.2.1 x'.2.2.2.2.2.2.2.1 x'.2.2.2.2.2.2.2.2.1 x'.2.2.2.2.2.2.2.2.2 ⟨n',tm',ob',out',pa'⟩))::s)) (τ a0 a1 a2 a3 a4 a5 a6 a7 a8 a9 ⟨n',tm',ob',out',pa'⟩))
 (hr:go E gl k c σ=some (.code r (.loop x) s,σ'):=by exact rfl) (hk:kp ts us os σ'=some ⟨n',tm',ob',out',pa'⟩:=by exact rfl) (hc:Gets gl σ' (τ b0 b1 b2 b3 b4 b5 b6 b7 b8 b9 ⟨n',tm',ob',out',pa'⟩):=by exact covA):W P E gl (.l10 k ts us os τ t) (whileO step (b0,b1,b2,b3,b4,b5,b6,b7,b8,b9)) (some ρ) Q c σ :=
 ⟨fun h=>go_ok hE.h hr (Safe.loopS (fun p=>τ p.1 p.2.1 p.2.2.1 p.2.2.2.1 p.2.2.2.2.1 p.2.2.2.2.2.1 p.2.2.2.2.2.2.1 p.2.2.2.2.2.2.2.1 p.2.2.2.2.2.2.2.2.1 p.2.2.2.2.2.2.2.2.2 ⟨n',tm',ob',out',pa'⟩) h hc (fun p oo hs hρ=>(h1 p.1 p.2.1 p.2.2.1 p.2.2.2.1 p.2.2.2.2.1 p.2.2.2.2.2.1 p.2.2.2.2.2.2.1 p.2.2.2.2.2.2.2.1 p.2.2.2.2.2.2.2.2.1 p.2.2.2.2.2.2.2.2.2 oo hρ).out hs))⟩
structure J11 {K:Type} {A0 A1 A2 A3 A4 A5 A6 A7 A8 A9 A10:Type} (P:Program) (E:Env) (gl:List (Nat×List V)) (f:A0→A1→A2→A3→A4→A5→A6→A7→A8→A9→A10→K) (ρ:K) (Q:Exit→St→Prop) (c:Ctl) (τ:A0→A1→A2→A3→A4→A5→A6→A7→A8→A9→A10→St):Prop where
 out:∀a0 a1 a2 a3 a4 a5 a6 a7 a8 a9 a10,f a0 a1 a2 a3 a4 a5 a6 a7 a8 a9 a10=ρ→c.goal P E gl Q (τ a0 a1 a2 a3 a4 a5 a6 a7 a8 a9 a10)
theorem W.tj11 {A0 A1 A2 A3 A4 A5 A6 A7 A8 A9 A10:Type} {ts:List Nat} {us:List (List Nat)} {os:List Id} {m d:Nat} {ctl:Ctl} {f:A0→A1→A2→A3→A4→A5→A6→A7→A8→A9→A10→K} {τ:A0→A1→A2→A3→A4→A5→A6→A7→A8→A9→A10→St→St} {t:A0→A1→A2→A3→A4→A5→A6→A7→A8→A9→A10→Hi} {u:{p:Prop}→p→Hi} {n':Nat} {tm':List (Nat×V)} {ob':List (Id×Obj)} {out':List (Nat×List (Nat×V))} {pa':Id}
 (h1:∀a0 a1 a2 a3 a4 a5 a6 a7 a8 a9 a10,W P E gl (t a0 a1 a2 a3 a4 a5 a6 a7 a8 a9 a10) (f a0 a1 a2 a3 a4 a5 a6 a7 a8 a9 a10) ρ Q ctl (τ a0 a1 a2 a3 a4 a5 a6 a7 a8 a9 a10 ⟨n',tm',ob',out',pa'⟩)) (h2:∀J:J11 P E gl f ρ Q ctl (fun a0 a1 a2 a3 a4 a5 a6 a7 a8 a9 a10=>τ a0 a1 a2 a3 a4 a5 a6 a7 a8 a9 a10 ⟨n',tm',ob',out',pa'⟩),W P E gl (u J) o ρ Q c' σ') (hr:go E gl k c σ=some (c',σ'):=by exact rfl) (hj:jt m d c'=some ctl:=by exact rfl) (hk:kp ts us os σ'=some ⟨n',tm',ob',out',pa'⟩:=by exact rfl):W P E gl (.j11 k m d ts us os f τ t u) o ρ Q c σ :=
 ⟨fun h=>go_ok hE.h hr ((h2 ⟨fun a0 a1 a2 a3 a4 a5 a6 a7 a8 a9 a10 h=>(h1 a0 a1 a2 a3 a4 a5 a6 a7 a8 a9 a10).out h⟩).out h)⟩
theorem W.tj11a {A0 A1 A2 A3 A4 A5 A6 A7 A8 A9 A10:Type} {f:A0→A1→A2→A3→A4→A5→A6→A7→A8→A9→A10→K} {τ:A0→A1→A2→A3→A4→A5→A6→A7→A8→A9→A10→St} {J:J11 P E gl f ρ Q c' τ} {a0:A0} {a1:A1} {a2:A2} {a3:A3} {a4:A4} {a5:A5} {a6:A6} {a7:A7} {a8:A8} {a9:A9} {a10:A10} (hr:go E gl k c σ=some (c',σ'):=by exact rfl) (hc:Gets gl σ' (τ a0 a1 a2 a3 a4 a5 a6 a7 a8 a9 a10):=by exact covA) (hno:notOut c'=true:=by exact rfl):W P E gl (.j k J) (f a0 a1 a2 a3 a4 a5 a6 a7 a8 a9 a10) ρ Q c σ :=
 ⟨fun h=>go_ok hE.h hr (Ctl.gets hc hno (J.out a0 a1 a2 a3 a4 a5 a6 a7 a8 a9 a10 h))⟩
theorem W.tj11c {A0 A1 A2 A3 A4 A5 A6 A7 A8 A9 A10:Type} {f:A0→A1→A2→A3→A4→A5→A6→A7→A8→A9→A10→K} {τ:A0→A1→A2→A3→A4→A5→A6→A7→A8→A9→A10→St} {J:J11 P E gl f ρ Q c' τ} {a0:A0} {a1:A1} {a2:A2} {a3:A3} {a4:A4} {a5:A5} {a6:A6} {a7:A7} {a8:A8} {a9:A9} {a10:A10} {rr:List (Id×Id)} (hr:goN E gl k c σ=some (c',σ'):=by exact rfl) (hc:Gets gl (renL rr σ') (τ a0 a1 a2 a3 a4 a5 a6 a7 a8 a9 a10):=by exact covA) (hno:notOut c'=true:=by exact rfl):W P E gl (.jr k J rr) (f a0 a1 a2 a3 a4 a5 a6 a7 a8 a9 a10) ρ Q c σ :=
 ⟨fun h=>goN_ok hE.h hr (Ctl.gets (renL_gets hc) hno (J.out a0 a1 a2 a3 a4 a5 a6 a7 a8 a9 a10 h))⟩
theorem W.tj11d {A0 A1 A2 A3 A4 A5 A6 A7 A8 A9 A10:Type} {f:A0→A1→A2→A3→A4→A5→A6→A7→A8→A9→A10→K} {τ:A0→A1→A2→A3→A4→A5→A6→A7→A8→A9→A10→St} {J:J11 P E gl f ρ Q c' τ} {a0:A0} {a1:A1} {a2:A2} {a3:A3} {a4:A4} {a5:A5} {a6:A6} {a7:A7} {a8:A8} {a9:A9} {a10:A10} {rr:List (Id×Id)} (hr:go E gl k c σ=some (c',σ'):=by exact rfl) (hc:Gets gl (renL rr σ') (τ a0 a1 a2 a3 a4 a5 a6 a7 a8 a9 a10):=by exact covA) (hno:notOut c'=true:=by exact rfl):W P E gl (.jR k J rr) (f a0 a1 a2 a3 a4 a5 a6 a7 a8 a9 a10) ρ Q c σ :=
 ⟨fun h=>go_ok hE.h hr (Ctl.gets (renL_gets hc) hno (J.out a0 a1 a2 a3 a4 a5 a6 a7 a8 a9 a10 h))⟩
theorem W.tj11b {A0 A1 A2 A3 A4 A5 A6 A7 A8 A9 A10:Type} {f:A0→A1→A2→A3→A4→A5→A6→A7→A8→A9→A10→K} {τ:A0→A1→A2→A3→A4→A5→A6→A7→A8→A9→A10→St} {J:J11 P E gl f ρ Q c' τ} {a0:A0} {a1:A1} {a2:A2} {a3:A3} {a4:A4} {a5:A5} {a6:A6} {a7:A7} {a8:A8} {a9:A9} {a10:A10} (hr:goN E gl k c σ=some (c',σ'):=by exact rfl) (hc:Gets gl σ' (τ a0 a1 a2 a3 a4 a5 a6 a7 a8 a9 a10):=by exact covA) (hno:notOut c'=true:=by exact rfl):W P E gl (.J k J) (f a0 a1 a2 a3 a4 a5 a6 a7 a8 a9 a10) ρ Q c σ :=
 ⟨fun h=>goN_ok hE.h hr (Ctl.gets hc hno (J.out a0 a1 a2 a3 a4 a5 a6 a7 a8 a9 a10 h))⟩
theorem W.tl11 {A0 A1 A2 A3 A4 A5 A6 A7 A8 A9 A10:Type} {KK:Type} {step:(A0×A1×A2×A3×A4×A5×A6×A7×A8×A9×A10)→Option ((A0×A1×A2×A3×A4×A5×A6×A7×A8×A9×A10) ⊕ KK)} {b0:A0} {b1:A1} {b2:A2} {b3:A3} {b4:A4} {b5:A5} {b6:A6} {b7:A7} {b8:A8} {b9:A9} {b10:A10} {ρ:KK} {ts:List Nat} {us:List (List Nat)} {os:List Id} {τ:A0→A1→A2→A3→A4→A5→A6→A7→A8→A9→A10→St→St} {t:A0→A1→A2→A3→A4→A5→A6→A7→A8→A9→A10→Hi} {n':Nat} {tm':List (Nat×V)} {ob':List (Id×Obj)} {out':List (Nat×List (Nat×V))} {pa':Id}
 (h1:∀a0 a1 a2 a3 a4 a5 a6 a7 a8 a9 a10,∀oo,(∀k,oo=.inr k→k=ρ)→W P E gl (t a0 a1 a2 a3 a4 a5 a6 a7 a8 a9 a10) (step (a0,a1,a2,a3,a4,a5,a6,a7,a8,a9,a10)) (some oo) Q (.code r x (.lp (fun σ'=>∃x',oo=.inl x'∧Gets gl σ' (τ x'.1 x'.2.1 x'.2.2.1 x'.2.2.2.1 x'.2.2.2.2.1 x'.2.2.2.2.2.1 x'.2.2.2.2.2.2.1 x'.2.2.2.2.2.2.2.1 x'.2.2.2.2.2.2.2.2.1 x'.2.2.2.2.2.2.2.2.2.1 x'.2.2.2.2.2.2.2.2.2.2 ⟨n',tm',ob',out',pa'⟩))::s)) (τ a0 a1 a2 a3 a4 a5 a6 a7 a8 a9 a10 ⟨n',tm',ob',out',pa'⟩))
 (hr:go E gl k c σ=some (.code r (.loop x) s,σ'):=by exact rfl) (hk:kp ts us os σ'=some ⟨n',tm',ob',out',pa'⟩:=by exact rfl) (hc:Gets gl σ' (τ b0 b1 b2 b3 b4 b5 b6 b7 b8 b9 b10 ⟨n',tm',ob',out',pa'⟩):=by exact covA):W P E gl (.l11 k ts us os τ t) (whileO step (b0,b1,b2,b3,b4,b5,b6,b7,b8,b9,b10)) (some ρ) Q c σ :=
 ⟨fun h=>go_ok hE.h hr (Safe.loopS (fun p=>τ p.1 p.2.1 p.2.2.1 p.2.2.2.1 p.2.2.2.2.1 p.2.2.2.2.2.1 p.2.2.2.2.2.2.1 p.2.2.2.2.2.2.2.1 p.2.2.2.2.2.2.2.2.1 p.2.2.2.2.2.2.2.2.2.1 p.2.2.2.2.2.2.2.2.2.2 ⟨n',tm',ob',out',pa'⟩) h hc (fun p oo hs hρ=>(h1 p.1 p.2.1 p.2.2.1 p.2.2.2.1 p.2.2.2.2.1 p.2.2.2.2.2.1 p.2.2.2.2.2.2.1 p.2.2.2.2.2.2.2.1 p.2.2.2.2.2.2.2.2.1 p.2.2.2.2.2.2.2.2.2.1 p.2.2.2.2.2.2.2.2.2.2 oo hρ).out hs))⟩
structure J12 {K:Type} {A0 A1 A2 A3 A4 A5 A6 A7 A8 A9 A10 A11:Type} (P:Program) (E:Env) (gl:List (Nat×List V)) (f:A0→A1→A2→A3→A4→A5→A6→A7→A8→A9→A10→A11→K) (ρ:K) (Q:Exit→St→Prop) (c:Ctl) (τ:A0→A1→A2→A3→A4→A5→A6→A7→A8→A9→A10→A11→St):Prop where
 out:∀a0 a1 a2 a3 a4 a5 a6 a7 a8 a9 a10 a11,f a0 a1 a2 a3 a4 a5 a6 a7 a8 a9 a10 a11=ρ→c.goal P E gl Q (τ a0 a1 a2 a3 a4 a5 a6 a7 a8 a9 a10 a11)
theorem W.tj12 {A0 A1 A2 A3 A4 A5 A6 A7 A8 A9 A10 A11:Type} {ts:List Nat} {us:List (List Nat)} {os:List Id} {m d:Nat} {ctl:Ctl} {f:A0→A1→A2→A3→A4→A5→A6→A7→A8→A9→A10→A11→K} {τ:A0→A1→A2→A3→A4→A5→A6→A7→A8→A9→A10→A11→St→St} {t:A0→A1→A2→A3→A4→A5→A6→A7→A8→A9→A10→A11→Hi} {u:{p:Prop}→p→Hi} {n':Nat} {tm':List (Nat×V)} {ob':List (Id×Obj)} {out':List (Nat×List (Nat×V))} {pa':Id}
 (h1:∀a0 a1 a2 a3 a4 a5 a6 a7 a8 a9 a10 a11,W P E gl (t a0 a1 a2 a3 a4 a5 a6 a7 a8 a9 a10 a11) (f a0 a1 a2 a3 a4 a5 a6 a7 a8 a9 a10 a11) ρ Q ctl (τ a0 a1 a2 a3 a4 a5 a6 a7 a8 a9 a10 a11 ⟨n',tm',ob',out',pa'⟩)) (h2:∀J:J12 P E gl f ρ Q ctl (fun a0 a1 a2 a3 a4 a5 a6 a7 a8 a9 a10 a11=>τ a0 a1 a2 a3 a4 a5 a6 a7 a8 a9 a10 a11 ⟨n',tm',ob',out',pa'⟩),W P E gl (u J) o ρ Q c' σ') (hr:go E gl k c σ=some (c',σ'):=by exact rfl) (hj:jt m d c'=some ctl:=by exact rfl) (hk:kp ts us os σ'=some ⟨n',tm',ob',out',pa'⟩:=by exact rfl):W P E gl (.j12 k m d ts us os f τ t u) o ρ Q c σ :=
 ⟨fun h=>go_ok hE.h hr ((h2 ⟨fun a0 a1 a2 a3 a4 a5 a6 a7 a8 a9 a10 a11 h=>(h1 a0 a1 a2 a3 a4 a5 a6 a7 a8 a9 a10 a11).out h⟩).out h)⟩
theorem W.tj12a {A0 A1 A2 A3 A4 A5 A6 A7 A8 A9 A10 A11:Type} {f:A0→A1→A2→A3→A4→A5→A6→A7→A8→A9→A10→A11→K} {τ:A0→A1→A2→A3→A4→A5→A6→A7→A8→A9→A10→A11→St} {J:J12 P E gl f ρ Q c' τ} {a0:A0} {a1:A1} {a2:A2} {a3:A3} {a4:A4} {a5:A5} {a6:A6} {a7:A7} {a8:A8} {a9:A9} {a10:A10} {a11:A11} (hr:go E gl k c σ=some (c',σ'):=by exact rfl) (hc:Gets gl σ' (τ a0 a1 a2 a3 a4 a5 a6 a7 a8 a9 a10 a11):=by exact covA) (hno:notOut c'=true:=by exact rfl):W P E gl (.j k J) (f a0 a1 a2 a3 a4 a5 a6 a7 a8 a9 a10 a11) ρ Q c σ :=
 ⟨fun h=>go_ok hE.h hr (Ctl.gets hc hno (J.out a0 a1 a2 a3 a4 a5 a6 a7 a8 a9 a10 a11 h))⟩
theorem W.tj12c {A0 A1 A2 A3 A4 A5 A6 A7 A8 A9 A10 A11:Type} {f:A0→A1→A2→A3→A4→A5→A6→A7→A8→A9→A10→A11→K} {τ:A0→A1→A2→A3→A4→A5→A6→A7→A8→A9→A10→A11→St} {J:J12 P E gl f ρ Q c' τ} {a0:A0} {a1:A1} {a2:A2} {a3:A3} {a4:A4} {a5:A5} {a6:A6} {a7:A7} {a8:A8} {a9:A9} {a10:A10} {a11:A11} {rr:List (Id×Id)} (hr:goN E gl k c σ=some (c',σ'):=by exact rfl) (hc:Gets gl (renL rr σ') (τ a0 a1 a2 a3 a4 a5 a6 a7 a8 a9 a10 a11):=by exact covA) (hno:notOut c'=true:=by exact rfl):W P E gl (.jr k J rr) (f a0 a1 a2 a3 a4 a5 a6 a7 a8 a9 a10 a11) ρ Q c σ :=
 ⟨fun h=>goN_ok hE.h hr (Ctl.gets (renL_gets hc) hno (J.out a0 a1 a2 a3 a4 a5 a6 a7 a8 a9 a10 a11 h))⟩
theorem W.tj12d {A0 A1 A2 A3 A4 A5 A6 A7 A8 A9 A10 A11:Type} {f:A0→A1→A2→A3→A4→A5→A6→A7→A8→A9→A10→A11→K} {τ:A0→A1→A2→A3→A4→A5→A6→A7→A8→A9→A10→A11→St} {J:J12 P E gl f ρ Q c' τ} {a0:A0} {a1:A1} {a2:A2} {a3:A3} {a4:A4} {a5:A5} {a6:A6} {a7:A7} {a8:A8} {a9:A9} {a10:A10} {a11:A11} {rr:List (Id×Id)} (hr:go E gl k c σ=some (c',σ'):=by exact rfl) (hc:Gets gl (renL rr σ') (τ a0 a1 a2 a3 a4 a5 a6 a7 a8 a9 a10 a11):=by exact covA) (hno:notOut c'=true:=by exact rfl):W P E gl (.jR k J rr) (f a0 a1 a2 a3 a4 a5 a6 a7 a8 a9 a10 a11) ρ Q c σ :=
 ⟨fun h=>go_ok hE.h hr (Ctl.gets (renL_gets hc) hno (J.out a0 a1 a2 a3 a4 a5 a6 a7 a8 a9 a10 a11 h))⟩
theorem W.tj12b {A0 A1 A2 A3 A4 A5 A6 A7 A8 A9 A10 A11:Type} {f:A0→A1→A2→A3→A4→A5→A6→A7→A8→A9→A10→A11→K} {τ:A0→A1→A2→A3→A4→A5→A6→A7→A8→A9→A10→A11→St} {J:J12 P E gl f ρ Q c' τ} {a0:A0} {a1:A1} {a2:A2} {a3:A3} {a4:A4} {a5:A5} {a6:A6} {a7:A7} {a8:A8} {a9:A9} {a10:A10} {a11:A11} (hr:goN E gl k c σ=some (c',σ'):=by exact rfl) (hc:Gets gl σ' (τ a0 a1 a2 a3 a4 a5 a6 a7 a8 a9 a10 a11):=by exact covA) (hno:notOut c'=true:=by exact rfl):W P E gl (.J k J) (f a0 a1 a2 a3 a4 a5 a6 a7 a8 a9 a10 a11) ρ Q c σ :=
 ⟨fun h=>goN_ok hE.h hr (Ctl.gets hc hno (J.out a0 a1 a2 a3 a4 a5 a6 a7 a8 a9 a10 a11 h))⟩
theorem W.tl12 {A0 A1 A2 A3 A4 A5 A6 A7 A8 A9 A10 A11:Type} {KK:Type} {step:(A0×A1×A2×A3×A4×A5×A6×A7×A8×A9×A10×A11)→Option ((A0×A1×A2×A3×A4×A5×A6×A7×A8×A9×A10×A11) ⊕ KK)} {b0:A0} {b1:A1} {b2:A2} {b3:A3} {b4:A4} {b5:A5} {b6:A6} {b7:A7} {b8:A8} {b9:A9} {b10:A10} {b11:A11} {ρ:KK} {ts:List Nat} {us:List (List Nat)} {os:List Id} {τ:A0→A1→A2→A3→A4→A5→A6→A7→A8→A9→A10→A11→St→St} {t:A0→A1→A2→A3→A4→A5→A6→A7→A8→A9→A10→A11→Hi} {n':Nat} {tm':List (Nat×V)} {ob':List (Id×Obj)} {out':List (Nat×List (Nat×V))} {pa':Id}
 (h1:∀a0 a1 a2 a3 a4 a5 a6 a7 a8 a9 a10 a11,∀oo,(∀k,oo=.inr k→k=ρ)→W P E gl (t a0 a1 a2 a3 a4 a5 a6 a7 a8 a9 a10 a11) (step (a0,a1,a2,a3,a4,a5,a6,a7,a8,a9,a10,a11)) (some oo) Q (.code r x (.lp (fun σ'=>∃x',oo=.inl x'∧Gets gl σ' (τ x'.1 x'.2.1 x'.2.2.1 x'.2.2.2.1 x'.2.2.2.2.1 x'.2.2.2.2.2.1 x'.2.2.2.2.2.2.1 x'.2.2.2.2.2.2.2.1 x'.2.2.2.2.2.2.2.2.1 x'.2.2.2.2.2.2.2.2.2.1 x'.2.2.2.2.2.2.2.2.2.2.1 x'.2.2.2.2.2.2.2.2.2.2.2 ⟨n',tm',ob',out',pa'⟩))::s)) (τ a0 a1 a2 a3 a4 a5 a6 a7 a8 a9 a10 a11 ⟨n',tm',ob',out',pa'⟩))
 (hr:go E gl k c σ=some (.code r (.loop x) s,σ'):=by exact rfl) (hk:kp ts us os σ'=some ⟨n',tm',ob',out',pa'⟩:=by exact rfl) (hc:Gets gl σ' (τ b0 b1 b2 b3 b4 b5 b6 b7 b8 b9 b10 b11 ⟨n',tm',ob',out',pa'⟩):=by exact covA):W P E gl (.l12 k ts us os τ t) (whileO step (b0,b1,b2,b3,b4,b5,b6,b7,b8,b9,b10,b11)) (some ρ) Q c σ :=
 ⟨fun h=>go_ok hE.h hr (Safe.loopS (fun p=>τ p.1 p.2.1 p.2.2.1 p.2.2.2.1 p.2.2.2.2.1 p.2.2.2.2.2.1 p.2.2.2.2.2.2.1 p.2.2.2.2.2.2.2.1 p.2.2.2.2.2.2.2.2.1 p.2.2.2.2.2.2.2.2.2.1 p.2.2.2.2.2.2.2.2.2.2.1 p.2.2.2.2.2.2.2.2.2.2.2 ⟨n',tm',ob',out',pa'⟩) h hc (fun p oo hs hρ=>(h1 p.1 p.2.1 p.2.2.1 p.2.2.2.1 p.2.2.2.2.1 p.2.2.2.2.2.1 p.2.2.2.2.2.2.1 p.2.2.2.2.2.2.2.1 p.2.2.2.2.2.2.2.2.1 p.2.2.2.2.2.2.2.2.2.1 p.2.2.2.2.2.2.2.2.2.2.1 p.2.2.2.2.2.2.2.2.2.2.2 oo hρ).out hs))⟩
end
theorem walk {p:Prop} (h:p:=by repeat' first|intro _|refine W.ti ?_ ?_|exact W.tn|(refine W.tr ?_;intro h;first|(cases h;rfl)|(obtain rfl:=Option.some.inj h;rfl))|(refine W.tR ?_;intro h;(first|cases h|obtain rfl:=Option.some.inj h);constructor;refine ⟨by repeat first|exact .nil|exact .free rfl|exact .own rfl rfl|exact .nils _|exact .emp _|apply Res.tup|apply Ress.cons|apply Res.agg,by simp⟩)|refine W.tq ?_|refine W.tk ?_|refine W.tx ?_|refine W.td ?_|refine W.te ?_|refine W.tc _ ?_|refine W.tv _ ?_|refine W.to ?_|refine W.ty ?_|refine W.tB ?_ ?_ ?_|refine W.tO ?_ ?_ ?_|exact W.tK|refine W.tM ?_|refine W.tN ?_|refine W.ts ?_ ?_|refine W.tC _ ?_|refine W.tV _ ?_|refine W.tb ?_|refine W.tD ?_|refine WD.tA ?_|refine WD.tZ ?_|refine WD.tk ?_|refine WD.tX ?_|refine WD.tY ?_|refine WD.tS ?_ ?_|refine WD.tc _ ?_|refine WD.tw ?_|refine WD.tb ?_|refine WD.tv _ ?_|refine WD.tE ?_|refine W.tf ?_|refine W.tb2 ?_|refine W.tb3 ?_|refine W.tb4 ?_|refine W.te1 ?_|refine W.te2 ?_|refine W.te3 ?_|refine WD.tb2 ?_|refine WD.tb3 ?_|refine W.tg (by assumption) ?_|refine W.tg0 (by assumption) ?_|refine W.tG (by assumption) ?_|refine W.tG0 (by assumption) ?_|refine WD.tg (by assumption) ?_|refine WD.tG (by assumption) ?_|refine W.tT ?_ ?_|exact W.tu|exact W.tU|refine WD.ta ?_|refine W.tz ?_|refine W.tQ ?_|refine WD.tP ?_|refine W.tmk ?_|refine W.tL ?_|refine W.tH ?_|refine WD.tC _ ?_|refine W.tp ?_|refine W.tst ?_|refine W.th ?_|refine W.th0 ?_|refine W.th2 ?_|refine W.th3 ?_|refine W.thB ?_|refine W.tfz ?_|refine W.tI ?_ ?_|exact W.tnr|exact W.tnn|exact WD.tnn|refine WD.te1 ?_|refine WD.te2 ?_|refine WD.tg0 (by assumption) ?_|refine WD.tob ?_|refine W.tiv ?_|refine WD.toc _ ?_|refine WD.tog (by assumption) ?_|refine WD.top _ ?_|refine WD.toh (by assumption) ?_|refine WD.toq ?_|refine WD.tos ?_|refine WD.toa ?_|refine W.tap ?_|refine W.tem0 ?_|refine W.tem1 ?_|refine W.tem2 ?_|refine W.tem3 ?_|refine W.tem4 ?_|refine W.tem5 ?_|refine W.tem6 ?_|refine W.tl0 ?_|refine W.tj0 ?_ ?_|exact W.tj0a|exact W.tj0c|exact W.tj0d|exact W.tj0b|refine W.tl1 ?_|refine W.tj1 ?_ ?_|exact W.tj1a|exact W.tj1c|exact W.tj1d|exact W.tj1b|refine W.tl2 ?_|refine W.tj2 ?_ ?_|exact W.tj2a|exact W.tj2c|exact W.tj2d|exact W.tj2b|refine W.tl3 ?_|refine W.tj3 ?_ ?_|exact W.tj3a|exact W.tj3c|exact W.tj3d|exact W.tj3b|refine W.tl4 ?_|refine W.tj4 ?_ ?_|exact W.tj4a|exact W.tj4c|exact W.tj4d|exact W.tj4b|refine W.tl5 ?_|refine W.tj5 ?_ ?_|exact W.tj5a|exact W.tj5c|exact W.tj5d|exact W.tj5b|refine W.tl6 ?_|refine W.tj6 ?_ ?_|exact W.tj6a|exact W.tj6c|exact W.tj6d|exact W.tj6b|refine W.tl7 ?_|refine W.tj7 ?_ ?_|exact W.tj7a|exact W.tj7c|exact W.tj7d|exact W.tj7b|refine W.tl8 ?_|refine W.tj8 ?_ ?_|exact W.tj8a|exact W.tj8c|exact W.tj8d|exact W.tj8b|refine W.tl9 ?_|refine W.tj9 ?_ ?_|exact W.tj9a|exact W.tj9c|exact W.tj9d|exact W.tj9b|refine W.tl10 ?_|refine W.tj10 ?_ ?_|exact W.tj10a|exact W.tj10c|exact W.tj10d|exact W.tj10b|refine W.tl11 ?_|refine W.tj11 ?_ ?_|exact W.tj11a|exact W.tj11c|exact W.tj11d|exact W.tj11b|refine W.tl12 ?_|refine W.tj12 ?_ ?_|exact W.tj12a|exact W.tj12c|exact W.tj12d|exact W.tj12b|assumption):p:=h
theorem SC.w {P:Program} {E:Env} {gl:List (Nat×List V)} [hE:GoodE P E] {f:FuncId} {fn:Func} {c:Code} {args:List V} {res:V} {K:Type} {o ρ:K} (hf:P.funcs[f]?=some fn) (hc:∀(xs:Array Value) (w:World),(callFunc f xs).run P w=.ok (.enter f xs) w) (h:o=ρ) (t:Hi)
 (hb:fn.body=some c:=by exact rfl) (hn:Nat.ble args.length fn.ntmps=true:=by exact rfl) (w:W P E gl t o ρ (retQ E gl fn res) (.code false c []) ⟨fn.ntmps,initTm 0 args,[],[],[]⟩:=by exact walk):SC P gl f args res :=
 SC.of hE.h hf hb hc hn (w.out h)
theorem Safe.w {r:Bool} {P:Program} {E:Env} {gl:List (Nat×List V)} [hE:GoodE P E] {c:Code} {s:List Fr} {Q:Exit→St→Prop} {σ:St} {K:Type} {o ρ:K} (h:o=ρ) (t:Hi) (w:W P E gl t o ρ Q (.code r c s) σ:=by exact walk):Safe r P gl c (sem P E gl s Q) σ:=w.out h
theorem SafeOps.w {r:Bool} {P:Program} {E:Env} {gl:List (Nat×List V)} [hE:GoodE P E] {l rest:List Oper} {s:List Fr} {Q:Exit→St→Prop} {σ:St} {K:Type} {o ρ:K} (h:o=ρ) (t:Hi) (w:W P E gl t o ρ Q (.ops r l rest s) σ:=by exact walk):SafeOps r P gl l rest (sem P E gl s Q) σ:=w.out h
theorem Safe.w0 {r:Bool} {P:Program} {E:Env} {gl:List (Nat×List V)} [hE:GoodE P E] {c:Code} {Q:Exit→St→Prop} {σ:St} {K:Type} {o ρ:K} (h:o=ρ) (t:Hi) (w:W P E gl t o ρ Q (.code r c []) σ:=by exact walk):Safe r P gl c Q σ:=w.out h
theorem SafeOps.w0 {r:Bool} {P:Program} {E:Env} {gl:List (Nat×List V)} [hE:GoodE P E] {l rest:List Oper} {Q:Exit→St→Prop} {σ:St} {K:Type} {o ρ:K} (h:o=ρ) (t:Hi) (w:W P E gl t o ρ Q (.ops r l rest []) σ:=by exact walk):SafeOps r P gl l rest Q σ:=w.out h
theorem sem.w {P:Program} {E:Env} {gl:List (Nat×List V)} [hE:GoodE P E] {e:Exit} {s:List Fr} {Q:Exit→St→Prop} {σ:St} {K:Type} {o ρ:K} (h:o=ρ) (t:Hi) (w:W P E gl t o ρ Q (.out e s) σ:=by exact walk):sem P E gl s Q e σ:=w.out h
end Go.AM
