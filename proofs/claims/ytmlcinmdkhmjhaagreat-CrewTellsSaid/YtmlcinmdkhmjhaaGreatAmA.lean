/- Helper lemmas for the claim's theorem: an abstract machine over the model, proved sound; no condition beyond each lemma's own. -/
import Derived.Calls
import Derived.Orders
import Derived.Walk
import Derived.Deep.MidRow
import Derived.Below
import Derived.Tactics
import Derived.WalkKit
import Derived.Laws.Tables
import Derived.Laws.Slices
import Derived.Laws.StructEq
import Derived.ChangeKeysEq
set_option linter.unusedVariables false
set_option linter.unusedSimpArgs false
set_option linter.unnecessarySimpa false
set_option linter.unusedSectionVars false
namespace Go.AM
open Go Go.RowKit
abbrev Id:=List Nat
inductive V where
 | undef
 | int (k:IntKind) (n:Int)
 | bool (b:Bool)
 | str (s:ByteArray)
 | nils|nilp|nilf|nilm|emp
 | agg (cs:List V)
 | tup (vs:List V)
 | sl (s:Nat) (rows:List (List V))
 | fn (f:FuncId) (caps:List V)
 | gptr (g off:Nat)
 | spt (s:Nat) (rows:List (List V)) (row off:Nat)
 | ref (o:Id) (row len:Nat)
 | bref (o:Id) (off s len:Nat)
 | ptr (o:Id) (row off:Nat)
 | mapr (o:Id)
 | own (s:Nat) (rows:List (List V))
 | box (row:List V)
 | yld (o:Id)
 | itr (o:Id)
 | mp (ks vs:List V)
 deriving Inhabited
def Stamps (ms:Array MapEntry) (clock:Nat):Prop:=(∀x∈ms.toList,x.born < clock)∧ms.toList.Pairwise fun x y=>x.born≠y.born
def V.cells:V→List V
 | .agg cs=>cs
 | v=>[v]
mutual
inductive RC0 (w:World) (pr:Nat→Prop):V→Value→Prop
 | undef (c:Value):RC0 w pr .undef c
 | int (k:IntKind) (n:Int):RC0 w pr (.int k n) (.int k n)
 | bool (b:Bool):RC0 w pr (.bool b) (.bool b)
 | str (s:ByteArray):RC0 w pr (.str s) (.string s)
 | nils:RC0 w pr .nils (.slice none 0 0)
 | emp (a:Option Addr):RC0 w pr .emp (.slice a 0 0)
 | nilp:RC0 w pr .nilp (.pointer none)
 | nilf:RC0 w pr .nilf .nilFunc
 | nilm:RC0 w pr .nilm (.map none)
 | agg {cs:List V} {vs:List Value} (h:RCs w pr cs vs):RC0 w pr (.agg cs) (.agg vs.toArray)
 | tup {cs:List V} {vs:List Value} (h:RCs w pr cs vs):RC0 w pr (.tup cs) (.tuple vs.toArray)
 | sl0 (s:Nat) (a:Option Addr) (cap:Nat):RC0 w pr (.sl s []) (.slice a 0 cap)
 | sl {s b off cap:Nat} {rows:List (List V)} (hp:pr b) (hn:rows≠[]) (hc:rows.length≤cap) (h:RCr w pr b s off rows):RC0 w pr (.sl s rows) (.slice (some ⟨b,off,none⟩) rows.length cap)
 | fn {f:FuncId} {cs:List V} {vs:List Value} (h:RCs w pr cs vs):RC0 w pr (.fn f cs) (.func (.func f) #[] vs.toArray)
 | gptr (g off:Nat):RC0 w pr (.gptr g off) (.pointer (some ⟨g,off,none⟩))
 | spt {s b base off row:Nat} {rows:List (List V)} (hp:pr b) (h:RCr w pr b s base rows):RC0 w pr (.spt s rows row off) (.pointer (some ⟨b,base+row*s+off,none⟩))
 | mp {b clock:Nat} {ks vs:List V} {ms:Array MapEntry} (hp:pr b) (hb:w.heap[b]?=some (.map ms clock)) (hst:Stamps ms clock) (hk:RCs w pr ks (ms.toList.map (·.key))) (hv:RCs w pr vs (ms.toList.map (·.val))):RC0 w pr (.mp ks vs) (.map (some b))
 | mp0:RC0 w pr (.mp [] []) (.map none)
inductive RCs (w:World) (pr:Nat→Prop):List V→List Value→Prop
 | nil:RCs w pr [] []
 | cons {v:V} {c:Value} {vs:List V} {cs:List Value} (h:RC0 w pr v c) (t:RCs w pr vs cs):RCs w pr (v::vs) (c::cs)
inductive RCr (w:World) (pr:Nat→Prop):Nat→Nat→Nat→List (List V)→Prop
 | nil (b s off:Nat):RCr w pr b s off []
 | cons {b s off:Nat} {row:List V} {rows:List (List V)} {cs:List Value} (ha:w.rangeAt b off cs) (hl:row.length=s) (h:RCs w pr row cs) (t:RCr w pr b s (off+s) rows):RCr w pr b s off (row::rows)
end
def Like (S:Nat→Prop) (w w':World):Prop:=∀b,S b→w'.heap[b]?=w.heap[b]?
theorem Like.cell {S:Nat→Prop} {w w':World} (h:Like S w w') {a:Addr} (ha:S a.block):w'.cell? a=w.cell? a:=World.cell?_of_block (w:=w) (h a.block ha)
theorem Like.range {S:Nat→Prop} {w w':World} (h:Like S w w') {b o:Nat} {cs:List Value} (hb:S b) (hr:w.rangeAt b o cs):w'.rangeAt b o cs :=
 fun j v hv=>by rw [h.cell (a:=⟨b,o+j,none⟩) hb];exact hr j v hv
theorem range_block {w w':World} {b o:Nat} {cs:List Value} (hb:w'.heap[b]?=w.heap[b]?) (hr:w.rangeAt b o cs):w'.rangeAt b o cs :=
 fun j v hv=>by rw [World.cell?_of_block (w:=w) (a:=⟨b,o+j,none⟩) hb];exact hr j v hv
theorem Like.refl (S:Nat→Prop) (w:World):Like S w w:=fun _ _=>rfl
theorem Like.trans {S:Nat→Prop} {a b c:World} (h:Like S a b) (k:Like S b c):Like S a c:=fun i hi=>(k i hi).trans (h i hi)
mutual
theorem RC0.move {w w':World} {pr pr':Nat→Prop} (hl:Like pr w w') (hp:∀b,pr b→pr' b):∀{v:V} {c:Value},RC0 w pr v c→RC0 w' pr' v c
 | _,_,.undef c=>.undef c
 | _,_,.int k n=>.int k n
 | _,_,.bool b=>.bool b
 | _,_,.str s=>.str s
 | _,_,.nils=>.nils
 | _,_,.emp a=>.emp a
 | _,_,.nilp=>.nilp
 | _,_,.nilf=>.nilf
 | _,_,.nilm=>.nilm
 | _,_,.agg h=>.agg (RCs.move hl hp h)
 | _,_,.tup h=>.tup (RCs.move hl hp h)
 | _,_,.sl0 s a cap=>.sl0 s a cap
 | _,_,.sl hpb hn hc h=>.sl (hp _ hpb) hn hc (RCr.move hl hp (hl _ hpb) h)
 | _,_,.fn h=>.fn (RCs.move hl hp h)
 | _,_,.gptr g off=>.gptr g off
 | _,_,.spt hpb h=>.spt (hp _ hpb) (RCr.move hl hp (hl _ hpb) h)
 | _,_,.mp hpb hb hst hk hv=>.mp (hp _ hpb) ((hl _ hpb).trans hb) hst (RCs.move hl hp hk) (RCs.move hl hp hv)
 | _,_,.mp0=>.mp0
theorem RCs.move {w w':World} {pr pr':Nat→Prop} (hl:Like pr w w') (hp:∀b,pr b→pr' b):∀{vs:List V} {cs:List Value},RCs w pr vs cs→RCs w' pr' vs cs
 | _,_,.nil=>.nil
 | _,_,.cons h t=>.cons (RC0.move hl hp h) (RCs.move hl hp t)
theorem RCr.move {w w':World} {pr pr':Nat→Prop} (hl:Like pr w w') (hp:∀b,pr b→pr' b):∀{b s off:Nat} {rows:List (List V)},w'.heap[b]?=w.heap[b]?→RCr w pr b s off rows→RCr w' pr' b s off rows
 | _,_,_,_,_,.nil b s off=>.nil b s off
 | _,_,_,_,hb,.cons ha hs h t=>.cons (range_block hb ha) hs (RCs.move hl hp h) (RCr.move hl hp hb t)
end
theorem RCs.length {w:World} {pr:Nat→Prop}:∀{vs:List V} {cs:List Value},RCs w pr vs cs→vs.length=cs.length
 | _,_,.nil=>rfl
 | _,_,.cons _ t=>by simp [RCs.length t]
theorem RCs.get {w:World} {pr:Nat→Prop}:∀{vs:List V} {cs:List Value},RCs w pr vs cs→∀{i:Nat} {v:V},vs[i]?=some v→∃c,cs[i]?=some c∧RC0 w pr v c
 | _,_,.nil,i,v,h=>by simp at h
 | _,_,.cons (c:=c) h t,0,v,hv=>⟨c,rfl,by simp at hv;exact hv▸h⟩
 | _,_,.cons _ t,i+1,v,hv=>by simpa using RCs.get t (i:=i) (by simpa using hv)
theorem RCs.take {w:World} {pr:Nat→Prop}:∀{vs:List V} {cs:List Value},RCs w pr vs cs→∀n,RCs w pr (vs.take n) (cs.take n)
 | _,_,.nil,n=>by simp;exact .nil
 | _,_,.cons h t,0=>by simp;exact .nil
 | _,_,.cons h t,n+1=>by simp;exact .cons h (RCs.take t n)
theorem RCs.drop {w:World} {pr:Nat→Prop}:∀{vs:List V} {cs:List Value},RCs w pr vs cs→∀n,RCs w pr (vs.drop n) (cs.drop n)
 | _,_,.nil,n=>by simp;exact .nil
 | _,_,.cons h t,0=>.cons h t
 | _,_,.cons h t,n+1=>by simp;exact RCs.drop t n
theorem RCs.append {w:World} {pr:Nat→Prop}:∀{vs us:List V} {cs ds:List Value},RCs w pr vs cs→RCs w pr us ds→RCs w pr (vs++us) (cs++ds)
 | _,_,_,_,.nil,h=>h
 | _,_,_,_,.cons h t,k=>.cons h (RCs.append t k)
theorem RCr.get {w:World} {pr:Nat→Prop}:∀{b s off:Nat} {rows:List (List V)},RCr w pr b s off rows→∀{i:Nat} {row:List V},rows[i]?=some row →
 ∃cs,w.rangeAt b (off+i*s) cs∧row.length=s∧RCs w pr row cs
 | _,_,_,_,.nil ..,i,row,h=>by simp at h
 | _,s,off,_,.cons (cs:=cs) (row:=r0) ha hl h t,0,row,hr=>by
  have e:r0=row:=by simpa using hr
  rw [←e]
  exact ⟨cs,by rw [Nat.zero_mul,Nat.add_zero];exact ha,hl,h⟩
 | _,s,off,_,.cons ha hl h t,i+1,row,hr=>by
  obtain ⟨cs,h1,h2,h3⟩:=RCr.get t (i:=i) (row:=row) (by simpa using hr)
  exact ⟨cs,by rwa [show off+(i+1)*s=off+s+i*s by rw [Nat.add_mul];omega],h2,h3⟩
theorem RCr.drop {w:World} {pr:Nat→Prop}:∀{b s off:Nat} {rows:List (List V)},RCr w pr b s off rows→∀n,RCr w pr b s (off+n*s) (rows.drop n)
 | b,s,off,_,.nil ..,n=>by simp;exact .nil ..
 | _,_,off,_,.cons ha hl h t,0=>by simpa using RCr.cons ha hl h t
 | _,s,off,_,.cons ha hl h t,n+1=>by
  have:=RCr.drop t n
  rw [show off+(n+1)*s=off+s+n*s by rw [Nat.add_mul];omega]
  simpa using this
theorem RCr.take {w:World} {pr:Nat→Prop}:∀{b s off:Nat} {rows:List (List V)},RCr w pr b s off rows→∀n,RCr w pr b s off (rows.take n)
 | b,s,off,_,.nil ..,n=>by simp;exact .nil ..
 | _,_,off,_,.cons ha hl h t,0=>by simp;exact .nil ..
 | _,s,off,_,.cons ha hl h t,n+1=>by simp;exact .cons ha hl h (RCr.take t n)
end Go.AM
namespace Go.AM
open Go Go.RowKit
structure Bd where
 b:Nat
 base:Nat
 s:Nat
 lim:Nat
abbrev BM:=Id→Option Bd
mutual
inductive RC (w:World) (B:BM) (pr:Nat→Prop):V→Value→Prop
 | base {v:V} {c:Value} (h:RC0 w pr v c):RC w B pr v c
 | ref {o:Id} {row len cap:Nat} {bd:Bd} (ho:B o=some bd) (hr:row+cap≤bd.lim) (hc:len≤cap):RC w B pr (.ref o row len) (.slice (some ⟨bd.b,bd.base+row*bd.s,none⟩) len cap)
 | ref0 (o:Id) (row:Nat) (a:Option Addr):RC w B pr (.ref o row 0) (.slice a 0 0)
 | bref {o:Id} {off s len cap:Nat} {bd:Bd} (ho:B o=some bd) (hr:off+cap*s≤bd.s) (hc:len≤cap):RC w B pr (.bref o off s len) (.slice (some ⟨bd.b,bd.base+off,none⟩) len cap)
 | ptr {o:Id} {row off:Nat} {bd:Bd} (ho:B o=some bd):RC w B pr (.ptr o row off) (.pointer (some ⟨bd.b,bd.base+row*bd.s+off,none⟩))
 | mapr {o:Id} {bd:Bd} (ho:B o=some bd):RC w B pr (.mapr o) (.map (some bd.b))
 | yld {o:Id} {bd:Bd} (ho:B o=some bd):RC w B pr (.yld o) (.func (.yield bd.b) #[] #[])
 | itr {o:Id} {bd:Bd} (ho:B o=some bd) (h0:bd.base=0):RC w B pr (.itr o) (.pointer (some ⟨bd.b,0,none⟩))
 | agg {cs:List V} {vs:List Value} (h:RCl w B pr cs vs):RC w B pr (.agg cs) (.agg vs.toArray)
 | tup {cs:List V} {vs:List Value} (h:RCl w B pr cs vs):RC w B pr (.tup cs) (.tuple vs.toArray)
 | fn {f:FuncId} {cs:List V} {vs:List Value} (h:RCl w B pr cs vs):RC w B pr (.fn f cs) (.func (.func f) #[] vs.toArray)
inductive RCl (w:World) (B:BM) (pr:Nat→Prop):List V→List Value→Prop
 | nil:RCl w B pr [] []
 | cons {v:V} {c:Value} {vs:List V} {cs:List Value} (h:RC w B pr v c) (t:RCl w B pr vs cs):RCl w B pr (v::vs) (c::cs)
end
mutual
theorem RC.move {w w':World} {B B':BM} {pr pr':Nat→Prop} (hl:Like pr w w') (hp:∀b,pr b→pr' b) (hB:∀o bd,B o=some bd→B' o=some bd) :
 ∀{v:V} {c:Value},RC w B pr v c→RC w' B' pr' v c
 | _,_,.base h=>.base (h.move hl hp)
 | _,_,.ref ho hr hc=>.ref (hB _ _ ho) hr hc
 | _,_,.ref0 o row a=>.ref0 o row a
 | _,_,.bref ho hr hc=>.bref (hB _ _ ho) hr hc
 | _,_,.ptr ho=>.ptr (hB _ _ ho)
 | _,_,.mapr ho=>.mapr (hB _ _ ho)
 | _,_,.yld ho=>.yld (hB _ _ ho)
 | _,_,.itr ho h0=>.itr (hB _ _ ho) h0
 | _,_,.agg h=>.agg (RCl.move hl hp hB h)
 | _,_,.tup h=>.tup (RCl.move hl hp hB h)
 | _,_,.fn h=>.fn (RCl.move hl hp hB h)
theorem RCl.move {w w':World} {B B':BM} {pr pr':Nat→Prop} (hl:Like pr w w') (hp:∀b,pr b→pr' b) (hB:∀o bd,B o=some bd→B' o=some bd) :
 ∀{vs:List V} {cs:List Value},RCl w B pr vs cs→RCl w' B' pr' vs cs
 | _,_,.nil=>.nil
 | _,_,.cons h t=>.cons (RC.move hl hp hB h) (RCl.move hl hp hB t)
end
theorem RCl.of {w:World} {B:BM} {pr:Nat→Prop}:∀{vs:List V} {cs:List Value},RCs w pr vs cs→RCl w B pr vs cs
 | _,_,.nil=>.nil
 | _,_,.cons h t=>.cons (.base h) (RCl.of t)
theorem RCl.length {w:World} {B:BM} {pr:Nat→Prop}:∀{vs:List V} {cs:List Value},RCl w B pr vs cs→vs.length=cs.length
 | _,_,.nil=>rfl
 | _,_,.cons _ t=>by simp [RCl.length t]
theorem RCl.get {w:World} {B:BM} {pr:Nat→Prop}:∀{vs:List V} {cs:List Value},RCl w B pr vs cs→∀{i:Nat} {v:V},vs[i]?=some v→∃c,cs[i]?=some c∧RC w B pr v c
 | _,_,.nil,i,v,h=>by simp at h
 | _,_,.cons (c:=c) h t,0,v,hv=>⟨c,rfl,by simp at hv;exact hv▸h⟩
 | _,_,.cons _ t,i+1,v,hv=>by simpa using RCl.get t (i:=i) (by simpa using hv)
theorem RCl.take {w:World} {B:BM} {pr:Nat→Prop}:∀{vs:List V} {cs:List Value},RCl w B pr vs cs→∀n,RCl w B pr (vs.take n) (cs.take n)
 | _,_,.nil,n=>by simp;exact .nil
 | _,_,.cons h t,0=>by simp;exact .nil
 | _,_,.cons h t,n+1=>by simp;exact .cons h (RCl.take t n)
theorem RCl.drop {w:World} {B:BM} {pr:Nat→Prop}:∀{vs:List V} {cs:List Value},RCl w B pr vs cs→∀n,RCl w B pr (vs.drop n) (cs.drop n)
 | _,_,.nil,n=>by simp;exact .nil
 | _,_,.cons h t,0=>.cons h t
 | _,_,.cons h t,n+1=>by simp;exact RCl.drop t n
theorem RCl.append {w:World} {B:BM} {pr:Nat→Prop}:∀{vs us:List V} {cs ds:List Value},RCl w B pr vs cs→RCl w B pr us ds→RCl w B pr (vs++us) (cs++ds)
 | _,_,_,_,.nil,h=>h
 | _,_,_,_,.cons h t,k=>.cons h (RCl.append t k)
inductive Obj where
 | dead
 | box (cells:List V)
 | rows (s:Nat) (rs:List (List V)) (fz:Bool)
 | map (es:List (V×V))
 | pmap (es:List (V×V))
 | gmap (es:List (V×V)) (ms:Array MapEntry) (clock:Nat)
 | iter (src:Option Id) (es:List (V×V)) (ms:Array MapEntry) (clock since:Nat) (seen:Array Nat)
 | loop (n:Nat) (tm:List (Nat×V)) (ps:List Nat) (asg body:Code) (st:LoopState) (pend:Option Code)
def V.one:V→Bool
 | .agg _|.tup _|.undef|.own ..|.box _=>false
 | _=>true
def tget:List (Nat×V)→Nat→V
 | [],_=>.undef
 | (d,v)::r,t=>match Nat.beq d t with|true=>v|false=>tget r t
def TMs (w:World) (B:BM) (pr:Nat→Prop) (n:Nat) (tm:List (Nat×V)) (ts:Array Value):Prop :=
 ts.size=n∧∀t,RC w B pr (tget tm t) (ts.getD t undef)
def RCm (w:World) (pr:Nat→Prop):List (V×V)→List MapEntry→Prop
 | [],[]=>True
 | (k,v)::r,e::s=>RC0 w pr k e.key∧RC0 w pr v e.val∧RCm w pr r s
 | _,_=>False
theorem RCm.move {w w':World} {pr pr':Nat→Prop} (hl:Like pr w w') (hp:∀b,pr b→pr' b):∀{es:List (V×V)} {ms:List MapEntry},RCm w pr es ms→RCm w' pr' es ms
 | [],[],h=>h
 | [],_::_,h=>h.elim
 | (_,_)::_,[],h=>h.elim
 | (_,_)::_,_::_,h=>⟨h.1.move hl hp,h.2.1.move hl hp,RCm.move hl hp h.2.2⟩
def RCp (w:World) (B:BM) (pr:Nat→Prop):List (V×V)→List MapEntry→Prop
 | [],[]=>True
 | (k,v)::r,e::s=>RC0 w pr k e.key∧RC w B pr v e.val∧RCp w B pr r s
 | _,_=>False
theorem RCp.move {w w':World} {B B':BM} {pr pr':Nat→Prop} (hl:Like pr w w') (hp:∀b,pr b→pr' b) (hB:∀o bd,B o=some bd→B' o=some bd):∀{es:List (V×V)} {ms:List MapEntry},RCp w B pr es ms→RCp w' B' pr' es ms
 | [],[],h=>h
 | [],_::_,h=>h.elim
 | (_,_)::_,[],h=>h.elim
 | (_,_)::_,_::_,h=>⟨h.1.move hl hp,h.2.1.move hl hp hB,RCp.move hl hp hB h.2.2⟩
theorem RCm.unzip {w:World} {pr:Nat→Prop}:∀{es:List (V×V)} {ms:List MapEntry},RCm w pr es ms→RCs w pr (es.map (·.1)) (ms.map (·.key))∧RCs w pr (es.map (·.2)) (ms.map (·.val))
 | [],[],_=>⟨.nil,.nil⟩
 | [],_::_,h=>h.elim
 | (_,_)::_,[],h=>h.elim
 | (_,_)::_,_::_,h=>⟨.cons h.1 (RCm.unzip h.2.2).1,.cons h.2.1 (RCm.unzip h.2.2).2⟩
theorem RCm.zip {w:World} {pr:Nat→Prop}:∀{ks vs:List V} {ms:List MapEntry},RCs w pr ks (ms.map (·.key))→RCs w pr vs (ms.map (·.val))→RCm w pr (ks.zip vs) ms
 | ks,vs,[],h1,h2=>by
  cases h1
  trivial
 | ks,vs,m::ms,h1,h2=>by
  rw [List.map_cons] at h1 h2
  cases h1 with
  | cons h1 t1=>cases h2 with
   | cons h2 t2=>exact ⟨h1,h2,RCm.zip t1 t2⟩
def IterSrc (w:World) (B:BM) (pr:Nat→Prop) (bm:Nat) (es:List (V×V)) (ms:Array MapEntry) (clock:Nat):Option Id→Prop
 | none=>pr bm∧w.heap[bm]?=some (.map ms clock)∧RCm w pr es ms.toList
 | some m=>∃bd,B m=some bd∧bd.b=bm
theorem IterSrc.move {w w':World} {B B':BM} {pr pr':Nat→Prop} (hl:Like pr w w') (hp:∀b,pr b→pr' b) (hB:∀o bd,B o=some bd→B' o=some bd) {bm:Nat} {es:List (V×V)} {ms:Array MapEntry} {clock:Nat} :
 ∀{src:Option Id},IterSrc w B pr bm es ms clock src→IterSrc w' B' pr' bm es ms clock src
 | none,⟨h1,h2,h3⟩=>⟨hp _ h1,(hl _ h1).trans h2,h3.move hl hp⟩
 | some _,⟨bd,h1,h2⟩=>⟨bd,hB _ _ h1,h2⟩
def ObjAt (w:World) (B:BM) (pr:Nat→Prop) (bd:Bd):Obj→Prop
 | .dead=>False
 | .box cells=>bd.s=cells.length∧1≤bd.lim∧¬pr bd.b∧bd.b < w.heap.size∧w.there bd.b bd.base cells.length∧∃cs,w.rangeAt bd.b bd.base cs∧RCl w B pr cells cs
 | .rows s rs fz=>bd.s=s∧rs.length≤bd.lim∧(pr bd.b↔fz=true)∧bd.b < w.heap.size∧(fz=false→w.there bd.b bd.base (bd.lim*s))∧RCr w pr bd.b s bd.base rs
 | .map es=>¬pr bd.b∧bd.b < w.heap.size∧∃ms clock,w.heap[bd.b]?=some (.map ms clock)∧RCm w pr es ms.toList∧Stamps ms clock
 | .pmap es=>¬pr bd.b∧bd.b < w.heap.size∧∃ms clock,w.heap[bd.b]?=some (.map ms clock)∧RCp w B pr es ms.toList∧Stamps ms clock
 | .gmap es ms clock=>¬pr bd.b∧bd.b < w.heap.size∧w.heap[bd.b]?=some (.map ms clock)∧RCm w pr es ms.toList∧Stamps ms clock
 | .iter src es ms clock since seen=>bd.base=0∧¬pr bd.b∧bd.b < w.heap.size∧((∃bm,w.heap[bd.b]?=some (.mapIter (some bm) since seen clock)∧IterSrc w B pr bm es ms clock src)∨(src=none∧es=[]∧∃c1 c2 c3,w.heap[bd.b]?=some (.mapIter none c1 c2 c3)))
 | .loop n tm ps asg body st pend=>¬pr bd.b∧bd.b < w.heap.size∧∃r:Loop,w.heap[bd.b]?=some (.loop r)∧r.state=st∧r.pending=pend∧r.params=ps.toArray∧r.assign=asg∧r.body=body∧TMs w B pr n tm r.tmps
def ObjOk (w:World) (B:BM) (pr:Nat→Prop) (lo:Bd→Prop) (o:Id) (x:Obj):Prop :=
 (∃bd,B o=some bd∧ObjAt w B pr bd x∧lo bd)∨(B o=none∧∃s fz,x=.rows s [] fz)
def idEq:Id→Id→Bool
 | [],[]=>true
 | a::r,b::s=>match Nat.beq a b with|true=>idEq r s|false=>false
 | _,_=>false
theorem idEq_iff:∀{a b:Id},idEq a b=true↔a=b
 | [],[]=>by simp [idEq]
 | [],b::s=>by simp [idEq]
 | a::r,[]=>by simp [idEq]
 | a::r,b::s=>by
  unfold idEq
  cases h:Nat.beq a b with
  | true=>have:a=b:=Nat.eq_of_beq_eq_true h;subst this;simp [idEq_iff]
  | false=>have:a≠b:=Nat.ne_of_beq_eq_false h;simp [this]
def oget:List (Id×Obj)→Id→Option Obj
 | [],_=>none
 | (d,v)::r,t=>match idEq d t with|true=>some v|false=>oget r t
structure St where
 n:Nat
 tm:List (Nat×V)
 ob:List (Id×Obj)
 out:List (Nat×List (Nat×V))
 pa:Id
structure Keep (w0:World) (ow:Nat→Prop) (w:World):Prop where
 os:w.os=w0.os
 tape:w.tape=w0.tape
 output:w.output=w0.output
 drawn:w0.drawn≤w.drawn
 size:w0.heap.size≤w.heap.size
 block:∀b,b < w0.heap.size→¬ow b→w.heap[b]?=w0.heap[b]?
theorem Keep.refl (w:World) (ow:Nat→Prop):Keep w ow w:=⟨rfl,rfl,rfl,Nat.le_refl _,Nat.le_refl _,fun _ _ _=>rfl⟩
theorem Keep.trans {a b c:World} {ow:Nat→Prop} (h:Keep a ow b) (k:Keep b (fun x=>ow x∨a.heap.size≤x) c):Keep a ow c :=
 ⟨k.os.trans h.os,k.tape.trans h.tape,k.output.trans h.output,Nat.le_trans h.drawn k.drawn,Nat.le_trans h.size k.size,fun i hi ho=>(k.block i (Nat.lt_of_lt_of_le hi h.size) (fun hh=>hh.elim ho (fun h2=>by omega))).trans (h.block i hi ho)⟩
def Outs (w:World) (B:BM) (pr:Nat→Prop):List (Nat×List (Nat×V))→List (Array Value)→Prop
 | [],[]=>True
 | (n,tm)::r,a::s=>TMs w B pr n tm a∧Outs w B pr r s
 | _,_=>False
structure MarkAt (w0 w:World) (ob:List (Id×Obj)) (B:BM) (pr:Nat→Prop) (r:Nat):Prop where
 here:w.heap[r]?=some (.deferred (some []))
 lo:w0.heap.size≤r
 np:¬pr r
 nb:∀o bd,oget ob o≠some .dead→B o=some bd→bd.b≠r
def mkD (r:Nat):Deferred:={ target:=.collected r,args:=#[] }
def Dfr (w0 w:World) (ob:List (Id×Obj)) (B:BM) (pr:Nat→Prop) (ds:List Deferred):Prop:=∃rs:List Nat,ds=rs.map mkD∧rs.Nodup∧∀r∈rs,MarkAt w0 w ob B pr r
theorem Dfr.nil {w0 w:World} {ob:List (Id×Obj)} {B:BM} {pr:Nat→Prop}:Dfr w0 w ob B pr []:=⟨[],rfl,List.nodup_nil,fun _ h=>by cases h⟩
theorem Dfr.to {w0 w w0' w':World} {ob ob':List (Id×Obj)} {B B':BM} {pr pr':Nat→Prop} {ds:List Deferred} (h:Dfr w0 w ob B pr ds) (k:∀r,MarkAt w0 w ob B pr r→MarkAt w0' w' ob' B' pr' r):Dfr w0' w' ob' B' pr' ds:=by
 obtain ⟨rs,h1,h2,h3⟩:=h
 exact ⟨rs,h1,h2,fun r hr=>k r (h3 r hr)⟩
structure Globs where
 gl:List (Nat×List V)
def gget:List (Nat×List V)→Nat→Option (List V)
 | [],_=>none
 | (d,v)::r,t=>match Nat.beq d t with|true=>some v|false=>gget r t
def GlobAt (w:World) (pr:Nat→Prop) (gl:List (Nat×List V)):Prop :=
 ∀g cells,gget gl g=some cells→pr g∧∃cs,w.rangeAt g 0 cs∧RCs w pr cells cs
structure Sim (gl:List (Nat×List V)) (w0:World) (pr0 ow:Nat→Prop) (σ:St) (a:Act) (ao:List (Array Value)) (w:World) (B:BM) (pr:Nat→Prop):Prop where
 dfr:Dfr w0 w σ.ob B pr a.defers
 tms:TMs w B pr σ.n σ.tm a.tmps
 outs:Outs w B pr σ.out ao
 obn:∀o,oget σ.ob o=none→B o=none
 obs:∀o x,oget σ.ob o=some x→(x=.dead∧∀bd,B o=some bd→bd.b < w.heap.size)∨(x≠.dead∧ObjOk w B pr (fun bd=>ow bd.b∨w0.heap.size≤bd.b) o x)
 inj:∀o o' bd bd',oget σ.ob o≠some .dead→oget σ.ob o'≠some .dead→B o=some bd→B o'=some bd'→bd.b=bd'.b→o=o'
 pra:∀b,pr b→b < w.heap.size
 prm:∀b,pr0 b→pr b
 prn:∀b,pr b→pr0 b∨ow b∨w0.heap.size≤b
 glo:GlobAt w pr gl
 kp:Keep w0 ow w
end Go.AM
namespace Go.AM
open Go Go.RowKit
inductive K where
 | bool|int (k:IntKind)|str|ptr (e:Nat)|sli (e:Nat)|arr (n e:Nat)|st (fs:List (Nat×Nat))|map (k e:Nat)|fn|other
structure Ty where
 k:K
 size:Nat
 bytes:Nat
 zero:List V
abbrev Env:=List (Nat×Ty)
def ety:Env→Nat→Option Ty
 | [],_=>none
 | (d,v)::r,t=>match Nat.beq d t with|true=>some v|false=>ety r t
def K.isAgg:K→Bool
 | .st _|.arr ..=>true
 | _=>false
def listEq:List (Nat×Nat)→List (Nat×Nat)→Bool
 | [],[]=>true
 | (a,b)::r,(c,d)::s=>Nat.beq a c&&Nat.beq b d&&listEq r s
 | _,_=>false
theorem listEq_iff:∀{x y:List (Nat×Nat)},listEq x y=true→x=y
 | [],[],_=>rfl
 | [],_::_,h=>by simp [listEq] at h
 | _::_,[],h=>by simp [listEq] at h
 | (a,b)::r,(c,d)::s,h=>by
  simp only [listEq,Bool.and_eq_true] at h
  obtain ⟨⟨h1,h2⟩,h3⟩:=h
  rw [Nat.eq_of_beq_eq_true h1,Nat.eq_of_beq_eq_true h2,listEq_iff h3]
def K.fits:K→TypeDesc→Bool
 | .bool,.bool=>true
 | .int k,.int k'=>decide (k=k')
 | .str,.string=>true
 | .ptr e,.pointer e'=>Nat.beq e e'
 | .sli e,.slice e'=>Nat.beq e e'
 | .arr n e,.array n' e'=>Nat.beq n n'&&Nat.beq e e'
 | .st fs,.struct f=>listEq fs (f.toList.map fun x=>(x.type,x.offset))
 | .map k e,.map k' e'=>Nat.beq k k'&&Nat.beq e e'
 | .fn,.func ..=>true
 | .other,.tuple _=>true
 | .other,.interface _=>true
 | _,_=>false
def V.just:V→Value→Bool
 | .int k n,.int k' m=>decide (k=k')&&decide (n=m)
 | .bool a,.bool b=>decide (a=b)
 | .str s,.string t=>s.size==0&&t.size==0
 | .nils,.slice none 0 0=>true
 | .nilp,.pointer none=>true
 | .nilf,.nilFunc=>true
 | .nilm,.map none=>true
 | _,_=>false
theorem bytes_empty {s:ByteArray} (h:s.size=0):s=ByteArray.empty:=by
 cases s with
 | mk d=>have:d=#[]:=by simpa [ByteArray.size] using h
         subst this;rfl
theorem V.just_rc {w:World} {pr:Nat→Prop} {v:V} {c:Value} (h:v.just c=true):RC0 w pr v c:=by
 unfold V.just at h
 split at h
 ·simp at h;obtain ⟨rfl,rfl⟩:=h;exact .int ..
 ·simp at h;subst h;exact .bool _
 ·simp only [Bool.and_eq_true,beq_iff_eq] at h;rw [bytes_empty h.1,bytes_empty h.2];exact .str _
 ·exact .nils
 ·exact .nilp
 ·exact .nilf
 ·exact .nilm
 ·cases h
def justs:List V→List Value→Bool
 | [],[]=>true
 | v::r,c::s=>v.just c&&justs r s
 | _,_=>false
theorem justs_rc {w:World} {pr:Nat→Prop}:∀{vs:List V} {cs:List Value},justs vs cs=true→RCs w pr vs cs
 | [],[],_=>.nil
 | [],_::_,h=>by simp [justs] at h
 | _::_,[],h=>by simp [justs] at h
 | v::r,c::s,h=>by
  simp only [justs,Bool.and_eq_true] at h
  exact .cons (V.just_rc h.1) (justs_rc h.2)
def knowns (P:Program):List (Nat×Nat)→Bool
 | []=>true
 | (t,_)::r=>(P.info? t).isSome&&knowns P r
def K.known (P:Program):K→Bool
 | .st fs=>knowns P fs
 | .arr _ e|.sli e=>(P.info? e).isSome
 | _=>true
def aggFits (b:Bool):Value→Bool
 | .agg _=>b
 | .tuple _=>false
 | _=>!b
def Ty.good (P:Program) (t:Nat) (d:Ty):Bool :=
 match P.info? t,P.underlying t with
 | some i,some u=>Nat.beq i.size d.size&&Nat.beq i.bytes d.bytes&&d.k.fits u&&(d.k.known P&&Nat.beq d.zero.length d.size)&&(match i.zero with|some z=>justs d.zero z.cells.toList&&aggFits d.k.isAgg z|none=>false)
 | _,_=>false
def Env.good (P:Program):Env→Bool
 | []=>true
 | (t,d)::r=>d.good P t&&Env.good P r
structure Ty.Ok (P:Program) (t:Nat) (d:Ty):Prop where
 ex:∃i u,P.info? t=some i∧P.underlying t=some u∧i.size=d.size∧i.bytes=d.bytes∧d.k.fits u=true∧d.k.known P=true∧d.zero.length=d.size∧∃z,i.zero=some z∧justs d.zero z.cells.toList=true∧aggFits d.k.isAgg z=true
theorem Env.ok {P:Program}:∀{E:Env},E.good P=true→∀{t:Nat} {d:Ty},ety E t=some d→d.Ok P t
 | [],_,t,d,h=>by simp [ety] at h
 | (t0,d0)::r,hg,t,d,h=>by
  simp only [Env.good,Bool.and_eq_true] at hg
  unfold ety at h
  split at h
  ·rename_i hb
   have e:t0=t:=Nat.eq_of_beq_eq_true hb
   injection h with h
   subst h;subst e
   have h1:=hg.1
   unfold Ty.good at h1
   split at h1
   ·rename_i i u hi hu
    simp only [Bool.and_eq_true] at h1
    obtain ⟨⟨⟨⟨ha,hb⟩,hc⟩,⟨hk,hzl⟩⟩,hz⟩:=h1
    refine ⟨i,u,hi,hu,Nat.eq_of_beq_eq_true ha,Nat.eq_of_beq_eq_true hb,hc,hk,Nat.eq_of_beq_eq_true hzl,?_⟩
    split at hz
    ·rename_i z hz0
     simp only [Bool.and_eq_true] at hz
     exact ⟨z,hz0,hz.1,hz.2⟩
    ·cases hz
   ·cases h1
  ·exact Env.ok hg.2 h
theorem knowns_get {P:Program}:∀{fs:List (Nat×Nat)},knowns P fs=true→∀p∈fs,∃i,P.info? p.1=some i
 | [],_,p,hp=>by cases hp
 | (t,o)::r,h,p,hp=>by
  simp only [knowns,Bool.and_eq_true] at h
  cases hp with
  | head=>exact Option.isSome_iff_exists.1 h.1
  | tail _ hm=>exact knowns_get h.2 p hm
end Go.AM
namespace Go.AM
open Go Go.RowKit
def ofCell:Value→V
 | .int k n=>.int k n
 | .bool b=>.bool b
 | .string s=>.str s
 | .pointer none=>.nilp
 | .slice none 0 0=>.nils
 | .nilFunc=>.nilf
 | .map none=>.nilm
 | _=>.undef
def ofCells:List Value→List V
 | []=>[]
 | c::r=>ofCell c::ofCells r
def ofVal:Value→V
 | .agg cs=>.agg (ofCells cs.toList)
 | v=>ofCell v
theorem ofCell_rc {w:World} {pr:Nat→Prop} (c:Value):RC0 w pr (ofCell c) c:=by
 unfold ofCell
 split<;>constructor
theorem ofCells_rc {w:World} {pr:Nat→Prop}:∀(cs:List Value),RCs w pr (ofCells cs) cs
 | []=>.nil
 | c::r=>.cons (ofCell_rc c) (ofCells_rc r)
theorem ofVal_rc {w:World} {pr:Nat→Prop} (c:Value):RC0 w pr (ofVal c) c:=by
 unfold ofVal
 split
 ·rename_i cs
  have:=RC0.agg (ofCells_rc (w:=w) (pr:=pr) cs.toList)
  simpa using this
 ·exact ofCell_rc c
def ev (tm:List (Nat×V)):Operand→V
 | .tmp t=>tget tm t
 | .const v=>ofVal v
 | .global g=>.gptr g 0
 | .func f=>.fn f []
theorem ev_rc {w:World} {B:BM} {pr:Nat→Prop} {n:Nat} {tm:List (Nat×V)} {a:Act} (h:TMs w B pr n tm a.tmps) (x:Operand):RC w B pr (ev tm x) (a.eval x):=by
 cases x with
 | tmp t=>exact h.2 t
 | const v=>exact .base (ofVal_rc v)
 | global g=>exact .base (.gptr g 0)
 | func f=>exact .base (show RC0 w pr (.fn f []) (.func (.func f) #[] #[]) from RC0.fn (vs:=[]) .nil)
def evs (tm:List (Nat×V)):List Operand→List V
 | []=>[]
 | x::r=>ev tm x::evs tm r
theorem evs_rc {w:World} {B:BM} {pr:Nat→Prop} {n:Nat} {tm:List (Nat×V)} {a:Act} (h:TMs w B pr n tm a.tmps):∀(xs:List Operand),RCl w B pr (evs tm xs) (xs.map a.eval)
 | []=>.nil
 | x::r=>.cons (ev_rc h x) (evs_rc h r)
def kEq:IntKind→IntKind→Bool
 | .i8,.i8|.i16,.i16|.i32,.i32|.i64,.i64|.u8,.u8|.u16,.u16|.u32,.u32|.u64,.u64=>true
 | _,_=>false
theorem kEq_iff {a b:IntKind} (h:kEq a b=true):a=b:=by cases a<;>cases b<;>first|rfl|cases h
def evInt (op:BinOp) (k:IntKind) (x y:Int):Option V :=
 match op with
 | .add=>some (.int k (k.wrap (x+y)))
 | .sub=>some (.int k (k.wrap (x - y)))
 | .mul=>some (.int k (k.wrap (x*y)))
 | .and=>some (.int k (k.wrap (BitVec.ofInt k.bits x &&& BitVec.ofInt k.bits y).toNat))
 | .or=>some (.int k (k.wrap (BitVec.ofInt k.bits x ||| BitVec.ofInt k.bits y).toNat))
 | .xor=>some (.int k (k.wrap (BitVec.ofInt k.bits x ^^^ BitVec.ofInt k.bits y).toNat))
 | .eql=>some (.bool (x==y))
 | .neq=>some (.bool (x != y))
 | .lss=>some (.bool (decide (x < y)))
 | .leq=>some (.bool (decide (x≤y)))
 | .gtr=>some (.bool (decide (x > y)))
 | .geq=>some (.bool (decide (x≥y)))
 | _=>none
def evBin (E:Env) (op:BinOp) (t:Nat) (a b:V):Option V :=
 match a,b with
 | .int k x,.int k' y=>match op with
  | .shl|.shr=>none
  | _=>match kEq k k' with
   | true=>evInt op k x y
   | false=>none
 | .bool x,.bool y=>match ety E t with
  | some ⟨.bool,_,_,_⟩=>match op with
   | .eql=>some (.bool (x==y))
   | .neq=>some (.bool (!(x==y)))
   | _=>none
  | _=>none
 | .str x,.str y=>match op with
  | .eql=>some (.bool (x.toList==y.toList))
  | .neq=>some (.bool (!(x.toList==y.toList)))
  | _=>none
 | _,_=>none
theorem ty_under {P:Program} {t:Nat} {d:Ty} (h:d.Ok P t):∃u,P.underlying t=some u∧d.k.fits u=true:=by
 obtain ⟨i,u,_,hu,_,_,hf,_⟩:=h.ex
 exact ⟨u,hu,hf⟩
theorem ty_size {P:Program} {t:Nat} {d:Ty} (h:d.Ok P t) (w:World):(sizeOf t).run P w=.ok d.size w:=by
 obtain ⟨i,u,hi,_,hs,_⟩:=h.ex
 simp [sizeOf,typeInfo,hi,hs]
theorem ty_info {P:Program} {t:Nat} {d:Ty} (h:d.Ok P t):(P.info? t).map (·.size)=some d.size:=by
 obtain ⟨i,u,hi,_,hs,_⟩:=h.ex
 simp [hi,hs]
theorem fits_bool {u:TypeDesc} (h:K.bool.fits u=true):u=.bool:=by unfold K.fits at h;split at h<;>simp_all
theorem fits_int {k:IntKind} {u:TypeDesc} (h:(K.int k).fits u=true):u=.int k:=by unfold K.fits at h;split at h<;>simp_all
theorem fits_str {u:TypeDesc} (h:K.str.fits u=true):u=.string:=by unfold K.fits at h;split at h<;>simp_all
theorem fits_ptr {e:Nat} {u:TypeDesc} (h:(K.ptr e).fits u=true):u=.pointer e:=by
 unfold K.fits at h;split at h<;>simp_all
theorem fits_sli {e:Nat} {u:TypeDesc} (h:(K.sli e).fits u=true):u=.slice e:=by
 unfold K.fits at h;split at h<;>simp_all
theorem fits_arr {n e:Nat} {u:TypeDesc} (h:(K.arr n e).fits u=true):u=.array n e:=by
 unfold K.fits at h;split at h<;>simp_all
theorem fits_map {k e:Nat} {u:TypeDesc} (h:(K.map k e).fits u=true):u=.map k e:=by
 unfold K.fits at h;split at h<;>simp_all
theorem fits_fn {u:TypeDesc} (h:K.fn.fits u=true):∃p r v,u=.func p r v:=by
 unfold K.fits at h;split at h<;>simp_all
theorem fits_st {fs:List (Nat×Nat)} {u:TypeDesc} (h:(K.st fs).fits u=true):∃f,u=.struct f∧fs=f.toList.map (fun x=>(x.type,x.offset)):=by
 unfold K.fits at h;split at h<;>simp_all
 exact listEq_iff h
theorem RC.int_inv {w:World} {B:BM} {pr:Nat→Prop} {k:IntKind} {n:Int} {c:Value} (h:RC w B pr (.int k n) c):c=.int k n:=by cases h with|base h=>cases h;rfl
theorem RC.bool_inv {w:World} {B:BM} {pr:Nat→Prop} {b:Bool} {c:Value} (h:RC w B pr (.bool b) c):c=.bool b:=by cases h with|base h=>cases h;rfl
theorem RC.str_inv {w:World} {B:BM} {pr:Nat→Prop} {s:ByteArray} {c:Value} (h:RC w B pr (.str s) c):c=.string s:=by cases h with|base h=>cases h;rfl
theorem RC.nils_inv {w:World} {B:BM} {pr:Nat→Prop} {c:Value} (h:RC w B pr .nils c):c=.slice none 0 0:=by cases h with|base h=>cases h;rfl
theorem RC.agg_inv {w:World} {B:BM} {pr:Nat→Prop} {vs:List V} {c:Value} (h:RC w B pr (.agg vs) c):∃cs:List Value,c=.agg cs.toArray∧RCl w B pr vs cs:=by
 cases h with
 | base h=>cases h with|agg h=>exact ⟨_,rfl,.of h⟩
 | agg h=>exact ⟨_,rfl,h⟩
theorem RC.tup_inv {w:World} {B:BM} {pr:Nat→Prop} {vs:List V} {c:Value} (h:RC w B pr (.tup vs) c):∃cs:List Value,c=.tuple cs.toArray∧RCl w B pr vs cs:=by
 cases h with
 | base h=>cases h with|tup h=>exact ⟨_,rfl,.of h⟩
 | tup h=>exact ⟨_,rfl,h⟩
theorem RC.fn_inv {w:World} {B:BM} {pr:Nat→Prop} {f:FuncId} {vs:List V} {c:Value} (h:RC w B pr (.fn f vs) c):∃cs:List Value,c=.func (.func f) #[] cs.toArray∧RCl w B pr vs cs:=by
 cases h with
 | base h=>cases h with|fn h=>exact ⟨_,rfl,.of h⟩
 | fn h=>exact ⟨_,rfl,h⟩
theorem evInt_run {P:Program} {op:BinOp} {t:Nat} {k:IntKind} {x y:Int} {v:V} (h:evInt op k x y=some v) {w:World} {B:BM} {pr:Nat→Prop} :
 ∃c,(binOp op t (.int k x) (.int k y)).run P w=.ok c w∧RC w B pr v c:=by
 unfold evInt at h
 cases op<;>simp only at h<;>first|(cases h;done)|(injection h with h;subst h;refine ⟨_,?_,.base (.int _ _)⟩;simp [binOp,Op.intArith,Op.intBits];done)|(injection h with h;subst h;refine ⟨_,?_,.base (.bool _)⟩;simp [binOp,Op.intCmp];done)
theorem evBin_run {P:Program} {E:Env} (hE:E.good P=true) {op:BinOp} {t:Nat} {a b v:V} (h:evBin E op t a b=some v) {w:World} {B:BM} {pr:Nat→Prop} {x y:Value} (hx:RC w B pr a x) (hy:RC w B pr b y) :
 ∃c,(binOp op t x y).run P w=.ok c w∧RC w B pr v c:=by
 unfold evBin at h
 split at h
 ·rename_i k p k' q
  rw [hx.int_inv,hy.int_inv]
  split at h
  ·cases h
  ·cases h
  ·split at h
   ·rename_i hk
    rw [←kEq_iff hk]
    exact evInt_run h
   ·cases h
 ·rw [hx.bool_inv,hy.bool_inv]
  split at h
  ·rename_i p q _ _ _ _ ht
   obtain ⟨u,hu,hf⟩:=ty_under (Env.ok hE ht)
   have hu':=fits_bool hf
   subst hu'
   split at h
   ·injection h with h;subst h
    exact ⟨_,by simp only [binOp,Sem.run_bind,Op.equal,Op.maxDepth,run_equalIn_bool' w 9999 t p q hu,Result.andThen_ok,Sem.run_pure],.base (.bool _)⟩
   ·injection h with h;subst h
    exact ⟨_,by simp only [binOp,Sem.run_bind,Op.equal,Op.maxDepth,run_equalIn_bool' w 9999 t p q hu,Result.andThen_ok,Sem.run_pure],.base (.bool _)⟩
   ·cases h
  ·cases h
 ·rw [hx.str_inv,hy.str_inv]
  split at h
  ·injection h with h;subst h;exact ⟨_,by simp [binOp,Op.stringOp],.base (.bool _)⟩
  ·injection h with h;subst h;exact ⟨_,by simp [binOp,Op.stringOp],.base (.bool _)⟩
  ·cases h
 ·cases h
end Go.AM
namespace Go.AM
open Go Go.RowKit
theorem wp_value {P:Program} {o:Oper} {a:Act} {w w':World} {next:Act→World→Prop} {Q:Exit→Act→World→Prop} {c:Value}
 (h:(execOp a.eval o).run P w=.ok (.value c) w') (hn:next (a.put o.dst c) w'):o.wp P a w next Q:=by
 unfold Oper.wp;rw [h];exact hn
def pickV (c:Bool) (a b:V):V :=
 match a,b with
 | .bool x,.bool y=>.bool (bif c then x else y)
 | _,_=>match c with|true=>a|false=>b
theorem pickV_rc {w:World} {B:BM} {pr:Nat→Prop} {c:Bool} {a b:V} {x y:Value} (ha:RC w B pr a x) (hb:RC w B pr b y):RC w B pr (pickV c a b) (if c then x else y):=by
 unfold pickV
 split
 ·rename_i p q
  rw [ha.bool_inv,hb.bool_inv]
  cases c<;>exact .base (.bool _)
 ·cases c<;>simpa
def putCells:List V→Nat→List V→List V
 | cs,0,us=>us++cs.drop us.length
 | [],_+1,_=>[]
 | c::cs,n+1,us=>c::putCells cs n us
def putVals:List Value→Nat→List Value→List Value
 | cs,0,us=>us++cs.drop us.length
 | [],_+1,_=>[]
 | c::cs,n+1,us=>c::putVals cs n us
theorem putVals_length:∀(cs:List Value) (n:Nat) (us:List Value),n+us.length≤cs.length→(putVals cs n us).length=cs.length
 | cs,0,us,h=>by simp [putVals];omega
 | [],n+1,us,h=>by simp at h
 | c::cs,n+1,us,h=>by simp [putVals];exact putVals_length cs n us (by simp at h;omega)
theorem putVals_get:∀(cs:List Value) (n:Nat) (us:List Value) (i:Nat),n+us.length≤cs.length →
 (putVals cs n us)[i]?=if n≤i∧i < n+us.length then us[i - n]? else cs[i]?
 | cs,0,us,i,h=>by
  simp only [putVals,Nat.zero_le,true_and,Nat.zero_add,Nat.sub_zero]
  rw [List.getElem?_append]
  split
  ·rfl
  ·rw [List.getElem?_drop];congr 1;omega
 | [],n+1,us,i,h=>by simp at h
 | c::cs,n+1,us,0,h=>by simp [putVals]
 | c::cs,n+1,us,i+1,h=>by
  simp only [putVals,List.getElem?_cons_succ]
  rw [putVals_get cs n us i (by simp at h;omega)]
  by_cases hc:n≤i∧i < n+us.length
  ·rw [if_pos hc,if_pos (by omega)];congr 1;omega
  ·rw [if_neg hc,if_neg (by omega)]
theorem RCl.put {w:World} {B:BM} {pr:Nat→Prop}:∀{vs:List V} {cs:List Value} (_:RCl w B pr vs cs) (n:Nat) {us:List V} {ds:List Value} (_:RCl w B pr us ds),RCl w B pr (putCells vs n us) (putVals cs n ds)
 | _,_,h,0,us,ds,k=>by
  simp only [putCells,putVals]
  rw [RCl.length k]
  exact k.append (h.drop _)
 | _,_,.nil,n+1,us,ds,k=>by simp only [putCells,putVals];exact .nil
 | _,_,.cons h t,n+1,us,ds,k=>by simp only [putCells,putVals];exact .cons h (RCl.put t n k)
theorem fill_step (cells us:List Value) (off:Nat) (h:off+us.length≤cells.length) :
 (us.toArray.zipIdx.foldl (fun cs (x:Value×Nat)=>cs.setIfInBounds (off+x.2) x.1) cells.toArray)=(putVals cells off us).toArray:=by
 have key:∀(l:List Value) (k:Nat) (acc:Array Value),((l.zipIdx k).foldl (fun cs (x:Value×Nat)=>cs.setIfInBounds (off+x.2) x.1) acc).toList=putVals acc.toList (off+k) l∨¬(off+k+l.length≤acc.size):=by
  intro l
  induction l with
  | nil =>
   intro k acc
   left
   simp only [List.zipIdx_nil,List.foldl_nil]
   have:∀(cs:List Value) n,putVals cs n []=cs:=by
    intro cs
    induction cs with
    | nil=>intro n;cases n<;>simp [putVals]
    | cons c r ih=>intro n;cases n<;>simp [putVals,ih]
   rw [this]
  | cons u l ih =>
   intro k acc
   by_cases hb:off+k+(l.length+1)≤acc.size
   ·left
    simp only [List.zipIdx_cons,List.foldl_cons]
    rcases ih (k+1) (acc.setIfInBounds (off+k) u) with h1|h1
    ·rw [h1]
     apply List.ext_getElem?
     intro i
     rw [putVals_get _ _ _ _ (by simp;omega),putVals_get _ _ _ _ (by simp;omega)]
     simp only [Array.toList_setIfInBounds,List.length_cons]
     by_cases hi:i=off+k
     ·subst hi
      rw [if_neg (by omega),if_pos (by omega),List.getElem?_set_self (by simp;omega)]
      simp
     ·rw [List.getElem?_set_ne (by omega)]
      by_cases hc:off+(k+1)≤i∧i < off+(k+1)+l.length
      ·rw [if_pos hc,if_pos (by omega)]
       rw [show i - (off+k)=(i - (off+(k+1)))+1 by omega,List.getElem?_cons_succ]
      ·rw [if_neg hc,if_neg (by omega)]
    ·exfalso;apply h1;simp;omega
   ·right;simpa using hb
 apply Array.ext'
 rcases key us 0 cells.toArray with h1|h1
 ·simpa [←Array.foldl_toList,Array.toList_zipIdx] using h1
 ·exfalso;apply h1;simpa using h
end Go.AM
namespace Go.AM
open Go Go.RowKit
def V.cells?:V→Option (List V)
 | .undef=>none
 | .agg cs=>some cs
 | v=>some [v]
def fillV (place:Nat→Option (Nat×Nat)):List V→List (Nat×V)→Option (List V)
 | cs,[]=>some cs
 | cs,(i,v)::r=>match place i,v.cells? with
  | some (off,size),some us=>match Nat.beq us.length size,Nat.ble (off+size) cs.length with
   | true,true=>fillV place (putCells cs off us) r
   | _,_=>none
  | _,_=>none
def fieldPlace (E:Env):List (Nat×Nat)→Nat→Option (Nat×Nat)
 | [],_=>none
 | (t,off)::_,0=>match ety E t with
  | some d=>some (off,d.size)
  | none=>none
 | _::r,i+1=>fieldPlace E r i
def evParts (tm:List (Nat×V)):List (Nat×Operand)→List (Nat×V)
 | []=>[]
 | (i,x)::r=>(i,ev tm x)::evParts tm r
def mkV (agg:Bool) (cs:List V):Option V :=
 match agg with
 | true=>some (.agg cs)
 | false=>match cs with
  | [v]=>some v
  | _=>none
def nthV:List V→Nat→Option V
 | [],_=>none
 | v::_,0=>some v
 | _::r,n+1=>nthV r n
theorem nthV_get:∀(l:List V) (n:Nat),nthV l n=l[n]?
 | [],n=>by simp [nthV]
 | v::r,0=>by simp [nthV]
 | v::r,n+1=>by simp [nthV,nthV_get r n]
def takeV:Nat→List V→List V
 | 0,_=>[]
 | _+1,[]=>[]
 | n+1,v::r=>v::takeV n r
def dropV:Nat→List V→List V
 | 0,l=>l
 | _+1,[]=>[]
 | n+1,_::r=>dropV n r
theorem takeV_eq:∀(n:Nat) (l:List V),takeV n l=l.take n
 | 0,l=>by simp [takeV]
 | n+1,[]=>by simp [takeV]
 | n+1,v::r=>by simp [takeV,takeV_eq n r]
theorem dropV_eq:∀(n:Nat) (l:List V),dropV n l=l.drop n
 | 0,l=>by simp [dropV]
 | n+1,[]=>by simp [dropV]
 | n+1,v::r=>by simp [dropV,dropV_eq n r]
def cutV (cs:List V) (off n:Nat):Option (List V) :=
 match Nat.ble (off+n) cs.length with
 | true=>some (takeV n (dropV off cs))
 | false=>none
def lenV:V→Option Int
 | .sl _ rows=>some rows.length
 | .ref _ _ len=>some len
 | .bref _ _ _ len=>some len
 | .nils=>some 0
 | .emp=>some 0
 | _=>none
def lenT:V→Option Int
 | .str s=>some s.size
 | _=>none
def force:V→Option V
 | .undef=>some .undef
 | .int k n=>some (.int k n)
 | .bool b=>some (.bool b)
 | .str s=>some (.str s)
 | .nils=>some .nils
 | .nilp=>some .nilp
 | .nilf=>some .nilf
 | .nilm=>some .nilm
 | .emp=>some .emp
 | .agg cs=>some (.agg cs)
 | .tup vs=>some (.tup vs)
 | .sl s rows=>some (.sl s rows)
 | .fn f caps=>some (.fn f caps)
 | .gptr g off=>some (.gptr g off)
 | .spt s rows row off=>some (.spt s rows row off)
 | .ref o row len=>some (.ref o row len)
 | .bref o off s len=>some (.bref o off s len)
 | .ptr o row off=>some (.ptr o row off)
 | .mapr o=>some (.mapr o)
 | .own s rows=>some (.own s rows)
 | .box row=>some (.box row)
 | .yld o=>some (.yld o)
 | .itr o=>some (.itr o)
 | .mp ks vs=>some (.mp ks vs)
theorem force_eq {v u:V} (h:force v=some u):u=v:=by cases v<;>(simp only [force] at h;injection h with h;exact h.symm)
def evF (E:Env) (tm:List (Nat×V)):Op→Option V
 | .move x|.assign x=>force (ev tm x)
 | .pick c a b=>match ev tm c with
  | .bool c=>match c with
   | true=>force (ev tm a)
   | false=>force (ev tm b)
  | _=>none
 | .binOp op t x y _=>evBin E op t (ev tm x) (ev tm y)
 | .unOp op _ x=>match op,ev tm x with
  | .not,.bool b=>some (.bool (!b))
  | .neg,.int k n=>some (.int k (k.wrap (0 - n)))
  | _,_=>none
 | .convert src dst x=>match ety E src,ety E dst,ev tm x with
  | some _,some ⟨.int k,_,_,_⟩,.int _ n=>some (.int k (k.wrap n))
  | _,_,_=>none
 | .extract t i=>match ev tm t with
  | .tup vs=>match nthV vs i with
   | some v=>force v
   | none=>none
  | _=>none
 | .nilCheck x=>match ev tm x with
  | .ptr o row off=>some (.ptr o row off)
  | .spt s rows row off=>some (.spt s rows row off)
  | .fn f cs=>some (.fn f cs)
  | _=>none
 | .makeFunc (.func f) first caps=>match first.toList with
  | []=>some (.fn f (evs tm caps.toList))
  | _=>none
 | .build t parts=>match ety E t with
  | some d=>match d.k with
   | .st fs=>match fillV (fieldPlace E fs) d.zero (evParts tm parts.toList) with
    | some cs=>some (.agg cs)
    | none=>none
   | .arr _ e=>match ety E e with
    | some de=>match fillV (fun i=>some (i*de.size,de.size)) d.zero (evParts tm parts.toList) with
     | some cs=>some (.agg cs)
     | none=>none
    | none=>none
   | _=>none
  | none=>none
 | .field t x f=>match ety E t,ev tm x with
  | some ⟨.st fs,_,_,_⟩,.agg cs=>match nthF fs f with
   | some (ft,off)=>match ety E ft with
    | some d=>match cutV cs off d.size with
     | some us=>mkV d.k.isAgg us
     | none=>none
    | none=>none
   | none=>none
  | _,_=>none
 | .fieldAddr t x f=>match ety E t with
  | some ⟨.st fs,_,_,_⟩=>match nthF fs f with
   | some (ft,off)=>match ety E ft with
    | some d=>match Nat.beq d.size 0 with
     | true=>none
     | false=>match ev tm x with
      | .ptr o row p=>some (.ptr o row (p+off))
      | .spt s rows row p=>some (.spt s rows row (p+off))
      | .gptr g p=>some (.gptr g (p+off))
      | _=>none
    | none=>none
   | none=>none
  | _=>none
 | .call c=>match c.callee with
  | .builtin .len=>match c.args.toList,c.argTypes.toList with
   | [x],[t]=>match ety E t with
    | some ⟨.sli _,_,_,_⟩=>match lenV (ev tm x) with
     | some n=>some (.int .i64 n)
     | none=>none
    | some ⟨.str,_,_,_⟩=>match lenT (ev tm x) with
     | some n=>some (.int .i64 n)
     | none=>none
    | some ⟨.arr n _,_,_,_⟩=>some (.int .i64 n)
    | _=>none
   | _,_=>none
  | .builtin .min=>match c.args.toList with
   | [x,y]=>match ev tm x,ev tm y with
    | .int k a,.int _ b=>some (.int k (if b < a then b else a))
    | _,_=>none
   | _=>none
  | .builtin .max=>match c.args.toList with
   | [x,y]=>match ev tm x,ev tm y with
    | .int k a,.int _ b=>some (.int k (if b > a then b else a))
    | _,_=>none
   | _=>none
  | _=>none
 | _=>none
where
 nthF:List (Nat×Nat)→Nat→Option (Nat×Nat)
  | [],_=>none
  | p::_,0=>some p
  | _::r,n+1=>nthF r n
theorem mkV_rc {P:Program} {t:Nat} {d:Ty} (hd:d.Ok P t) {w:World} {B:BM} {pr:Nat→Prop} {vs:List V} {cs:List Value} {v:V} (h:mkV d.k.isAgg vs=some v) (hc:RCl w B pr vs cs) :
 ∃ c, RC w B pr v c ∧ ∀ (w' : World), ((do if ← isAgg t then pure (.agg cs.toArray) else match cs[0]? with | some v => pure v | none => stuck "part: no such cell") : Sem Value).run P w' = .ok c w' := by
 obtain ⟨u,hu,hf⟩:=ty_under hd
 have hagg:∀w':World,(isAgg t).run P w'=.ok d.k.isAgg w':=by
  intro w'
  unfold isAgg
  rw [Sem.run_bind,run_underlying hu w']
  revert hf
  cases d.k<;>intro hf<;>first
   | (rw [fits_bool hf];rfl)|(rw [fits_int hf];rfl)|(rw [fits_str hf];rfl)|(rw [fits_ptr hf];rfl)|(rw [fits_sli hf];rfl)|(rw [fits_arr hf];rfl)|(rw [fits_map hf];rfl)
   | (obtain ⟨p,r,v,rfl⟩:=fits_fn hf;rfl)|(obtain ⟨f,rfl,_⟩:=fits_st hf;rfl)|(unfold K.fits at hf;split at hf<;>first|rfl|simp_all)
 cases ha:d.k.isAgg with
 | true =>
  rw [ha] at h
  simp only [mkV] at h
  injection h with h;subst h
  exact ⟨_,.agg hc,fun w'=>by simp [Sem.run_bind,hagg w',ha]⟩
 | false =>
  rw [ha] at h
  unfold mkV at h
  simp only at h
  split at h
  ·injection h with h;subst h
   cases hc with
   | cons h1 t1 =>
    cases t1
    exact ⟨_,h1,fun w'=>by simp [Sem.run_bind,hagg w',ha]⟩
  ·cases h
theorem isAgg_run {P:Program} {t:Nat} {d:Ty} (hd:d.Ok P t) (w':World):(isAgg t).run P w'=.ok d.k.isAgg w':=by
 obtain ⟨u,hu,hf⟩:=ty_under hd
 unfold isAgg
 rw [Sem.run_bind,run_underlying hu w']
 revert hf
 cases d.k<;>intro hf<;>first
  | (rw [fits_bool hf];rfl)|(rw [fits_int hf];rfl)|(rw [fits_str hf];rfl)|(rw [fits_ptr hf];rfl)|(rw [fits_sli hf];rfl)|(rw [fits_arr hf];rfl)|(rw [fits_map hf];rfl)
  | (obtain ⟨p,r,v,rfl⟩:=fits_fn hf;rfl)|(obtain ⟨f,rfl,_⟩:=fits_st hf;rfl)|(unfold K.fits at hf;split at hf<;>first|rfl|simp_all)
theorem cutV_rc {w:World} {B:BM} {pr:Nat→Prop} {vs us:List V} {cs:List Value} {off n:Nat} (h:cutV vs off n=some us) (hc:RCl w B pr vs cs) :
 RCl w B pr us ((cs.drop off).take n)∧off+n≤cs.length∧us.length=n:=by
 unfold cutV at h
 split at h
 ·rename_i hb
  injection h with h;subst h
  rw [takeV_eq,dropV_eq]
  have hb':off+n≤vs.length:=Nat.le_of_ble_eq_true hb
  have hl:=hc.length
  exact ⟨(hc.drop off).take n,by omega,by simp;omega⟩
 ·cases h
theorem RC.cells {w:World} {B:BM} {pr:Nat→Prop} {v:V} {c:Value} {us:List V} (hu:v.cells?=some us) (h:RC w B pr v c):RCl w B pr us c.cells.toList:=by
 unfold V.cells? at hu
 split at hu
 ·cases hu
 ·injection hu with hu;subst hu
  obtain ⟨cs,rfl,hc⟩:=h.agg_inv
  simpa [Value.cells] using hc
 ·rename_i hn1 hn2
  injection hu with hu;subst hu
  have hcell:c.cells=#[c]:=by
   cases h with
   | base h=>cases h<;>first|rfl|exact absurd rfl hn1|exact absurd rfl (hn2 _)
   | agg h=>exact absurd rfl (hn2 _)
   | _=>rfl
  rw [hcell]
  exact .cons h .nil
theorem fill_rc {w:World} {B:BM} {pr:Nat→Prop} {place place':Nat→Option (Nat×Nat)} (hp:∀i x,place i=some x→place' i=some x) {tm:List (Nat×V)} {a:Act} {n:Nat} (ht:TMs w B pr n tm a.tmps) :
 ∀(parts:List (Nat×Operand)) (vs:List V) (cs:List Value) (us:List V),RCl w B pr vs cs→fillV place vs (evParts tm parts)=some us →
  ∃ds:List Value,Instr.fill place' cs.toArray (parts.map fun(i,x)=>(i,a.eval x))=some ds.toArray∧RCl w B pr us ds∧us.length=vs.length
 | [],vs,cs,us,h,hf=>by
  simp only [evParts,fillV] at hf
  injection hf with hf;subst hf
  exact ⟨cs,by simp [Instr.fill],h,rfl⟩
 | (i,x)::r,vs,cs,us,h,hf=>by
  simp only [evParts,fillV] at hf
  split at hf
  ·rename_i off size xs hpl hxs
   split at hf
   ·rename_i h1 h2
    have e1:=Nat.eq_of_beq_eq_true h1
    have e2:=Nat.le_of_ble_eq_true h2
    have hc:=(ev_rc ht x).cells hxs
    have hput:=h.put off hc
    have hlen:=hc.length
    have hcl:=h.length
    obtain ⟨ds,hd1,hd2,hd3⟩:=fill_rc hp ht r _ _ us hput hf
    refine ⟨ds,?_,hd2,?_⟩
    ·simp only [List.map_cons,Instr.fill,hp _ _ hpl]
     have hsz:(a.eval x).cells.size=size:=by rw [←e1,hlen];simp
     rw [if_neg (by simp [hsz];omega)]
     have:=fill_step cs (a.eval x).cells.toList off (by rw [←hlen,e1];omega)
     simp only [Array.toArray_toList] at this
     rw [this]
     exact hd1
    ·rw [hd3,hput.length,putVals_length _ _ _ (by rw [←hlen,e1];omega),hcl]
   ·cases hf
  ·cases hf
end Go.AM
namespace Go.AM
open Go Go.RowKit
theorem nthF_get:∀(fs:List (Nat×Nat)) (n:Nat),evF.nthF fs n=fs[n]?
 | [],n=>by simp [evF.nthF]
 | p::r,0=>by simp [evF.nthF]
 | p::r,n+1=>by simp [evF.nthF,nthF_get r n]
theorem fieldPlace_get {E:Env}:∀(fs:List (Nat×Nat)) (i off size:Nat),fieldPlace E fs i=some (off,size)→∃t d,fs[i]?=some (t,off)∧ety E t=some d∧d.size=size
 | [],i,off,size,h=>by simp [fieldPlace] at h
 | (t,o)::r,0,off,size,h=>by
  unfold fieldPlace at h
  split at h
  ·rename_i d hd
   injection h with h;injection h with h1 h2;subst h1;subst h2
   exact ⟨t,d,by simp,hd,rfl⟩
  ·cases h
 | p::r,i+1,off,size,h=>by
  obtain ⟨t,d,h1,h2,h3⟩:=fieldPlace_get r i off size (by simpa [fieldPlace] using h)
  exact ⟨t,d,by simpa using h1,h2,h3⟩
theorem places_some {P:Program}:∀(fs:List Field),(∀f∈fs,∃i,P.info? f.type=some i) →
 fs.mapM (fun f=>(P.info? f.type).map fun i=>(f.offset,i.size))=some (fs.map fun f=>(f.offset,P.cellsOf f.type))
 | [],_=>by simp
 | f::r,h=>by
  obtain ⟨i,hi⟩:=h f (by simp)
  have ih:=places_some r (fun g hg=>h g (by simp [hg]))
  simp [List.mapM_cons,hi,ih,Program.cellsOf]
theorem cellsOf_ty {P:Program} {t:Nat} {d:Ty} (h:d.Ok P t):P.cellsOf t=d.size:=by
 obtain ⟨i,u,hi,_,hs,_⟩:=h.ex
 simp [Program.cellsOf,hi,hs]
theorem build_run {P:Program} {E:Env} (hE:E.good P=true) {tm:List (Nat×V)} {w:World} {B:BM} {pr:Nat→Prop} {n:Nat} {a:Act} (ht:TMs w B pr n tm a.tmps) {t:Nat} {parts:Array (Nat×Operand)} {v:V}
 (h:evF E tm (.build t parts)=some v):∃c,(Instr.build t (parts.map fun(i,x)=>(i,a.eval x))).run P w=.ok c w∧RC w B pr v c:=by
 simp only [evF] at h
 split at h
 ·rename_i d hd
  have hok:=Env.ok hE hd
  obtain ⟨i,u,hi,hu,hs,hb,hf,hk,_,z,hz,hj,ha⟩:=hok.ex
  have hzr:RCl w B pr d.zero z.cells.toList:=.of (justs_rc hj)
  split at h
  ·rename_i fs hfs
   rw [hfs] at hf hk
   obtain ⟨f,rfl,rfl⟩:=fits_st hf
   have hkn:=knowns_get (P:=P) (fs:=f.toList.map fun x:Field=>(x.type,x.offset)) hk
   have hpl:=places_some (P:=P) f.toList (fun g hg=>hkn (g.type,g.offset) (List.mem_map.2 ⟨g,hg,rfl⟩))
   split at h
   ·rename_i cs hfill
    injection h with h;subst h
    have key:=fill_rc (place':=fun x=>(f.toList.map fun f=>(f.offset,P.cellsOf f.type)).toArray[x]?) (fun i x hx=>by
     obtain ⟨off,size⟩:=x
     obtain ⟨t',d',h1,h2,h3⟩:=fieldPlace_get _ _ _ _ hx
     simp only [List.getElem?_map,Option.map_eq_some_iff] at h1
     obtain ⟨g,hg1,hg2⟩:=h1
     injection hg2 with hg2 hg3
     simp only [List.getElem?_toArray,List.getElem?_map,hg1,Option.map_some]
     rw [hg3,hg2,cellsOf_ty (Env.ok hE h2),h3]) ht parts.toList _ _ _ hzr hfill
    obtain ⟨ds,k1,k2,_⟩:=key
    refine ⟨_,run_build w t _ ds.toArray ?_,.agg k2⟩
    unfold Program.built
    simp only [hi,hu,hz,hpl]
    simpa [Array.toList_map] using k1
   ·cases h
  ·rename_i m e hfs
   rw [hfs] at hf hk
   have hu':=fits_arr hf
   subst hu'
   split at h
   ·rename_i de hde
    have hoke:=Env.ok hE hde
    obtain ⟨ie,ue,hie,_,hse,_⟩:=hoke.ex
    split at h
    ·rename_i cs hfill
     injection h with h;subst h
     have key:=fill_rc (place':=fun i=>some (i*ie.size,ie.size)) (fun i x hx=>by rw [hse];exact hx) ht parts.toList _ _ _ hzr hfill
     obtain ⟨ds,k1,k2,_⟩:=key
     refine ⟨_,run_build w t _ ds.toArray ?_,.agg k2⟩
     unfold Program.built
     simp only [hi,hu,hz,hie]
     simpa [Array.toList_map] using k1
    ·cases h
   ·cases h
  ·cases h
 ·cases h
theorem field_run {P:Program} {E:Env} (hE:E.good P=true) {tm:List (Nat×V)} {w:World} {B:BM} {pr:Nat→Prop} {n:Nat} {a:Act} (ht:TMs w B pr n tm a.tmps) {t:Nat} {x:Operand} {f:Nat} {v:V}
 (h:evF E tm (.field t x f)=some v):∃c,(Instr.field t (a.eval x) f).run P w=.ok c w∧RC w B pr v c:=by
 simp only [evF] at h
 have hx:=ev_rc ht x
 split at h
 ·rename_i fs _ _ _ cs hd hev
  have hok:=Env.ok hE hd
  obtain ⟨u,hu,hf⟩:=ty_under hok
  obtain ⟨fa,rfl,rfl⟩:=fits_st hf
  rw [hev] at hx
  obtain ⟨vs,hvs,hrc⟩:=hx.agg_inv
  split at h
  ·rename_i ft off hnth
   rw [nthF_get,List.getElem?_map,Option.map_eq_some_iff] at hnth
   obtain ⟨g,hg1,hg2⟩:=hnth
   injection hg2 with hg2 hg3
   subst hg2;subst hg3
   split at h
   ·rename_i d hdf
    split at h
    ·rename_i us hcut
     obtain ⟨h1,h2,h3⟩:=cutV_rc hcut hrc
     obtain ⟨c,hc1,hc2⟩:=mkV_rc (Env.ok hE hdf) h h1
     refine ⟨c,?_,hc1⟩
     have hfa:fa[f]?=some g:=by simpa using hg1
     simp only [Instr.field,hvs,Sem.run_bind,run_underlying hu,Result.andThen_ok,hfa,asAgg,Sem.run_pure,part,isAgg_run (Env.ok hE hdf)]
     have:=hc2 w
     simp only [Sem.run_bind,isAgg_run (Env.ok hE hdf),Result.andThen_ok] at this
     cases ha:d.k.isAgg with
     | true =>
      simp only [ha,if_true,Sem.run_bind,ty_size (Env.ok hE hdf),Result.andThen_ok,Sem.run_pure] at this ⊢
      rw [←this]
      congr 2
      apply Array.ext'
      simp
     | false =>
      simp only [ha,Bool.false_eq_true,if_false] at this ⊢
      have e:((vs.drop g.offset).take d.size)[0]?=vs[g.offset]?:=by
       have:0 < d.size:=by
        by_cases hz:d.size=0
        ·rw [hz] at h3
         have:us=[]:=List.length_eq_zero_iff.1 h3
         subst this
         rw [ha] at h
         simp [mkV] at h
        ·omega
       rw [List.getElem?_take_of_lt this,List.getElem?_drop];simp
      have hlt:g.offset < vs.length:=by
       by_cases hz:g.offset < vs.length
       ·exact hz
       ·exfalso
        have:(vs.drop g.offset)=[]:=List.drop_eq_nil_of_le (by omega)
        rw [this] at h1
        simp only [List.take_nil] at h1
        have:=h1.length
        rw [h3] at this
        have hu0:us=[]:=List.length_eq_zero_iff.1 (by rw [h3];exact this)
        subst hu0
        rw [ha] at h
        simp [mkV] at h
      have hv:=List.getElem?_eq_getElem hlt
      rw [e,hv] at this
      simp only [Sem.run_pure] at this
      simp only [List.getElem?_toArray,hv,Sem.run_pure]
      exact this
    ·cases h
   ·cases h
  ·cases h
 ·cases h
theorem add_mid (b o j:Nat):(⟨b,o,none⟩:Addr).add j=⟨b,o+j,none⟩:=Addr.add_mid b o j
theorem RC.ptr_inv {w:World} {B:BM} {pr:Nat→Prop} {o:Id} {row off:Nat} {c:Value} (h:RC w B pr (.ptr o row off) c):∃bd,B o=some bd∧c=.pointer (some ⟨bd.b,bd.base+row*bd.s+off,none⟩):=by
 cases h with
 | base h=>cases h
 | ptr ho=>exact ⟨_,ho,rfl⟩
theorem RC.spt_inv {w:World} {B:BM} {pr:Nat→Prop} {s:Nat} {rows:List (List V)} {row off:Nat} {c:Value} (h:RC w B pr (.spt s rows row off) c):∃b base,c=.pointer (some ⟨b,base+row*s+off,none⟩)∧pr b∧RCr w pr b s base rows:=by
 cases h with
 | base h=>cases h with|spt hp h=>exact ⟨_,_,rfl,hp,h⟩
theorem RC.gptr_inv {w:World} {B:BM} {pr:Nat→Prop} {g off:Nat} {c:Value} (h:RC w B pr (.gptr g off) c):c=.pointer (some ⟨g,off,none⟩):=by
 cases h with
 | base h=>cases h;rfl
theorem RC.ref_inv {w:World} {B:BM} {pr:Nat→Prop} {o:Id} {row len:Nat} {c:Value} (h:RC w B pr (.ref o row len) c) :
 (len=0∧∃a,c=.slice a 0 0)∨∃bd cap,B o=some bd∧row+cap≤bd.lim∧len≤cap∧c=.slice (some ⟨bd.b,bd.base+row*bd.s,none⟩) len cap:=by
 cases h with
 | base h=>cases h
 | ref0=>exact .inl ⟨rfl,_,rfl⟩
 | ref ho hr hc=>exact .inr ⟨_,_,ho,hr,hc,rfl⟩
theorem RC.emp_inv {w:World} {B:BM} {pr:Nat→Prop} {c:Value} (h:RC w B pr .emp c):∃a,c=.slice a 0 0:=by
 cases h with
 | base h=>cases h;exact ⟨_,rfl⟩
theorem RC.bref_inv {w:World} {B:BM} {pr:Nat→Prop} {o:Id} {off s len:Nat} {c:Value} (h:RC w B pr (.bref o off s len) c):∃bd cap,B o=some bd∧off+cap*s≤bd.s∧len≤cap∧c=.slice (some ⟨bd.b,bd.base+off,none⟩) len cap:=by
 cases h with
 | base h=>cases h
 | bref ho hr hc=>exact ⟨_,_,ho,hr,hc,rfl⟩
theorem RC.sl_inv {w:World} {B:BM} {pr:Nat→Prop} {s:Nat} {rows:List (List V)} {c:Value} (h:RC w B pr (.sl s rows) c) :
 ∃a cap,c=.slice a rows.length cap∧rows.length≤cap∧(rows≠[]→∃b off,a=some ⟨b,off,none⟩∧pr b∧RCr w pr b s off rows):=by
 cases h with
 | base h=>cases h with
  | sl0 s a cap=>exact ⟨a,cap,rfl,Nat.zero_le _,fun h=>absurd rfl h⟩
  | sl hp hn hc h=>exact ⟨_,_,rfl,hc,fun _=>⟨_,_,rfl,hp,h⟩⟩
theorem fieldAddr_run {P:Program} {E:Env} (hE:E.good P=true) {tm:List (Nat×V)} {w:World} {B:BM} {pr:Nat→Prop} {n:Nat} {a:Act} (ht:TMs w B pr n tm a.tmps) {t:Nat} {x:Operand} {f:Nat} {v:V}
 (h:evF E tm (.fieldAddr t x f)=some v):∃c,(Instr.fieldAt t (a.eval x) f).run P w=.ok c w∧RC w B pr v c:=by
 simp only [evF] at h
 have hx:=ev_rc ht x
 split at h
 ·rename_i fs _ _ _ hd
  obtain ⟨u,hu,hf⟩:=ty_under (Env.ok hE hd)
  obtain ⟨fa,rfl,rfl⟩:=fits_st hf
  split at h
  ·rename_i ft off hnth
   rw [nthF_get,List.getElem?_map,Option.map_eq_some_iff] at hnth
   obtain ⟨g,hg1,hg2⟩:=hnth
   injection hg2 with hg2 hg3
   subst hg2;subst hg3
   have hfa:fa[f]?=some g:=by simpa using hg1
   split at h
   ·rename_i d hdf
    split at h
    ·cases h
    ·rename_i hsz
     have hne:d.size≠0:=Nat.ne_of_beq_eq_false hsz
     have key:∀b o:Nat,a.eval x=.pointer (some ⟨b,o,none⟩)→(Instr.fieldAt t (a.eval x) f).run P w=.ok (.pointer (some ⟨b,o+g.offset,none⟩)) w:=by
      intro b o he
      simp only [Instr.fieldAt,he,Sem.run_bind,run_underlying hu,Result.andThen_ok,hfa,Instr.sureAddr,Sem.run_pure,Go.fieldPlace,ty_size (Env.ok hE hdf),if_neg hne,add_mid]
     split at h
     ·rename_i o row p hev
      rw [hev] at hx
      obtain ⟨bd,hB,hc⟩:=hx.ptr_inv
      injection h with h;subst h
      exact ⟨_,key _ _ hc,by rw [show bd.base+row*bd.s+p+g.offset=bd.base+row*bd.s+(p+g.offset) by omega];exact .ptr hB⟩
     ·rename_i s rows row p hev
      rw [hev] at hx
      obtain ⟨b,base,hc,hp,hr⟩:=hx.spt_inv
      injection h with h;subst h
      exact ⟨_,key _ _ hc,by rw [show base+row*s+p+g.offset=base+row*s+(p+g.offset) by omega];exact .base (.spt hp hr)⟩
     ·rename_i g' p hev
      rw [hev] at hx
      have hc:=hx.gptr_inv
      injection h with h;subst h
      exact ⟨_,key _ _ hc,.base (.gptr _ _)⟩
     ·cases h
   ·cases h
  ·cases h
 ·cases h
end Go.AM
namespace Go.AM
open Go Go.RowKit
theorem lenV_run {w:World} {B:BM} {pr:Nat→Prop} {v:V} {c:Value} {n:Int} (h:lenV v=some n) (hc:RC w B pr v c) :
 ∃a cap len,c=.slice a len cap∧n=(len:Nat):=by
 unfold lenV at h
 split at h
 ·injection h with h;obtain ⟨a,cap,rfl,_⟩:=hc.sl_inv;exact ⟨_,_,_,rfl,h.symm⟩
 ·injection h with h
  rcases hc.ref_inv with ⟨h0,a,rfl⟩|⟨bd,cap,_,_,_,rfl⟩
  ·exact ⟨_,_,_,rfl,by rw [←h,h0]⟩
  ·exact ⟨_,_,_,rfl,h.symm⟩
 ·injection h with h;obtain ⟨bd,cap,_,_,_,rfl⟩:=hc.bref_inv;exact ⟨_,_,_,rfl,h.symm⟩
 ·injection h with h;rw [hc.nils_inv];exact ⟨_,_,_,rfl,h.symm⟩
 ·injection h with h;obtain ⟨a,rfl⟩:=hc.emp_inv;exact ⟨_,_,_,rfl,h.symm⟩
 ·cases h
theorem lenT_run {w:World} {B:BM} {pr:Nat→Prop} {v:V} {c:Value} {n:Int} (h:lenT v=some n) (hc:RC w B pr v c) :
 ∃s,c=.string s∧n=(s.size:Nat):=by
 unfold lenT at h
 split at h
 ·injection h with h;rw [hc.str_inv];exact ⟨_,rfl,h.symm⟩
 ·cases h
theorem evF_run {P:Program} {E:Env} (hE:E.good P=true) {tm:List (Nat×V)} {w:World} {B:BM} {pr:Nat→Prop} {n:Nat} {a:Act} (ht:TMs w B pr n tm a.tmps) {o:Oper} {v:V}
 (h:evF E tm o.op=some v):∃c,(execOp a.eval o).run P w=.ok (.value c) w∧RC w B pr v c:=by
 obtain ⟨dst,op,type,pos,after,guard⟩:=o
 simp only at h
 cases op with
 | move x=>simp only [evF] at h;rw [force_eq h];exact ⟨_,rfl,ev_rc ht x⟩
 | assign x=>simp only [evF] at h;rw [force_eq h];exact ⟨_,rfl,ev_rc ht x⟩
 | pick c x y =>
  simp only [evF] at h
  split at h
  ·rename_i b hb
   have hc:=ev_rc ht c
   rw [hb] at hc
   have hrun:(execOp a.eval ⟨dst,.pick c x y,type,pos,after,guard⟩).run P w=.ok (.value (if b then a.eval x else a.eval y)) w:=by
    simp only [execOp,hc.bool_inv,asBool,Sem.run_bind,Sem.run_pure,Result.andThen_ok]
   cases b with
   | true=>simp only at h;rw [force_eq h];exact ⟨_,hrun,ev_rc ht x⟩
   | false=>simp only at h;rw [force_eq h];exact ⟨_,hrun,ev_rc ht y⟩
  ·cases h
 | binOp op t x y _ =>
  simp only [evF] at h
  have hx:=ev_rc ht x
  have hy:=ev_rc ht y
  obtain ⟨c,hr,hc⟩:=evBin_run hE h hx hy
  refine ⟨c,?_,hc⟩
  have hg:(eqGuard op t x y (a.eval x) (a.eval y)).run P w=.ok () w:=by
   unfold evBin at h
   split at h
   ·rename_i h1 h2;rw [h1] at hx;rw [h2] at hy;rw [hx.int_inv,hy.int_inv];unfold eqGuard;cases op<;>simp
   ·rename_i h1 h2;rw [h1] at hx;rw [h2] at hy;rw [hx.bool_inv,hy.bool_inv];unfold eqGuard;cases op<;>simp
   ·rename_i h1 h2;rw [h1] at hx;rw [h2] at hy;rw [hx.str_inv,hy.str_inv];unfold eqGuard;cases op<;>simp
   ·cases h
  simp only [execOp,Sem.run_bind,hg,hr,Result.andThen_ok,Sem.run_pure]
 | unOp op t x =>
  simp only [evF] at h
  have hx:=ev_rc ht x
  split at h
  ·rename_i h1 h2
   injection h with h;subst h
   rw [h2] at hx
   exact ⟨_,by simp only [execOp,hx.bool_inv,Op.unary,Sem.run_bind,Sem.run_pure,Result.andThen_ok],.base (.bool _)⟩
  ·rename_i h1 h2
   injection h with h;subst h
   rw [h2] at hx
   exact ⟨_,by simp only [execOp,hx.int_inv,Op.unary,Op.intArith,Sem.run_bind,Sem.run_pure,Result.andThen_ok],.base (.int _ _)⟩
  ·cases h
 | convert src dst x =>
  simp only [evF] at h
  have hx:=ev_rc ht x
  split at h
  ·rename_i d1 k s b z k' m hs hd hv
   injection h with h;subst h
   rw [hv] at hx
   obtain ⟨u,hu,hf⟩:=ty_under (Env.ok hE hd)
   obtain ⟨u1,hu1,_⟩:=ty_under (Env.ok hE hs)
   have hu':=fits_int hf
   subst hu'
   refine ⟨_,?_,.base (.int _ _)⟩
   simp only [execOp,hx.int_inv,convert,Sem.run_bind,run_underlying hu,run_underlying hu1,Result.andThen_ok,Conv.intToInt,Sem.run_pure]
  ·cases h
 | extract t i =>
  simp only [evF] at h
  have hx:=ev_rc ht t
  split at h
  ·rename_i vs hv
   rw [hv] at hx
   obtain ⟨cs,hcs,hl⟩:=hx.tup_inv
   split at h
   case h_2=>cases h
   rename_i u hu
   rw [force_eq h]
   rw [nthV_get] at hu
   obtain ⟨c,hc1,hc2⟩:=hl.get hu
   exact ⟨c,by simp only [execOp,hcs,Instr.extract,List.getElem?_toArray,hc1,Sem.run_bind,Sem.run_pure,Result.andThen_ok],hc2⟩
  ·cases h
 | nilCheck x =>
  simp only [evF] at h
  have hx:=ev_rc ht x
  split at h
  ·rename_i hv
   rw [hv] at hx
   injection h with h;subst h
   obtain ⟨bd,_,hc⟩:=hx.ptr_inv
   exact ⟨_,by simp only [execOp,hc,Sem.run_pure],hc▸hx⟩
  ·rename_i hv
   rw [hv] at hx
   injection h with h;subst h
   obtain ⟨b,base,hc,_⟩:=hx.spt_inv
   exact ⟨_,by simp only [execOp,hc,Sem.run_pure],hc▸hx⟩
  ·rename_i hv
   rw [hv] at hx
   injection h with h;subst h
   obtain ⟨cs,hc,_⟩:=hx.fn_inv
   exact ⟨_,by simp only [execOp,hc,Sem.run_pure],hc▸hx⟩
  ·cases h
 | makeFunc fn first caps =>
  cases fn with
  | func f =>
   simp only [evF] at h
   split at h
   ·rename_i hfi
    injection h with h;subst h
    have hfi':first=#[]:=by apply Array.ext';simpa using hfi
    subst hfi'
    have e:(caps.toList.map a.eval).toArray=caps.map a.eval:=by rw [←Array.toList_map]
    refine ⟨_,?_,.fn (evs_rc ht caps.toList)⟩
    simp only [execOp,Instr.makeFunc,Sem.run_bind,Sem.run_pure,Result.andThen_ok,e,Array.map_empty]
   ·cases h
  | _=>simp [evF] at h
 | build t parts =>
  obtain ⟨c,hr,hc⟩:=build_run hE ht h
  exact ⟨c,by simp only [execOp,Sem.run_bind,hr,Result.andThen_ok,Sem.run_pure],hc⟩
 | field t x f =>
  obtain ⟨c,hr,hc⟩:=field_run hE ht h
  exact ⟨c,by simp only [execOp,Sem.run_bind,hr,Result.andThen_ok,Sem.run_pure],hc⟩
 | fieldAddr t x f =>
  obtain ⟨c,hr,hc⟩:=fieldAddr_run hE ht h
  exact ⟨c,by simp only [execOp,Sem.run_bind,hr,Result.andThen_ok,Sem.run_pure],hc⟩
 | call c =>
  obtain ⟨callee,args,argTypes⟩:=c
  cases callee with
  | value f=>simp [evF] at h
  | invoke r m=>simp [evF] at h
  | builtin b =>
   cases b with
   | len =>
    simp only [evF] at h
    split at h
    ·rename_i x t hxs hts
     have hargs:args=#[x]:=by apply Array.ext';simpa using hxs
     have htys:argTypes=#[t]:=by apply Array.ext';simpa using hts
     subst hargs;subst htys
     have hx:=ev_rc ht x
     have run:∀c:Value,(Builtin.len_ #[t] type #[a.eval x]).run P w=.ok c w→(execOp a.eval ⟨dst,.call ⟨.builtin .len,#[x],#[t]⟩,type,pos,after,guard⟩).run P w=.ok (.value c) w:=by
      intro c hc
      simp only [execOp,resolve,Sem.run_bind,Sem.run_pure,Result.andThen_ok,invoke,builtin,List.map_toArray,List.map_cons,List.map_nil,hc]
     split at h
     ·rename_i e _ _ _ hd
      split at h
      ·rename_i m hl
       injection h with h;subst h
       obtain ⟨u,hu,hf⟩:=ty_under (Env.ok hE hd)
       have hu':=fits_sli hf
       subst hu'
       obtain ⟨a',cap,len,hc,rfl⟩:=lenV_run hl hx
       exact ⟨_,run _ (by simp [Builtin.len_,hc,run_underlying hu,goInt]),.base (.int _ _)⟩
      ·cases h
     ·rename_i hd
      split at h
      ·rename_i m hl
       injection h with h;subst h
       obtain ⟨u,hu,hf⟩:=ty_under (Env.ok hE hd)
       have hu':=fits_str hf
       subst hu'
       obtain ⟨s,hc,rfl⟩:=lenT_run hl hx
       exact ⟨_,run _ (by simp [Builtin.len_,hc,run_underlying hu,goInt]),.base (.int _ _)⟩
      ·cases h
     ·rename_i m e _ _ _ hd
      injection h with h;subst h
      obtain ⟨u,hu,hf⟩:=ty_under (Env.ok hE hd)
      have hu':=fits_arr hf
      subst hu'
      exact ⟨_,run _ (by simp [Builtin.len_,run_underlying hu,goInt]),.base (.int _ _)⟩
     ·cases h
    ·cases h
   | min =>
    simp only [evF] at h
    split at h
    ·rename_i x y hxs
     have hargs:args=#[x,y]:=by apply Array.ext';simpa using hxs
     subst hargs
     have hx:=ev_rc ht x
     have hy:=ev_rc ht y
     split at h
     ·rename_i k p k' q h1 h2
      injection h with h;subst h
      rw [h1] at hx;rw [h2] at hy
      refine ⟨_,?_,.base (.int _ _)⟩
      simp only [execOp,resolve,Sem.run_bind,Sem.run_pure,Result.andThen_ok,invoke,builtin,List.map_toArray,List.map_cons,List.map_nil,Builtin.min_,hx.int_inv,hy.int_inv,List.foldlM_cons,List.foldlM_nil,Builtin.min2]
     ·cases h
    ·cases h
   | max =>
    simp only [evF] at h
    split at h
    ·rename_i x y hxs
     have hargs:args=#[x,y]:=by apply Array.ext';simpa using hxs
     subst hargs
     have hx:=ev_rc ht x
     have hy:=ev_rc ht y
     split at h
     ·rename_i k p k' q h1 h2
      injection h with h;subst h
      rw [h1] at hx;rw [h2] at hy
      refine ⟨_,?_,.base (.int _ _)⟩
      simp only [execOp,resolve,Sem.run_bind,Sem.run_pure,Result.andThen_ok,invoke,builtin,List.map_toArray,List.map_cons,List.map_nil,Builtin.max_,hx.int_inv,hy.int_inv,List.foldlM_cons,List.foldlM_nil,Builtin.max2]
     ·cases h
    ·cases h
   | _=>simp [evF] at h
 | _=>simp [evF] at h
end Go.AM
namespace Go.AM
open Go Go.RowKit
variable {P:Program} {E:Env}
theorem ty_cells {t:Nat} {d:Ty} (h:d.Ok P t):P.cellsOf t=d.size:=by
 have:=ty_info h
 unfold Program.cellsOf
 cases hi:P.info? t with
 | none=>rw [hi] at this;cases this
 | some i=>rw [hi] at this;injection this with this
def eqFs (E:Env) (f:Nat→List V→List V→Option Bool):List (Nat×Nat)→List V→List V→Option Bool
 | [],_,_=>some true
 | (t,off)::r,us,vs=>match ety E t with
  | some d=>match cutV us off d.size,cutV vs off d.size with
   | some a,some b=>match f t a b,eqFs E f r us vs with
    | some x,some y=>some (x&&y)
    | _,_=>none
   | _,_=>none
  | none=>none
def eqAs (f:List V→List V→Option Bool) (s:Nat):Nat→Nat→List V→List V→Option Bool
 | 0,_,_,_=>some true
 | m+1,off,us,vs=>match cutV us off s,cutV vs off s with
  | some a,some b=>match f a b,eqAs f s m (off+s) us vs with
   | some x,some y=>some (x&&y)
   | _,_=>none
  | _,_=>none
def eqT (E:Env):Nat→Nat→List V→List V→Option Bool
 | 0,_,_,_=>none
 | n+1,t,us,vs=>match ety E t with
  | some d=>match d.k with
   | .bool=>match us,vs with
    | [.bool a],[.bool b]=>some (a==b)
    | _,_=>none
   | .int _=>match us,vs with
    | [.int k a],[.int k' b]=>match kEq k k' with
     | true=>some (a==b)
     | false=>none
    | _,_=>none
   | .str=>match us,vs with
    | [.str a],[.str b]=>some (a.toList==b.toList)
    | _,_=>none
   | .st fs=>eqFs E (eqT E n) fs us vs
   | .arr m e=>match ety E e with
    | some de=>eqAs (eqT E n e) de.size m 0 us vs
    | none=>none
   | _=>none
  | none=>none
def eqOk (P:Program) (E:Env):Nat→Nat→Bool
 | 0,_=>false
 | n+1,t=>match ety E t with
  | some d=>match d.k with
   | .st _ => !P.stoodInHeld t && (P.fieldsOf t).toList.all (fun f => f.name != "_" && eqOk P E n f.type)
   | .arr _ e=>eqOk P E n e
   | _=>true
  | none=>false
def valOf (agg:Bool) (cs:List Value):Value:=match agg with
 | true=>.agg cs.toArray
 | false=>cs.headD undef
theorem part_run {w:World} {t:Nat} {d:Ty} (hd:d.Ok P t) {cs:List Value} {off:Nat} (h:off+d.size≤cs.length) (h1:d.k.isAgg=false→0 < d.size) :
 (part t cs.toArray off).run P w=.ok (valOf d.k.isAgg ((cs.drop off).take d.size)) w:=by
 cases ha:d.k.isAgg with
 | true =>
  have:=isAgg_run hd w
  rw [ha] at this
  simp only [part,Sem.run_bind,this,Result.andThen_ok,if_true,ty_size hd,Sem.run_pure,valOf]
  congr 2
  apply Array.ext'
  simp [List.extract_eq_take_drop]
 | false =>
  have:=isAgg_run hd w
  rw [ha] at this
  have h2:=h1 ha
  have hlt:off < cs.length:=by omega
  simp only [part,Sem.run_bind,this,Result.andThen_ok,valOf]
  simp [hlt]
  cases hn:d.size with
  | zero=>omega
  | succ m=>rw [List.drop_eq_getElem_cons hlt];rfl
theorem eqT_size {n t:Nat} {d:Ty} {us vs:List V} {b:Bool} (hd:ety E t=some d) (h:eqT E n t us vs=some b):d.k.isAgg=false→us.length=1∧vs.length=1:=by
 intro ha
 cases n with
 | zero=>simp [eqT] at h
 | succ n =>
  unfold eqT at h
  rw [hd] at h
  simp only at h
  split at h
  ·split at h
   ·exact ⟨rfl,rfl⟩
   ·cases h
  ·split at h
   ·exact ⟨rfl,rfl⟩
   ·cases h
  ·split at h
   ·exact ⟨rfl,rfl⟩
   ·cases h
  ·rename_i hk;rw [hk] at ha;cases ha
  ·rename_i hk;rw [hk] at ha;cases ha
  ·cases h
theorem eqT_run (hE:E.good P=true) {w:World} {B:BM} {pr:Nat→Prop}:∀(n t:Nat) (d:Ty) (us vs:List V) (cs ds:List Value) (b:Bool) (D:Nat),n≤D→eqOk P E n t=true→ety E t=some d→eqT E n t us vs=some b→RCl w B pr us cs→RCl w B pr vs ds →
 (Op.equalIn D t (valOf d.k.isAgg cs) (valOf d.k.isAgg ds)).run P w=.ok b w
 | 0,_,_,_,_,_,_,_,_,_,_,_,h,_,_=>by simp [eqT] at h
 | n+1,t,d,us,vs,cs,ds,b,D,hD,hok,hd,h,hc,hc'=>by
  obtain ⟨D,rfl⟩:∃D',D=D'+1:=⟨D - 1,by omega⟩
  obtain ⟨u,hu,hf⟩:=ty_under (Env.ok hE hd)
  unfold eqT at h
  unfold eqOk at hok
  rw [hd] at h hok
  simp only at h hok
  have ih:=eqT_run hE (w:=w) (B:=B) (pr:=pr) n
  split at h
  ·rename_i hk
   rw [hk] at hf ⊢
   rw [fits_bool hf] at hu
   split at h
   ·injection h with h;subst h
    cases hc with|cons p1 p2=>cases p2;cases hc' with|cons q1 q2=>cases q2;rw [p1.bool_inv,q1.bool_inv];exact run_equalIn_bool' w D t _ _ hu
   ·cases h
  ·rename_i k hk
   rw [hk] at hf ⊢
   rw [fits_int hf] at hu
   split at h
   ·split at h
    ·rename_i hke
     injection h with h;subst h
     rw [←kEq_iff hke] at hc'
     cases hc with|cons p1 p2=>cases p2;cases hc' with|cons q1 q2=>cases q2;rw [p1.int_inv,q1.int_inv];exact run_equalIn_int w D t _ _ _ _ hu
    ·cases h
   ·cases h
  ·rename_i hk
   rw [hk] at hf ⊢
   rw [fits_str hf] at hu
   split at h
   ·injection h with h;subst h
    cases hc with|cons p1 p2=>cases p2;cases hc' with|cons q1 q2=>cases q2;rw [p1.str_inv,q1.str_inv];exact run_equalIn_string w D t _ _ hu
   ·cases h
  ·rename_i fs hk
   rw [hk] at hf ⊢
   obtain ⟨f,rfl,rfl⟩:=fits_st hf
   have hfo:P.fieldsOf t=f:=by simp [Program.fieldsOf,hu]
   rw [hk] at hok
   simp only [Bool.and_eq_true,Bool.not_eq_true',hfo] at hok
   obtain ⟨ok1,ok2⟩:=hok
   show (Op.equalIn (D+1) t (.agg cs.toArray) (.agg ds.toArray)).run P w=_
   rw [run_equalIn_struct w D t _ _ (by rw [hu,hfo]) ok1,hfo]
   clear hfo hf hu
   generalize f.toList=l at h ok2
   clear hk
   induction l generalizing b with
   | nil =>
    simp only [List.map_nil,eqFs] at h
    injection h with h;subst h
    rfl
   | cons x r ihl =>
    simp only [List.map_cons,eqFs] at h
    rw [List.all_cons,Bool.and_eq_true,Bool.and_eq_true] at ok2
    split at h
    ·rename_i df hdf
     split at h
     ·rename_i a1 b1 ha1 hb1
      split at h
      ·rename_i x1 y1 hx1 hy1
       injection h with h;subst h
       obtain ⟨g1,g2,g3⟩:=cutV_rc ha1 hc
       obtain ⟨k1,k2,k3⟩:=cutV_rc hb1 hc'
       have hsz:df.k.isAgg=false→0 < df.size:=fun ha=>by have:=(eqT_size hdf hx1 ha).1;omega
       have hrec:=ih x.type df a1 b1 _ _ x1 D (by omega) ok2.1.2 hdf hx1 g1 k1
       have hrest:=ihl y1 hy1 ok2.2
       unfold Op.eqFields
       rw [if_pos (by simpa using ok2.1.1)]
       simp only [Sem.run_bind,part_run (Env.ok hE hdf) g2 hsz,part_run (Env.ok hE hdf) k2 hsz,Result.andThen_ok,hrec]
       cases x1 with
       | true=>simpa using hrest
       | false=>simp
      ·cases h
     ·cases h
    ·cases h
  ·rename_i m e hk
   rw [hk] at hf ⊢
   rw [fits_arr hf] at hu
   rw [hk] at hok
   simp only at hok
   split at h
   ·rename_i de hde
    obtain ⟨i,ue,hi,_⟩:=(Env.ok hE hde).ex
    show (Op.equalIn (D+1) t (.agg cs.toArray) (.agg ds.toArray)).run P w=_
    rw [run_equalIn_array w D _ _ hu hi,ty_cells (Env.ok hE hde),List.range_eq_range']
    have key:∀(m k:Nat) (b:Bool),eqAs (eqT E n e) de.size m (k*de.size) us vs=some b→(Op.eqItems D e de.size cs.toArray ds.toArray (List.range' k m)).run P w=.ok b w:=by
     intro m
     induction m with
     | zero =>
      intro k b h
      simp only [eqAs] at h
      injection h with h;subst h
      rfl
     | succ m ihm =>
      intro k b h
      simp only [eqAs] at h
      split at h
      ·rename_i a1 b1 ha1 hb1
       split at h
       ·rename_i x1 y1 hx1 hy1
        injection h with h;subst h
        obtain ⟨g1,g2,g3⟩:=cutV_rc ha1 hc
        obtain ⟨k1,k2,k3⟩:=cutV_rc hb1 hc'
        have hsz:de.k.isAgg=false→0 < de.size:=fun ha=>by have:=(eqT_size hde hx1 ha).1;omega
        have hrec:=ih e de a1 b1 _ _ x1 D (by omega) hok hde hx1 g1 k1
        have hrest:=ihm (k+1) y1 (by rw [Nat.add_mul,Nat.one_mul];exact hy1)
        rw [List.range'_succ]
        unfold Op.eqItems
        simp only [Sem.run_bind,part_run (Env.ok hE hde) g2 hsz,part_run (Env.ok hE hde) k2 hsz,Result.andThen_ok,hrec]
        cases x1 with
        | true=>simpa using hrest
        | false=>simp
       ·cases h
      ·cases h
    exact key m 0 b (by simpa using h)
   ·cases h
  ·cases h
end Go.AM
