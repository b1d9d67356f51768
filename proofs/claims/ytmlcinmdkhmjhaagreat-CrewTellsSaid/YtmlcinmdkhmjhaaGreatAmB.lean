/- Helper lemmas for the claim's theorem: an abstract machine over the model, proved sound; no condition beyond each lemma's own. -/
import Derived.Test.YtmlcinmdkhmjhaaGreatAmA
import Derived.Laws.BytesArg
set_option linter.unusedVariables false
set_option linter.unusedSimpArgs false
set_option linter.unnecessarySimpa false
set_option linter.unusedSectionVars false
namespace Go.AM
open Go Go.RowKit
structure QSim (gl:List (Nat×List V)) (n:Nat) (tm:List (Nat×V)) (ob:List (Id×Obj)) (ts:Array Value) (w:World) (B:BM) (pr:Nat→Prop):Prop where
 tms:TMs w B pr n tm ts
 obs:∀o x,oget ob o=some x→x≠.dead→ObjOk w B pr (fun _=>True) o x
 pra:∀b,pr b→b < w.heap.size
 bsz:∀o bd,B o=some bd→bd.b < w.heap.size
 glo:GlobAt w pr gl
structure Ext (w w':World) (B B':BM) (pr pr':Nat→Prop) (nw:List (Id×Obj)):Prop where
 os:w'.os=w.os
 tape:w'.tape=w.tape
 output:w'.output=w.output
 drawn:w.drawn≤w'.drawn
 size:w.heap.size≤w'.heap.size
 block:∀b,b < w.heap.size→w'.heap[b]?=w.heap[b]?
 prm:∀b,pr b→pr' b
 prn:∀b,pr' b→pr b∨w.heap.size≤b
 pra:∀b,pr' b→b < w'.heap.size
 bm:∀o,oget nw o=none→B' o=B o
 obs:∀o x,oget nw o=some x→x≠.dead∧ObjOk w' B' pr' (fun bd=>w.heap.size≤bd.b) o x
 inj:∀o o' bd bd',oget nw o≠none→oget nw o'≠none→B' o=some bd→B' o'=some bd'→bd.b=bd'.b→o=o'
theorem Ext.refl {w:World} {B:BM} {pr:Nat→Prop} (h:∀b,pr b→b < w.heap.size):Ext w w B B pr pr [] where
 os:=rfl
 tape:=rfl
 output:=rfl
 drawn:=Nat.le_refl _
 size:=Nat.le_refl _
 block:=fun _ _=>rfl
 prm:=fun _ h=>h
 prn:=fun _ h=>.inl h
 pra:=h
 bm:=fun _ _=>rfl
 obs:=fun o x h=>by simp [oget] at h
 inj:=fun o o' bd bd' h=>by simp [oget] at h
inductive CellsAt (gl:List (Nat×List V)) (ob:List (Id×Obj)):V→Nat→List V→Prop
 | box {o:Id} {off n:Nat} {cells cs:List V} (h:oget ob o=some (.box cells)) (hc:cutV cells off n=some cs):CellsAt gl ob (.ptr o 0 off) n cs
 | rows {o:Id} {row off n s:Nat} {rs:List (List V)} {fz:Bool} {r cs:List V} (h:oget ob o=some (.rows s rs fz)) (hr:rs[row]?=some r) (hc:cutV r off n=some cs):CellsAt gl ob (.ptr o row off) n cs
 | spt {s row off n:Nat} {rs:List (List V)} {r cs:List V} (hr:rs[row]?=some r) (hc:cutV r off n=some cs):CellsAt gl ob (.spt s rs row off) n cs
 | glob {g off n:Nat} {cells cs:List V} (h:gget gl g=some cells) (hc:cutV cells off n=some cs):CellsAt gl ob (.gptr g off) n cs
theorem rangeAt_sub {w:World} {b o:Nat} {cs:List Value} (h:w.rangeAt b o cs) (off n:Nat):w.rangeAt b (o+off) ((cs.drop off).take n):=by
 intro j v hv
 rw [List.getElem?_take] at hv
 split at hv
 ·rw [List.getElem?_drop] at hv
  have:=h _ _ hv
  rwa [show o+off+j=o+(off+j) by omega]
 ·cases hv
theorem cutV_rcs {w:World} {pr:Nat→Prop} {vs us:List V} {cs:List Value} {off n:Nat} (h:cutV vs off n=some us) (hc:RCs w pr vs cs) :
 RCs w pr us ((cs.drop off).take n)∧off+n≤cs.length:=by
 unfold cutV at h
 split at h
 ·rename_i hb
  injection h with h;subst h
  rw [takeV_eq,dropV_eq]
  have hb':off+n≤vs.length:=Nat.le_of_ble_eq_true hb
  have hl:=hc.length
  exact ⟨(hc.drop off).take n,by omega⟩
 ·cases h
theorem cells_at {gl:List (Nat×List V)} {n0:Nat} {tm:List (Nat×V)} {ob:List (Id×Obj)} {ts:Array Value} {w:World} {B:BM} {pr:Nat→Prop} (q:QSim gl n0 tm ob ts w B pr)
 {p:V} {n:Nat} {cs:List V} (h:CellsAt gl ob p n cs) {c:Value} (hc:RC w B pr p c) :
 ∃b o vs,c=.pointer (some ⟨b,o,none⟩)∧w.rangeAt b o vs∧vs.length=n∧RCl w B pr cs vs:=by
 cases h with
 | @box o off n cells cs h hcut =>
  obtain ⟨bd,hB,rfl⟩:=hc.ptr_inv
  obtain ⟨bd',hB',⟨hs,_,_,_,_,vs,hr,hl⟩,_⟩|⟨hB',_⟩:=q.obs _ _ h (by simp)
  case inr=>rw [hB] at hB';cases hB'
  rw [hB] at hB';injection hB' with hB';subst hB'
  obtain ⟨k1,k2,k3⟩:=cutV_rc hcut hl
  exact ⟨_,_,_,rfl,by simpa using rangeAt_sub hr off n,by simp;omega,k1⟩
 | @rows o row off n s rs fz r cs h hrow hcut =>
  obtain ⟨bd,hB,rfl⟩:=hc.ptr_inv
  obtain ⟨bd',hB',⟨hs,_,_,_,_,hr⟩,_⟩|⟨hB',_⟩:=q.obs _ _ h (by simp)
  case inr=>rw [hB] at hB';cases hB'
  rw [hB] at hB';injection hB' with hB';subst hB'
  obtain ⟨vs,g1,g2,g3⟩:=hr.get hrow
  obtain ⟨k1,k2⟩:=cutV_rcs hcut g3
  exact ⟨_,_,_,rfl,by rw [hs];exact rangeAt_sub g1 off n,by simp;omega,.of k1⟩
 | @spt s row off n rs r cs hrow hcut =>
  obtain ⟨b,base,rfl,hp,hr⟩:=hc.spt_inv
  obtain ⟨vs,g1,g2,g3⟩:=hr.get hrow
  obtain ⟨k1,k2⟩:=cutV_rcs hcut g3
  exact ⟨_,_,_,rfl,rangeAt_sub g1 off n,by simp;omega,.of k1⟩
 | @glob g off n cells cs h hcut =>
  have:=hc.gptr_inv
  subst this
  obtain ⟨_,vs,g1,g3⟩:=q.glo _ _ h
  obtain ⟨k1,k2⟩:=cutV_rcs hcut g3
  exact ⟨_,_,_,rfl,by simpa using rangeAt_sub g1 off n,by simp;omega,.of k1⟩
theorem loadAt_run {P:Program} {t:Nat} {d:Ty} (hd:d.Ok P t) {w:World} {b o:Nat} {vs:List Value} (hr:w.rangeAt b o vs) (hl:vs.length=d.size)
 {B:BM} {pr:Nat→Prop} {cs:List V} {v:V} (hm:mkV d.k.isAgg cs=some v) (hc:RCl w B pr cs vs) :
 ∃c,(Instr.loadAt t (.pointer (some ⟨b,o,none⟩))).run P w=.ok c w∧RC w B pr v c:=by
 obtain ⟨u,hu,hf⟩:=ty_under hd
 cases ha:d.k.isAgg with
 | true =>
  rw [ha] at hm
  simp only [mkV] at hm
  injection hm with hm;subst hm
  have hrow:u.isRow=true:=by
   revert ha hf
   cases d.k<;>intro hf ha<;>first
    | (cases ha;done)
    | (have e:=fits_arr hf;subst e;rfl)
    | (obtain ⟨f,rfl,_⟩:=fits_st hf;rfl)
  exact ⟨_,run_loadAt_mid w b o t vs u hr hu hrow (by rw [ty_info hd,hl]),.agg hc⟩
 | false =>
  rw [ha] at hm
  unfold mkV at hm
  simp only at hm
  split at hm
  ·injection hm with hm;subst hm
   cases hc with
   | @cons _ c _ _ h1 t1 =>
    cases t1
    refine ⟨c,?_,h1⟩
    have:=hr 0 c (by simp)
    simp only [Nat.add_zero] at this
    simp only [Instr.loadAt,Instr.sureAddr,Sem.run_bind,Sem.run_pure,Result.andThen_ok,loadVar,isAgg_run hd,ha,Bool.false_eq_true,if_false,run_load,this]
  ·cases hm
end Go.AM
namespace Go.AM
open Go Go.RowKit
inductive Bnd (tm:List (Nat×V)) (dflt:Nat):Option Operand→Nat→Prop
 | no:Bnd tm dflt none dflt
 | lim {x:Operand} {k:IntKind} {i:Int} (h:ev tm x=.int k i) (h0:0≤i):Bnd tm dflt (some x) i.toNat
theorem Bnd.val {tm:List (Nat×V)} {d:Nat} {x:Option Operand} {l:Nat} (h:Bnd tm d x l) {w:World} {B:BM} {pr:Nat→Prop} {n:Nat} {a:Act} (ht:TMs w B pr n tm a.tmps) :
 (x=none∧l=d)∨∃y k,x=some y∧a.eval y=.int k (l:Nat):=by
 cases h with
 | no=>exact .inl ⟨rfl,rfl⟩
 | @lim y k i h h0 =>
  right
  have:=ev_rc ht y
  rw [h] at this
  exact ⟨y,k,rfl,by rw [this.int_inv,Int.toNat_of_nonneg h0]⟩
theorem bounds_run {P:Program} {tm:List (Nat×V)} {w:World} {B:BM} {pr:Nat→Prop} {n:Nat} {a:Act} (ht:TMs w B pr n tm a.tmps) {len cap l h m:Nat} {lo hi mx:Option Operand}
 (hl:Bnd tm 0 lo l) (hh:Bnd tm len hi h) (hm:Bnd tm cap mx m) (hmx:mx≠none→hi≠none) (h1:l≤h) (h2:h≤m) (h3:m≤cap) (b:Bool) :
 (Instr.sliceBounds b len cap (lo.map a.eval) (hi.map a.eval) (mx.map a.eval)).run P w=.ok (l,h,m) w:=by
 rcases hl.val ht with ⟨rfl,rfl⟩|⟨x,k,rfl,hx⟩<;>rcases hh.val ht with ⟨rfl,rfl⟩|⟨y,k',rfl,hy⟩<;>rcases hm.val ht with ⟨rfl,rfl⟩|⟨z,k'',rfl,hz⟩
 all_goals first
  | (simp [Instr.sliceBounds,run_sliceBound, *,Int.toNat_natCast,Int.ofNat_le];done)
  | (simp at hmx;done)
theorem elem_of {P:Program} {t e:Nat} (h:P.underlying t=some (.slice e)):P.underlying t=some (.slice (P.elem t))∧P.elem t=e:=by
 have:P.elem t=e:=by simp [Program.elem,h]
 exact ⟨by rw [this];exact h,this⟩
theorem slice_run {P:Program} {t e:Nat} {de:Ty} (hu:P.underlying t=some (.slice e)) (hde:de.Ok P e) {tm:List (Nat×V)} {w:World} {B:BM} {pr:Nat→Prop} {n:Nat} {a:Act} (ht:TMs w B pr n tm a.tmps)
 {len cap l h m:Nat} {lo hi mx:Option Operand} {ad:Option Addr}
 (hl:Bnd tm 0 lo l) (hh:Bnd tm len hi h) (hm:Bnd tm cap mx m) (hmx:mx≠none→hi≠none) (h1:l≤h) (h2:h≤m) (h3:m≤cap) :
 (Instr.sliceAt t (.slice ad len cap) (lo.map a.eval) (hi.map a.eval) (mx.map a.eval)).run P w=.ok (.slice (if m=l then ad else ad.map (·.add (l*de.size))) (h - l) (m - l)) w:=by
 obtain ⟨hu',he⟩:=elem_of hu
 rw [run_sliceAt_slice w t _ _ _ _ hu',run_slice_any w t ad len cap hu']
 rw [bounds_run ht hl hh hm hmx h1 h2 h3]
 simp only [Result.andThen_ok,he,ty_size hde,sliced]
theorem index_run {P:Program} {t e:Nat} {de:Ty} (hu:P.underlying t=some (.slice e)) (hde:de.Ok P e) {w:World} {b o len cap:Nat} {k:IntKind} {i:Int} (h0:0≤i) (h1:i < len) :
 (Instr.indexAt t (.slice (some ⟨b,o,none⟩) len cap) (.int k i)).run P w=.ok (.pointer (some ⟨b,o+i.toNat*de.size,none⟩)) w:=by
 obtain ⟨hu',he⟩:=elem_of hu
 rw [run_indexAt_slice w t _ len cap k i hu',if_pos ⟨h0,h1⟩,he,ty_size hde]
 simp only [Result.andThen_ok,add_mid]
theorem index_arr_run {P:Program} {t e m:Nat} {de:Ty} (hu:P.underlying t=some (.array m e)) (hde:de.Ok P e) {w:World} {b o:Nat} {k:IntKind} {i:Int} (h0:0≤i) (h1:i < m) :
 (Instr.indexAt t (.pointer (some ⟨b,o,none⟩)) (.int k i)).run P w=.ok (.pointer (some ⟨b,o+i.toNat*de.size,none⟩)) w:=by
 have he:P.elem t=e:=by simp [Program.elem,hu]
 have hm:P.arrayLen t=m:=by simp [Program.arrayLen,hu]
 rw [run_indexAt_array w t _ k i (by rw [he,hm];exact hu),if_pos ⟨h0,by rw [hm];exact h1⟩,he,ty_size hde]
 simp only [Result.andThen_ok,add_mid]
def V.free:V→Bool
 | .undef|.int ..|.bool _|.str _|.nils|.nilp|.nilf|.nilm|.emp|.sl ..|.gptr ..|.spt ..|.mp ..=>true
 | .agg cs|.tup cs=>frees cs
 | .fn _ cs=>frees cs
 | _=>false
where
 frees:List V→Bool
 | []=>true
 | v::r=>v.free&&frees r
def V.ones:List V→Bool
 | []=>true
 | v::r=>v.one&&ones r
mutual
theorem RC.free {w:World} {B:BM} {pr:Nat→Prop}:∀{v:V} {c:Value},v.free=true→RC w B pr v c→RC0 w pr v c
 | _,_,_,.base h=>h
 | _,_,hf,.ref ..=>by simp [V.free] at hf
 | _,_,hf,.ref0 ..=>by simp [V.free] at hf
 | _,_,hf,.bref ..=>by simp [V.free] at hf
 | _,_,hf,.ptr ..=>by simp [V.free] at hf
 | _,_,hf,.mapr ..=>by simp [V.free] at hf
 | _,_,hf,.yld ..=>by simp [V.free] at hf
 | _,_,hf,.itr ..=>by simp [V.free] at hf
 | _,_,hf,.agg h=>.agg (RCl.free (by simpa [V.free] using hf) h)
 | _,_,hf,.tup h=>.tup (RCl.free (by simpa [V.free] using hf) h)
 | _,_,hf,.fn h=>.fn (RCl.free (by simpa [V.free] using hf) h)
theorem RCl.free {w:World} {B:BM} {pr:Nat→Prop}:∀{vs:List V} {cs:List Value},V.free.frees vs=true→RCl w B pr vs cs→RCs w pr vs cs
 | _,_,_,.nil=>.nil
 | _,_,hf,.cons h t=>by
  simp only [V.free.frees,Bool.and_eq_true] at hf
  exact .cons (RC.free hf.1 h) (RCl.free hf.2 t)
end
theorem RC.one_cell {w:World} {B:BM} {pr:Nat→Prop} {v:V} {c:Value} (h1:v.one=true) (h:RC w B pr v c):c.oneCell'=true:=by
 cases h with
 | base h=>cases h<;>first|rfl|(simp [V.one] at h1;done)
 | agg=>simp [V.one] at h1
 | tup=>simp [V.one] at h1
 | _=>rfl
theorem RCl.one_cells {w:World} {B:BM} {pr:Nat→Prop}:∀{vs:List V} {cs:List Value},V.ones vs=true→RCl w B pr vs cs→∀c∈cs,c.oneCell'=true
 | _,_,_,.nil,c,hc=>by cases hc
 | _,_,h1,.cons h t,c,hc=>by
  simp only [V.ones,Bool.and_eq_true] at h1
  cases hc with
  | head=>exact RC.one_cell h1.1 h
  | tail _ hm=>exact RCl.one_cells h1.2 t c hm
end Go.AM
namespace Go.AM
open Go Go.RowKit
def upd (B:BM) (id:Id) (bd:Bd):BM:=fun o=>if o=id then some bd else B o
theorem upd_self (B:BM) (id:Id) (bd:Bd):upd B id bd id=some bd:=by simp [upd]
theorem upd_other (B:BM) {id o:Id} (bd:Bd) (h:o≠id):upd B id bd o=B o:=by simp [upd,h]
theorem upd_mono {B:BM} {id:Id} {bd:Bd} (hf:B id=none):∀o x,B o=some x→upd B id bd o=some x:=by
 intro o x h
 by_cases e:o=id
 ·subst e;rw [hf] at h;cases h
 ·rw [upd_other B bd e];exact h
theorem alloc_size (w:World) (o:Go.Obj):(w.alloc o).heap.size=w.heap.size+1:=by
 show (w.heap.push o).size=_
 simp
theorem alloc_new (w:World) (o:Go.Obj):(w.alloc o).heap[w.heap.size]?=some o:=by
 show (w.heap.push o)[w.heap.size]?=_
 simp
theorem alloc_old (w:World) (o:Go.Obj) {b:Nat} (h:b < w.heap.size):(w.alloc o).heap[b]?=w.heap[b]?:=Below.heap_alloc w o b h
theorem range_new (w:World) (cells:Array Value) (t:Nat):(w.alloc (.cells cells t)).rangeAt w.heap.size 0 cells.toList:=by
 intro j v hv
 have:(w.alloc (.cells cells t)).cell? ⟨w.heap.size,j,none⟩=cells[j]?:=by
  simp only [World.cell?,alloc_new]
  simp
 rw [Nat.zero_add,this]
 simpa using hv
theorem there_new (w:World) (cells:Array Value) (t:Nat):(w.alloc (.cells cells t)).there w.heap.size 0 cells.size:=by
 intro j hj
 have:(w.alloc (.cells cells t)).cell? ⟨w.heap.size,j,none⟩=cells[j]?:=by
  simp only [World.cell?,alloc_new]
  simp
 refine ⟨by rw [Nat.zero_add,this];simp [hj],?_⟩
 simp only [World.frozen?,alloc_new]
 simp
theorem like_alloc (w:World) (o:Go.Obj) {pr:Nat→Prop} (hp:∀b,pr b→b < w.heap.size):Like pr w (w.alloc o):=fun b hb=>alloc_old w o (hp b hb)
theorem Ext.new {w:World} {B:BM} {pr:Nat→Prop} (hp:∀b,pr b→b < w.heap.size) {id:Id} (o:Go.Obj) {s lim:Nat} {x:Obj} (hd:x≠.dead)
 (hx:ObjAt (w.alloc o) (upd B id ⟨w.heap.size,0,s,lim⟩) pr ⟨w.heap.size,0,s,lim⟩ x):Ext w (w.alloc o) B (upd B id ⟨w.heap.size,0,s,lim⟩) pr pr [(id,x)] where
 os:=rfl
 tape:=rfl
 output:=rfl
 drawn:=Nat.le_refl _
 size:=by rw [alloc_size];omega
 block:=fun b hb=>alloc_old w o hb
 prm:=fun _ h=>h
 prn:=fun _ h=>.inl h
 pra:=fun b h=>by rw [alloc_size];have:=hp b h;omega
 bm:=fun o' h=>by
  refine upd_other B _ ?_
  intro e
  subst e
  simp [oget,idEq_iff.2 rfl] at h
 obs:=fun o' y h=>by
  simp only [oget] at h
  split at h
  ·rename_i he
   injection h with h;subst h
   have:=idEq_iff.1 he;subst this
   exact ⟨hd,.inl ⟨_,upd_self ..,hx,Nat.le_refl _⟩⟩
  ·cases h
 inj:=fun o1 o2 b1 b2 h1 h2 _ _ _=>by
  simp only [oget] at h1 h2
  split at h1
  ·rename_i e1
   split at h2
   ·rename_i e2
    rw [←idEq_iff.1 e1,←idEq_iff.1 e2]
   ·exact absurd rfl h2
  ·exact absurd rfl h1
def chunkV (s:Nat):Nat→List V→List (List V)
 | 0,_=>[]
 | n+1,l=>takeV s l::chunkV s n (dropV s l)
theorem chunk_rcr {w:World} {pr:Nat→Prop} {b s:Nat}:∀(n off:Nat) (vs:List V) (cs:List Value),RCs w pr vs cs→vs.length=n*s→w.rangeAt b off cs→RCr w pr b s off (chunkV s n vs)
 | 0,off,vs,cs,_,_,_=>.nil ..
 | n+1,off,vs,cs,h,hl,hr=>by
  rw [Nat.add_mul,Nat.one_mul] at hl
  simp only [chunkV,takeV_eq,dropV_eq]
  have hlen:=h.length
  refine .cons (cs:=cs.take s) ?_ (by simp;omega) (h.take s) ?_
  ·have:=rangeAt_sub hr 0 s
   simpa using this
  ·have hd:w.rangeAt b (off+s) (cs.drop s):=by
    have:=rangeAt_sub hr s (cs.length)
    rwa [List.take_of_length_le (by simp)] at this
   exact chunk_rcr n (off+s) _ _ (h.drop s) (by simp;omega) hd
theorem chunk_length (s:Nat):∀(n:Nat) (l:List V),(chunkV s n l).length=n
 | 0,_=>rfl
 | n+1,l=>by simp [chunkV,chunk_length s n]
theorem repl_rcr {w:World} {pr:Nat→Prop} {b s:Nat} {row:List V} {cs:List Value} (h:RCs w pr row cs) (hl:row.length=s):∀(n off:Nat),(∀i,i < n→w.rangeAt b (off+i*s) cs)→RCr w pr b s off (List.replicate n row)
 | 0,off,_=>.nil ..
 | n+1,off,hr=>by
  rw [List.replicate_succ]
  refine .cons (cs:=cs) (by simpa using hr 0 (by omega)) hl h (repl_rcr h hl n (off+s) ?_)
  intro i hi
  have:=hr (i+1) (by omega)
  rwa [show off+(i+1)*s=off+s+i*s by rw [Nat.add_mul];omega] at this
end Go.AM
namespace Go.AM
open Go Go.RowKit
mutual
inductive RT (w:World) (pr:Nat→Prop) (lo:Nat):V→Value→List Nat→Prop
 | free {v:V} {c:Value} (h:RC0 w pr v c):RT w pr lo v c []
 | own {s b off cap:Nat} {rows:List (List V)} (hlo:lo≤b) (hp:¬pr b) (hb:b < w.heap.size) (hc:rows.length≤cap) (ht:w.there b off (cap*s)) (h:RCr w pr b s off rows) :
  RT w pr lo (.own s rows) (.slice (some ⟨b,off,none⟩) rows.length cap) [b]
 | own0 (s:Nat) (a:Option Addr):RT w pr lo (.own s []) (.slice a 0 0) []
 | agg {cs:List V} {vs:List Value} {fp:List Nat} (h:RTl w pr lo cs vs fp):RT w pr lo (.agg cs) (.agg vs.toArray) fp
 | tup {cs:List V} {vs:List Value} {fp:List Nat} (h:RTl w pr lo cs vs fp):RT w pr lo (.tup cs) (.tuple vs.toArray) fp
inductive RTl (w:World) (pr:Nat→Prop) (lo:Nat):List V→List Value→List Nat→Prop
 | nil:RTl w pr lo [] [] []
 | cons {v:V} {c:Value} {vs:List V} {cs:List Value} {f g:List Nat} (h:RT w pr lo v c f) (t:RTl w pr lo vs cs g):RTl w pr lo (v::vs) (c::cs) (f++g)
end
mutual
def fl (id:Id):Nat→V→V×List (Id×Obj)×Nat
 | k,.own s rows=>(.ref (id++[k]) 0 rows.length,[(id++[k],.rows s rows false)],k+1)
 | k,.agg cs=>match flL id k cs with|(vs,nw,k')=>(.agg vs,nw,k')
 | k,.tup cs=>match flL id k cs with|(vs,nw,k')=>(.tup vs,nw,k')
 | k,v=>(v,[],k)
def flL (id:Id):Nat→List V→List V×List (Id×Obj)×Nat
 | k,[]=>([],[],k)
 | k,v::r=>match fl id k v with
  | (v',n1,k1)=>match flL id k1 r with
   | (r',n2,k2)=>(v'::r',n1++n2,k2)
end
theorem snoc_inj {id:Id} {i j:Nat} (h:id++[i]=id++[j]):i=j:=by simpa using h
theorem oget_append {a b:List (Id×Obj)} {o:Id}:oget (a++b) o=match oget a o with|some x=>some x|none=>oget b o:=by
 induction a with
 | nil=>rfl
 | cons p r ih =>
  obtain ⟨d,v⟩:=p
  simp only [List.cons_append,oget]
  cases idEq d o with
  | true=>rfl
  | false=>exact ih
def Keys (id:Id) (k k':Nat) (nw:List (Id×Obj)):Prop:=∀o x,oget nw o=some x→(∃j,k≤j∧j < k'∧o=id++[j])∧∃s rows,x=.rows s rows false
theorem Keys.append {id:Id} {k k1 k2:Nat} {a b:List (Id×Obj)} (h1:Keys id k k1 a) (h2:Keys id k1 k2 b) (hk:k≤k1) (hk':k1≤k2):Keys id k k2 (a++b):=by
 intro o x h
 rw [oget_append] at h
 cases ha:oget a o with
 | some y =>
  rw [ha] at h
  injection h with h;subst h
  obtain ⟨⟨j,g1,g2,g3⟩,g4⟩:=h1 _ _ ha
  exact ⟨⟨j,g1,by omega,g3⟩,g4⟩
 | none =>
  rw [ha] at h
  obtain ⟨⟨j,g1,g2,g3⟩,g4⟩:=h2 _ _ h
  exact ⟨⟨j,by omega,g2,g3⟩,g4⟩
mutual
theorem fl_keys (id:Id):∀(k:Nat) (v:V),k≤(fl id k v).2.2∧Keys id k (fl id k v).2.2 (fl id k v).2.1
 | k,.own s rows=>by
  simp only [fl]
  refine ⟨by omega,fun o x h=>?_⟩
  simp only [oget] at h
  split at h
  ·rename_i he
   injection h with h;subst h
   exact ⟨⟨k,by omega,by omega,(idEq_iff.1 he).symm⟩,_,_,rfl⟩
  ·cases h
 | k,.agg cs=>by
  simp only [fl]
  exact flL_keys id k cs
 | k,.tup cs=>by
  simp only [fl]
  exact flL_keys id k cs
 | k,.undef|k,.int _ _|k,.bool _|k,.str _|k,.nils|k,.nilp|k,.nilf|k,.nilm|k,.emp|k,.sl _ _|k,.fn _ _|k,.gptr _ _|k,.spt _ _ _ _|k,.ref _ _ _|k,.bref _ _ _ _|k,.ptr _ _ _|k,.mapr _|k,.box _|k,.yld _|k,.itr _|k,.mp _ _=>by
  simp only [fl]
  exact ⟨by omega,fun o x h=>by simp [oget] at h⟩
theorem flL_keys (id:Id):∀(k:Nat) (vs:List V),k≤(flL id k vs).2.2∧Keys id k (flL id k vs).2.2 (flL id k vs).2.1
 | k,[]=>by
  simp only [flL]
  exact ⟨by omega,fun o x h=>by simp [oget] at h⟩
 | k,v::r=>by
  simp only [flL]
  obtain ⟨h1,h2⟩:=fl_keys id k v
  obtain ⟨h3,h4⟩:=flL_keys id (fl id k v).2.2 r
  exact ⟨Nat.le_trans h1 h3,h2.append h4 h1 h3⟩
end
def over (B:BM) (nw:List (Id×Obj)) (N:BM):BM:=fun o=>match oget nw o with|some _=>N o|none=>B o
structure Laid (w:World) (pr:Nat→Prop) (lo:Nat) (nw:List (Id×Obj)) (N:BM) (fp:List Nat):Prop where
 obs:∀o x,oget nw o=some x→(∃bd,N o=some bd∧(∀B,ObjAt w B pr bd x)∧lo≤bd.b∧bd.b∈fp)∨(N o=none∧∃s fz,x=.rows s [] fz)
 inj:∀o o' bd bd',oget nw o≠none→oget nw o'≠none→N o=some bd→N o'=some bd'→bd.b=bd'.b→o=o'
theorem Laid.append {w:World} {pr:Nat→Prop} {lo:Nat} {a b:List (Id×Obj)} {N M:BM} {f g:List Nat} (h:Laid w pr lo a N f) (k:Laid w pr lo b M g)
 (hn:(f++g).Nodup):Laid w pr lo (a++b) (fun o=>match oget a o with|some _=>N o|none=>M o) (f++g):=by
 have hdis:∀x,x∈f→x∈g→False:=fun x h1 h2=>(List.nodup_append.1 hn).2.2 x h1 x h2 rfl
 refine ⟨fun o x hx=>?_,fun o o' bd bd' h1 h2 h3 h4 h5=>?_⟩
 ·rw [oget_append] at hx
  cases ha:oget a o with
  | some y =>
   rw [ha] at hx
   injection hx with hx;subst hx
   simp only [ha]
   rcases h.obs _ _ ha with ⟨bd,g1,g2,g3,g4⟩|g
   ·exact .inl ⟨bd,g1,g2,g3,List.mem_append_left _ g4⟩
   ·exact .inr g
  | none =>
   rw [ha] at hx
   simp only [ha]
   rcases k.obs _ _ hx with ⟨bd,g1,g2,g3,g4⟩|g
   ·exact .inl ⟨bd,g1,g2,g3,List.mem_append_right _ g4⟩
   ·exact .inr g
 ·rw [oget_append] at h1 h2
  cases ha:oget a o with
  | some y =>
   rw [ha] at h3
   simp only at h3
   cases ha':oget a o' with
   | some y' =>
    rw [ha'] at h4
    simp only at h4
    exact h.inj _ _ _ _ (by rw [ha];simp) (by rw [ha'];simp) h3 h4 h5
   | none =>
    rw [ha'] at h4 h2
    simp only at h4 h2
    obtain ⟨y',hy'⟩:=Option.ne_none_iff_exists'.1 h2
    exfalso
    rcases h.obs _ _ ha with ⟨b1,g1,_,_,g4⟩|⟨g1,_⟩
    ·rcases k.obs _ _ hy' with ⟨b2,q1,_,_,q4⟩|⟨q1,_⟩
     ·rw [g1] at h3;injection h3 with h3;subst h3
      rw [q1] at h4;injection h4 with h4;subst h4
      exact hdis _ g4 (h5▸q4)
     ·rw [q1] at h4;cases h4
    ·rw [g1] at h3;cases h3
  | none =>
   rw [ha] at h3 h1
   simp only at h3 h1
   obtain ⟨y,hy⟩:=Option.ne_none_iff_exists'.1 h1
   cases ha':oget a o' with
   | some y' =>
    rw [ha'] at h4
    simp only at h4
    exfalso
    rcases h.obs _ _ ha' with ⟨b1,g1,_,_,g4⟩|⟨g1,_⟩
    ·rcases k.obs _ _ hy with ⟨b2,q1,_,_,q4⟩|⟨q1,_⟩
     ·rw [g1] at h4;injection h4 with h4;subst h4
      rw [q1] at h3;injection h3 with h3;subst h3
      exact hdis _ g4 (h5▸q4)
     ·rw [q1] at h3;cases h3
    ·rw [g1] at h4;cases h4
   | none =>
    rw [ha'] at h4 h2
    simp only at h4 h2
    exact k.inj _ _ _ _ h1 h2 h3 h4 h5
mutual
theorem RC0.fl {w:World} {pr:Nat→Prop} (id:Id) (k:Nat):∀{v:V} {c:Value},RC0 w pr v c→fl id k v=(v,[],k)
 | _,_,.agg h=>by simp only [AM.fl,RCs.fl id k h]
 | _,_,.tup h=>by simp only [AM.fl,RCs.fl id k h]
 | _,_,.undef _|_,_,.int _ _|_,_,.bool _|_,_,.str _|_,_,.nils|_,_,.nilp|_,_,.nilf|_,_,.nilm|_,_,.emp _|_,_,.sl0 _ _ _|_,_,.sl _ _ _ _|_,_,.fn _|_,_,.gptr _ _|_,_,.spt _ _|_,_,.mp _ _ _ _ _|_,_,.mp0=>by simp only [AM.fl]
theorem RCs.fl {w:World} {pr:Nat→Prop} (id:Id) (k:Nat):∀{vs:List V} {cs:List Value},RCs w pr vs cs→flL id k vs=(vs,[],k)
 | _,_,.nil=>by simp only [flL]
 | _,_,.cons h t=>by simp only [flL,RC0.fl id k h,RCs.fl id k t,List.nil_append]
end
mutual
theorem RT.lay {w:World} {pr:Nat→Prop} {lo:Nat} (id:Id):∀(k:Nat) {v:V} {c:Value} {fp:List Nat},RT w pr lo v c fp→fp.Nodup →
 ∃N:BM,Laid w pr lo (fl id k v).2.1 N fp∧∀B':BM,(∀o,oget (fl id k v).2.1 o≠none→B' o=N o)→RC w B' pr (fl id k v).1 c
 | k,v,c,_,.free h,_=>by
  have e:fl id k v=(v,[],k):=h.fl id k
  rw [e]
  exact ⟨fun _=>none,⟨fun o x hx=>by simp [oget] at hx,fun o o' bd bd' hx=>by simp [oget] at hx⟩,fun B' _=>.base h⟩
 | k,_,_,_,.own (s:=s) (b:=b) (off:=off) (cap:=cap) (rows:=rows) hlo hp hb hc ht h,_=>by
  refine ⟨fun _=>some ⟨b,off,s,cap⟩,⟨fun o x hx=>?_,fun o o' bd bd' h1 h2 _ _ _=>?_⟩,fun B' hB=>?_⟩
  ·simp only [fl,oget] at hx
   split at hx
   ·injection hx with hx;subst hx
    exact .inl ⟨_,rfl,fun B=>⟨rfl,hc,by simp [hp],hb,fun _=>ht,h⟩,hlo,by simp⟩
   ·cases hx
  ·simp only [fl,oget] at h1 h2
   split at h1
   ·rename_i e1
    split at h2
    ·rename_i e2
     rw [←idEq_iff.1 e1,←idEq_iff.1 e2]
    ·exact absurd rfl h2
   ·exact absurd rfl h1
  ·have:=hB (id++[k]) (by simp [fl,oget,idEq_iff.2 rfl])
   simp only [fl]
   have:=RC.ref (w:=w) (pr:=pr) (o:=id++[k]) (row:=0) (len:=rows.length) (cap:=cap) this (by simp) hc
   simpa using this
 | k,_,_,_,.own0 s a,_=>by
  refine ⟨fun _=>none,⟨fun o x hx=>?_,fun o o' bd bd' h1 h2 h3 _ _=>by cases h3⟩,fun B' hB=>?_⟩
  ·simp only [fl,oget] at hx
   split at hx
   ·injection hx with hx;subst hx
    exact .inr ⟨rfl,_,_,rfl⟩
   ·cases hx
  ·simp only [fl,List.length_nil]
   exact .ref0 ..
 | k,_,_,_,.agg h,hn=>by
  obtain ⟨N,h1,h2⟩:=RTl.lay id k h hn
  exact ⟨N,by simpa only [fl] using h1,fun B' hB=>by simp only [fl];exact .agg (h2 B' (by simpa only [fl] using hB))⟩
 | k,_,_,_,.tup h,hn=>by
  obtain ⟨N,h1,h2⟩:=RTl.lay id k h hn
  exact ⟨N,by simpa only [fl] using h1,fun B' hB=>by simp only [fl];exact .tup (h2 B' (by simpa only [fl] using hB))⟩
theorem RTl.lay {w:World} {pr:Nat→Prop} {lo:Nat} (id:Id):∀(k:Nat) {vs:List V} {cs:List Value} {fp:List Nat},RTl w pr lo vs cs fp→fp.Nodup →
 ∃N:BM,Laid w pr lo (flL id k vs).2.1 N fp∧∀B':BM,(∀o,oget (flL id k vs).2.1 o≠none→B' o=N o)→RCl w B' pr (flL id k vs).1 cs
 | k,_,_,_,.nil,_=>by
  refine ⟨fun _=>none,⟨fun o x hx=>by simp [flL,oget] at hx,fun o o' bd bd' hx=>by simp [flL,oget] at hx⟩,fun B' _=>?_⟩
  simp only [flL];exact .nil
 | k,_,_,_,.cons (v:=v) (vs:=vs) h t,hn=>by
  have hn1:=(List.nodup_append.1 hn).1
  have hn2:=(List.nodup_append.1 hn).2.1
  obtain ⟨N,h1,h2⟩:=RT.lay id k h hn1
  obtain ⟨M,h3,h4⟩:=RTl.lay id (fl id k v).2.2 t hn2
  refine ⟨_,by simpa only [flL] using h1.append h3 hn,fun B' hB=>?_⟩
  simp only [flL] at hB ⊢
  have hk1:=(fl_keys id k v).2
  have hk2:=(flL_keys id (fl id k v).2.2 vs).2
  refine .cons (h2 B' fun o ho=>?_) (h4 B' fun o ho=>?_)
  ·obtain ⟨x,hx⟩:=Option.ne_none_iff_exists'.1 ho
   have:=hB o (by rw [oget_append,hx];simp)
   rw [this,hx]
  ·obtain ⟨x,hx⟩:=Option.ne_none_iff_exists'.1 ho
   have hno:oget (fl id k v).2.1 o=none:=by
    cases hq:oget (fl id k v).2.1 o with
    | none=>rfl
    | some y =>
     obtain ⟨⟨i,_,q2,q3⟩,_⟩:=hk1 _ _ hq
     obtain ⟨⟨j,p1,_,p3⟩,_⟩:=hk2 _ _ hx
     have:=snoc_inj (q3.symm.trans p3)
     omega
   have:=hB o (by rw [oget_append,hno,hx];simp)
   rw [this,hno]
end
end Go.AM
namespace Go.AM
open Go Go.RowKit
def SC (P:Program) (gl:List (Nat×List V)) (f:FuncId) (args:List V) (res:V):Prop :=
 (∀(xs:Array Value) (w:World),(callFunc f xs).run P w=.ok (.enter f xs) w) ∧
 ∀(w:World) (pr:Nat→Prop) (cs:List Value),(∀b,pr b→b < w.heap.size)→GlobAt w pr gl→RCs w pr args cs →
  Calls P f cs.toArray w fun e w'=>∃c pr' fp,e=.returned c∧Keep w (fun _=>False) w'∧(∀b,pr b→pr' b)∧(∀b,pr' b→pr b∨w.heap.size≤b)∧(∀b,pr' b→b < w'.heap.size) ∧
   RT w' pr' w.heap.size res c fp∧fp.Nodup
mutual
inductive Snap (ob:List (Id×Obj)):V→V→Prop
 | free {v:V} (h:v.free=true):Snap ob v v
 | nils (s:Nat):Snap ob .nils (.sl s [])
 | emp (s:Nat):Snap ob .emp (.sl s [])
 | full {o:Id} {s len:Nat} {rs:List (List V)} {fz:Bool} (h:oget ob o=some (.rows s rs fz)) (hl:len=rs.length):Snap ob (.ref o 0 len) (.sl s rs)
 | part {o:Id} {s row len:Nat} {rs:List (List V)} {fz:Bool} (h:oget ob o=some (.rows s rs fz)) (hl:row+len≤rs.length):Snap ob (.ref o row len) (.sl s ((rs.drop row).take len))
 | bref {o:Id} {off s len:Nat} {cells us:List V} (h:oget ob o=some (.box cells)) (hc:cutV cells off (len*s)=some us) (hf:V.free.frees us=true):Snap ob (.bref o off s len) (.sl s (chunkV s len us))
 | box {o:Id} {off:Nat} {cells us:List V} (h:oget ob o=some (.box cells)) (hc:Snaps ob cells us):Snap ob (.ptr o 0 off) (.spt cells.length [us] 0 off)
 | map {o:Id} {es:List (V×V)} (h:oget ob o=some (.map es)):Snap ob (.mapr o) (.mp (es.map (·.1)) (es.map (·.2)))
 | row {o:Id} {s row off:Nat} {rs:List (List V)} {fz:Bool} (h:oget ob o=some (.rows s rs fz)):Snap ob (.ptr o row off) (.spt s rs row off)
 | agg {cs us:List V} (h:Snaps ob cs us):Snap ob (.agg cs) (.agg us)
 | fn {f:FuncId} {cs us:List V} (h:Snaps ob cs us):Snap ob (.fn f cs) (.fn f us)
inductive Snaps (ob:List (Id×Obj)):List V→List V→Prop
 | nil:Snaps ob [] []
 | cons {v u:V} {vs us:List V} (h:Snap ob v u) (t:Snaps ob vs us):Snaps ob (v::vs) (u::us)
end
def prB (B:BM) (pr:Nat→Prop):Nat→Prop:=fun b=>pr b∨∃o bd,B o=some bd∧bd.b=b
theorem chunk_rows {s:Nat}:∀(n:Nat) (l:List V),n≠0→chunkV s n l≠[]
 | 0,_,h=>absurd rfl h
 | n+1,l,_=>by simp [chunkV]
mutual
theorem Snaps.length {ob:List (Id×Obj)}:∀{vs us:List V},Snaps ob vs us→vs.length=us.length
 | _,_,.nil=>rfl
 | _,_,.cons _ t=>by simp [Snaps.length t]
end
mutual
theorem Snap.rc {gl:List (Nat×List V)} {n:Nat} {tm:List (Nat×V)} {ob:List (Id×Obj)} {ts:Array Value} {w:World} {B:BM} {pr:Nat→Prop} (q:QSim gl n tm ob ts w B pr) :
 ∀{v u:V} {c:Value},Snap ob v u→RC w B pr v c→RC0 w (prB B pr) u c
 | _,_,_,.free h,hc=>(hc.free h).move (Like.refl _ _) (fun _ h=>.inl h)
 | _,_,_,.nils s,hc=>by rw [hc.nils_inv];exact .sl0 ..
 | _,_,_,.emp s,hc=>by obtain ⟨a,rfl⟩:=hc.emp_inv;exact .sl0 ..
 | _,_,_,.full (rs:=rs) h hl,hc=>by
  rcases hc.ref_inv with ⟨h0,a,rfl⟩|⟨bd,cap,hB,_,hcap,rfl⟩
  ·have:rs=[]:=List.length_eq_zero_iff.1 (by omega)
   subst this
   exact .sl0 ..
  ·rcases q.obs _ _ h (by simp) with ⟨bd',hB',⟨hs,_,_,_,_,hr⟩,_⟩|⟨hB',_⟩
   ·rw [hB] at hB';injection hB' with hB';subst hB'
    subst hl
    by_cases he:rs=[]
    ·subst he;exact .sl0 ..
    ·have hr':=hr.move (Like.refl _ _) (fun _ h=>Or.inl h) (pr':=prB B pr) rfl
     simpa using RC0.sl (w:=w) (pr:=prB B pr) (b:=bd.b) (off:=bd.base) (cap:=cap) (.inr ⟨_,_,hB,rfl⟩) he hcap hr'
   ·rw [hB] at hB';cases hB'
 | _,_,_,.part (row:=row) (len:=len) (rs:=rs) h hl,hc=>by
  rcases hc.ref_inv with ⟨h0,a,rfl⟩|⟨bd,cap,hB,_,hcap,rfl⟩
  ·subst h0
   simp only [List.take_zero]
   exact .sl0 ..
  ·rcases q.obs _ _ h (by simp) with ⟨bd',hB',⟨hs,_,_,_,_,hr⟩,_⟩|⟨hB',_⟩
   ·rw [hB] at hB';injection hB' with hB';subst hB'
    have hlen:((rs.drop row).take len).length=len:=by simp;omega
    by_cases he:len=0
    ·subst he;simp only [List.take_zero];exact .sl0 ..
    ·have hr':=((hr.drop row).take len).move (Like.refl _ _) (fun _ h=>Or.inl h) (pr':=prB B pr) rfl
     have:=RC0.sl (w:=w) (pr:=prB B pr) (b:=bd.b) (off:=bd.base+row*bd.s) (s:=bd.s) (cap:=cap) (rows:=(rs.drop row).take len) (.inr ⟨_,_,hB,rfl⟩)
      (fun e=>by rw [e] at hlen;simp at hlen;omega) (by rw [hlen];exact hcap) (by rw [hs];exact hr')
     rw [hlen,hs] at this
     rw [hs]
     exact this
   ·rw [hB] at hB';cases hB'
 | _,_,_,.bref (o:=o) (off:=off) (s:=s) (len:=len) (cells:=cells) (us:=us) h hc' hf,hc=>by
  obtain ⟨bd,cap,hB,_,hcap,rfl⟩:=hc.bref_inv
  rcases q.obs _ _ h (by simp) with ⟨bd',hB',⟨hs,_,_,_,_,vs,hr,hl⟩,_⟩|⟨hB',_⟩
  ·rw [hB] at hB';injection hB' with hB';subst hB'
   by_cases he:len=0
   ·subst he;simp only [chunkV];exact .sl0 ..
   ·obtain ⟨k1,k2,k3⟩:=cutV_rc hc' hl
    have k4:=(k1.free hf).move (Like.refl _ _) (fun _ h=>Or.inl h) (pr':=prB B pr)
    have hrc:=chunk_rcr len (bd.base+off) us _ k4 k3 (rangeAt_sub hr off (len*s))
    have:=RC0.sl (w:=w) (pr:=prB B pr) (cap:=cap) (.inr ⟨_,_,hB,rfl⟩) (chunk_rows len us he) (by rw [chunk_length];exact hcap) hrc
    rwa [chunk_length] at this
  ·rw [hB] at hB';cases hB'
 | _,_,_,.box (o:=o) (off:=off) (cells:=cells) (us:=us) h hs,hc=>by
  obtain ⟨bd,hB,rfl⟩:=hc.ptr_inv
  rcases q.obs _ _ h (by simp) with ⟨bd',hB',⟨hs',_,_,_,_,vs,hr,hl⟩,_⟩|⟨hB',_⟩
  ·rw [hB] at hB';injection hB' with hB';subst hB'
   have hrc:=Snaps.rc q hs hl
   have:=RC0.spt (w:=w) (pr:=prB B pr) (s:=cells.length) (b:=bd.b) (base:=bd.base) (off:=off) (row:=0) (rows:=[us]) (.inr ⟨_,_,hB,rfl⟩) (.cons hr (by rw [←hs.length]) hrc (.nil ..))
   simpa using this
  ·rw [hB] at hB';cases hB'
 | _,_,_,.map h,hc=>by
  cases hc with
  | base h0=>cases h0
  | mapr hB =>
   rcases q.obs _ _ h (by simp) with ⟨bd',hB',⟨_,_,ms,clock,h1,h2,h3⟩,_⟩|⟨hB',_,_,e⟩
   ·rw [hB] at hB';injection hB' with hB';subst hB'
    obtain ⟨k1,k2⟩:=(h2.move (Like.refl _ _) (fun _ h=>Or.inl h) (pr':=prB B pr)).unzip
    exact .mp (.inr ⟨_,_,hB,rfl⟩) h1 h3 k1 k2
   ·cases e
 | _,_,_,.row h,hc=>by
  obtain ⟨bd,hB,rfl⟩:=hc.ptr_inv
  rcases q.obs _ _ h (by simp) with ⟨bd',hB',⟨hs,_,_,_,_,hr⟩,_⟩|⟨hB',_⟩
  ·rw [hB] at hB';injection hB' with hB';subst hB'
   have hr':=hr.move (Like.refl _ _) (fun _ h=>Or.inl h) (pr':=prB B pr) rfl
   rw [hs]
   exact .spt (.inr ⟨_,_,hB,rfl⟩) hr'
  ·rw [hB] at hB';cases hB'
 | _,_,_,.agg h,hc=>by
  obtain ⟨cs,rfl,hl⟩:=hc.agg_inv
  exact .agg (Snaps.rc q h hl)
 | _,_,_,.fn h,hc=>by
  obtain ⟨cs,rfl,hl⟩:=hc.fn_inv
  exact .fn (Snaps.rc q h hl)
theorem Snaps.rc {gl:List (Nat×List V)} {n:Nat} {tm:List (Nat×V)} {ob:List (Id×Obj)} {ts:Array Value} {w:World} {B:BM} {pr:Nat→Prop} (q:QSim gl n tm ob ts w B pr) :
 ∀{vs us:List V} {cs:List Value},Snaps ob vs us→RCl w B pr vs cs→RCs w (prB B pr) us cs
 | _,_,_,.nil,.nil=>.nil
 | _,_,_,.cons h t,.cons hc tc=>.cons (Snap.rc q h hc) (Snaps.rc q t tc)
end
end Go.AM
namespace Go.AM
open Go Go.RowKit
def plainV:V→Bool
 | .undef|.int ..|.bool _|.str _|.nils|.nilp|.nilf|.nilm|.emp=>true
 | _=>false
inductive NoSl:V→Prop
 | plain {v:V} (h:plainV v=true):NoSl v
 | own {s:Nat} {rows:List (List V)} (h:∀r∈rows,∀v∈r,plainV v=true):NoSl (.own s rows)
 | agg {cs:List V} (h:∀v∈cs,NoSl v):NoSl (.agg cs)
 | tup {cs:List V} (h:∀v∈cs,NoSl v):NoSl (.tup cs)
theorem plain_rc {w:World} {pr pr':Nat→Prop} {v:V} {c:Value} (h:plainV v=true) (hc:RC0 w pr v c):RC0 w pr' v c:=by
 cases hc<;>first|(simp [plainV] at h;done)|constructor
theorem plains_rc {w:World} {pr pr':Nat→Prop}:∀{vs:List V} {cs:List Value},(∀v∈vs,plainV v=true)→RCs w pr vs cs→RCs w pr' vs cs
 | _,_,_,.nil=>.nil
 | _,_,h,.cons hc t=>.cons (plain_rc (h _ (by simp)) hc) (plains_rc (fun v hv=>h v (by simp [hv])) t)
theorem plain_rows {w:World} {pr pr':Nat→Prop} {b s:Nat}:∀{off:Nat} {rows:List (List V)},(∀r∈rows,∀v∈r,plainV v=true)→RCr w pr b s off rows→RCr w pr' b s off rows
 | _,_,_,.nil ..=>.nil ..
 | _,_,h,.cons ha hl hc t=>.cons ha hl (plains_rc (h _ (by simp)) hc) (plain_rows (fun r hr=>h r (by simp [hr])) t)
theorem NoSl.agg_inv {cs:List V} (h:NoSl (.agg cs)):∀v∈cs,NoSl v:=by
 cases h with
 | plain h=>simp [plainV] at h
 | agg h=>exact h
theorem NoSl.tup_inv {cs:List V} (h:NoSl (.tup cs)):∀v∈cs,NoSl v:=by
 cases h with
 | plain h=>simp [plainV] at h
 | tup h=>exact h
mutual
theorem RC0.nosl {w:World} {pr pr':Nat→Prop}:∀{v:V} {c:Value},NoSl v→RC0 w pr v c→RC0 w pr' v c
 | _,_,h,.agg k=>.agg (RCs.nosl h.agg_inv k)
 | _,_,h,.tup k=>.tup (RCs.nosl h.tup_inv k)
 | _,_,_,.undef c=>.undef c
 | _,_,_,.int k n=>.int k n
 | _,_,_,.bool b=>.bool b
 | _,_,_,.str s=>.str s
 | _,_,_,.nils=>.nils
 | _,_,_,.emp a=>.emp a
 | _,_,_,.nilp=>.nilp
 | _,_,_,.nilf=>.nilf
 | _,_,_,.nilm=>.nilm
 | _,_,_,.sl0 s a cap=>.sl0 s a cap
 | _,_,h,.sl ..=>by cases h;rename_i h;simp [plainV] at h
 | _,_,h,.fn _=>by cases h;rename_i h;simp [plainV] at h
 | _,_,h,.gptr ..=>by cases h;rename_i h;simp [plainV] at h
 | _,_,h,.spt ..=>by cases h;rename_i h;simp [plainV] at h
 | _,_,h,.mp ..=>by cases h;rename_i h;simp [plainV] at h
 | _,_,h,.mp0=>by cases h;rename_i h;simp [plainV] at h
theorem RCs.nosl {w:World} {pr pr':Nat→Prop}:∀{vs:List V} {cs:List Value},(∀v∈vs,NoSl v)→RCs w pr vs cs→RCs w pr' vs cs
 | _,_,_,.nil=>.nil
 | _,_,h,.cons k t=>.cons (RC0.nosl (h _ (by simp)) k) (RCs.nosl (fun v hv=>h v (by simp [hv])) t)
end
mutual
theorem RT.nosl {w:World} {pr pr':Nat→Prop} {lo:Nat}:∀{v:V} {c:Value} {fp:List Nat},NoSl v→RT w pr lo v c fp→(∀b∈fp,¬pr' b)→RT w pr' lo v c fp
 | _,_,_,h,.free k,_=>.free (k.nosl h)
 | _,_,_,h,.own hlo hp hb hc ht hr,hf=>by
  cases h with
  | plain h=>simp [plainV] at h
  | own h=>exact .own hlo (hf _ (by simp)) hb hc ht (plain_rows h hr)
 | _,_,_,_,.own0 s a,_=>.own0 s a
 | _,_,_,h,.agg k,hf=>.agg (RTl.nosl h.agg_inv k hf)
 | _,_,_,h,.tup k,hf=>.tup (RTl.nosl h.tup_inv k hf)
theorem RTl.nosl {w:World} {pr pr':Nat→Prop} {lo:Nat}:∀{vs:List V} {cs:List Value} {fp:List Nat},(∀v∈vs,NoSl v)→RTl w pr lo vs cs fp→(∀b∈fp,¬pr' b)→RTl w pr' lo vs cs fp
 | _,_,_,_,.nil,_=>.nil
 | _,_,_,h,.cons k t,hf=>.cons (RT.nosl (h _ (by simp)) k (fun b hb=>hf b (by simp [hb]))) (RTl.nosl (fun v hv=>h v (by simp [hv])) t (fun b hb=>hf b (by simp [hb])))
end
mutual
theorem RT.fresh {w:World} {pr:Nat→Prop} {lo:Nat}:∀{v:V} {c:Value} {fp:List Nat},RT w pr lo v c fp→∀b∈fp,lo≤b∧¬pr b∧b < w.heap.size
 | _,_,_,.free _,b,hb=>by cases hb
 | _,_,_,.own hlo hp hb' _ _ _,b,hb=>by
  have:=List.mem_singleton.1 hb
  subst this
  exact ⟨hlo,hp,hb'⟩
 | _,_,_,.own0 ..,b,hb=>by cases hb
 | _,_,_,.agg h,b,hb=>RTl.fresh h b hb
 | _,_,_,.tup h,b,hb=>RTl.fresh h b hb
theorem RTl.fresh {w:World} {pr:Nat→Prop} {lo:Nat}:∀{vs:List V} {cs:List Value} {fp:List Nat},RTl w pr lo vs cs fp→∀b∈fp,lo≤b∧¬pr b∧b < w.heap.size
 | _,_,_,.nil,b,hb=>by cases hb
 | _,_,_,.cons h t,b,hb=>by
  rcases List.mem_append.1 hb with h1|h1
  ·exact RT.fresh h b h1
  ·exact RTl.fresh t b h1
end
end Go.AM
namespace Go.AM
open Go Go.RowKit
def repV:Nat→List V→List V
 | 0,_=>[]
 | n+1,l=>l++repV n l
def kSame:V→V→Option Bool
 | .int k a,.int k' b=>if k=k' then some (decide (a=b)) else none
 | .bool a,.bool b=>some (decide (a=b))
 | _,_=>none
def vget (k:V):List (V×V)→Option (Option V)
 | []=>some none
 | (x,v)::r=>match kSame k x with
  | some true=>some (some v)
  | some false=>vget k r
  | none=>none
def vput (k v:V):List (V×V)→Option (List (V×V))
 | []=>some [(k,v)]
 | (x,u)::r=>match kSame k x with
  | some true=>some ((k,v)::r)
  | some false=>(vput k v r).map ((x,u)::·)
  | none=>none
def vdel (k:V):List (V×V)→Option (List (V×V))
 | []=>some []
 | (x,u)::r=>match kSame k x with
  | some true=>some r
  | some false=>(vdel k r).map ((x,u)::·)
  | none=>none
def kKind:K→V→Bool
 | .int k,.int k' _=>decide (k=k')
 | .bool,.bool _=>true
 | _,_=>false
def lookV (z:V) (ok:Bool) (r:Option V):V:=match ok with|true=>.tup [r.getD z,.bool r.isSome]|false=>r.getD z
inductive Nz:List V→List V→Prop
 | nil:Nz [] []
 | same {v:V} {vs us:List V} (t:Nz vs us):Nz (v::vs) (v::us)
 | nz {s:Nat} {vs us:List V} (t:Nz vs us):Nz (.nils::vs) (.sl s []::us)
inductive NzR:List (List V)→List (List V)→Prop
 | nil:NzR [] []
 | cons {r q:List V} {rs qs:List (List V)} (h:Nz r q) (t:NzR rs qs):NzR (r::rs) (q::qs)
theorem Nz.rfl:∀{vs:List V},Nz vs vs
 | []=>.nil
 | _::_=>.same Nz.rfl
theorem NzR.rfl:∀{rs:List (List V)},NzR rs rs
 | []=>.nil
 | _::_=>.cons Nz.rfl NzR.rfl
theorem Nz.length {vs us:List V} (h:Nz vs us):us.length=vs.length:=by
 induction h with
 | nil=>exact Eq.refl _
 | same _ ih=>simp [ih]
 | nz _ ih=>simp [ih]
theorem NzR.length {rs qs:List (List V)} (h:NzR rs qs):qs.length=rs.length:=by
 induction h with
 | nil=>exact Eq.refl _
 | cons _ _ ih=>simp [ih]
inductive QEv (P:Program) (E:Env) (gl:List (Nat×List V)) (tm:List (Nat×V)) (ob:List (Id×Obj)) (id:Id):Op→V→List (Id×Obj)→Prop
 | fn {op:Op} {v:V} (h:evF E tm op=some v):QEv P E gl tm ob id op v []
 | pick {c x y:Operand} {b:Bool} (hc:ev tm c=.bool b):QEv P E gl tm ob id (.pick c x y) (pickV b (ev tm x) (ev tm y)) []
 | shrV {t t':Nat} {x y:Operand} {k k':IntKind} {p q:Int} (hx:ev tm x=.int k p) (hy:ev tm y=.int k' q) (h0:0≤q):QEv P E gl tm ob id (.binOp .shr t x y t') (.int k (p.fdiv (2 ^ (min q.toNat k.bits)))) []
 | shlV {t t':Nat} {x y:Operand} {k k':IntKind} {p q:Int} (hx:ev tm x=.int k p) (hy:ev tm y=.int k' q) (h0:0≤q):QEv P E gl tm ob id (.binOp .shl t x y t') (.int k (k.wrap (p*2 ^ (min q.toNat k.bits)))) []
 | quoV {t t':Nat} {x y:Operand} {k:IntKind} {p q:Int} (hx:ev tm x=.int k p) (hy:ev tm y=.int k q) (h0:q≠0):QEv P E gl tm ob id (.binOp .quo t x y t') (.int k (k.wrap (p.tdiv q))) []
 | remV {t t':Nat} {x y:Operand} {k:IntKind} {p q:Int} (hx:ev tm x=.int k p) (hy:ev tm y=.int k q) (h0:q≠0):QEv P E gl tm ob id (.binOp .rem t x y t') (.int k (p.tmod q)) []
 | eqA {t t':Nat} {x y:Operand} {d:Ty} {us vs:List V} {b:Bool} (hd:ety E t=some d) (ha:d.k.isAgg=true) (hx:ev tm x=.agg us) (hy:ev tm y=.agg vs) (hok:(eqOk P E 20 t&&!P.eqGuardType P.depth t)=true) (he:eqT E 20 t us vs=some b) :
  QEv P E gl tm ob id (.binOp .eql t x y t') (.bool b) []
 | neA {t t':Nat} {x y:Operand} {d:Ty} {us vs:List V} {b:Bool} (hd:ety E t=some d) (ha:d.k.isAgg=true) (hx:ev tm x=.agg us) (hy:ev tm y=.agg vs) (hok:(eqOk P E 20 t&&!P.eqGuardType P.depth t)=true) (he:eqT E 20 t us vs=some b) :
  QEv P E gl tm ob id (.binOp .neq t x y t') (.bool (!b)) []
 | load {t:Nat} {x:Operand} {d:Ty} {p:V} {cs:List V} {v:V} (hd:ety E t=some d) (hx:ev tm x=p) (hc:CellsAt gl ob p d.size cs) (hm:mkV d.k.isAgg cs=some v):QEv P E gl tm ob id (.load t x) v []
 | idxRef {t:Nat} {x i:Operand} {e sz bt:Nat} {z:List V} {de:Ty} {o:Id} {row len s:Nat} {rs:List (List V)} {fz:Bool} {k:IntKind} {n:Int}
  (ht:ety E t=some ⟨.sli e,sz,bt,z⟩) (he:ety E e=some de) (hx:ev tm x=.ref o row len) (ho:oget ob o=some (.rows s rs fz)) (hs:s=de.size) (hi:ev tm i=.int k n) (h0:0≤n) (h1:n < len) :
  QEv P E gl tm ob id (.indexAddr t x i) (.ptr o (row+n.toNat) 0) []
 | idxSl {t:Nat} {x i:Operand} {e sz bt:Nat} {z:List V} {de:Ty} {s:Nat} {rows:List (List V)} {k:IntKind} {n:Int}
  (ht:ety E t=some ⟨.sli e,sz,bt,z⟩) (he:ety E e=some de) (hx:ev tm x=.sl s rows) (hs:s=de.size) (hi:ev tm i=.int k n) (h0:0≤n) (h1:n < rows.length) :
  QEv P E gl tm ob id (.indexAddr t x i) (.spt s rows n.toNat 0) []
 | idxArr {t:Nat} {x i:Operand} {m e sz bt:Nat} {z:List V} {de:Ty} {o:Id} {row off:Nat} {k:IntKind} {n:Int}
  (ht:ety E t=some ⟨.arr m e,sz,bt,z⟩) (he:ety E e=some de) (hx:ev tm x=.ptr o row off) (hi:ev tm i=.int k n) (h0:0≤n) (h1:n < m) :
  QEv P E gl tm ob id (.indexAddr t x i) (.ptr o row (off+n.toNat*de.size)) []
 | idxArrG {t:Nat} {x i:Operand} {m e sz bt:Nat} {z:List V} {de:Ty} {g off:Nat} {k:IntKind} {n:Int}
  (ht:ety E t=some ⟨.arr m e,sz,bt,z⟩) (he:ety E e=some de) (hx:ev tm x=.gptr g off) (hi:ev tm i=.int k n) (h0:0≤n) (h1:n < m) :
  QEv P E gl tm ob id (.indexAddr t x i) (.gptr g (off+n.toNat*de.size)) []
 | idxArrS {t:Nat} {x i:Operand} {m e sz bt:Nat} {z:List V} {de:Ty} {s:Nat} {rows:List (List V)} {row off:Nat} {k:IntKind} {n:Int}
  (ht:ety E t=some ⟨.arr m e,sz,bt,z⟩) (he:ety E e=some de) (hx:ev tm x=.spt s rows row off) (hi:ev tm i=.int k n) (h0:0≤n) (h1:n < m) :
  QEv P E gl tm ob id (.indexAddr t x i) (.spt s rows row (off+n.toNat*de.size)) []
 | idxV {t:Nat} {x i:Operand} {m e sz bt:Nat} {z cs us:List V} {de:Ty} {k:IntKind} {n:Int} {v:V}
  (ht:ety E t=some ⟨.arr m e,sz,bt,z⟩) (he:ety E e=some de) (hx:ev tm x=.agg cs) (hi:ev tm i=.int k n) (h0:0≤n) (h1:n < m) (hc:cutV cs (n.toNat*de.size) de.size=some us) (hm:mkV de.k.isAgg us=some v) :
  QEv P E gl tm ob id (.index t x i) v []
 | idxStr {t:Nat} {x i:Operand} {sz bt:Nat} {z:List V} {k:IntKind} {n:Int} {s:ByteArray} {c:UInt8}
  (ht:ety E t=some ⟨.str,sz,bt,z⟩) (hx:ev tm x=.str s) (hi:ev tm i=.int k n) (h0:0≤n) (hc:s[n.toNat]?=some c) :
  QEv P E gl tm ob id (.index t x i) (.int .u8 c.toNat) []
 | slSl {t:Nat} {x:Operand} {lo hi:Option Operand} {e sz bt:Nat} {z:List V} {de:Ty} {s l h:Nat} {rows:List (List V)}
  (ht:ety E t=some ⟨.sli e,sz,bt,z⟩) (he:ety E e=some de) (hx:ev tm x=.sl s rows) (hs:s=de.size) (hl:Bnd tm 0 lo l) (hh:Bnd tm rows.length hi h) (h1:l≤h) (h2:h≤rows.length) :
  QEv P E gl tm ob id (.slice t x lo hi none) (.sl s ((rows.drop l).take (h - l))) []
 | slSl3 {t:Nat} {x hi mx:Operand} {lo:Option Operand} {e sz bt:Nat} {z:List V} {de:Ty} {s l h m:Nat} {rows:List (List V)}
  (ht:ety E t=some ⟨.sli e,sz,bt,z⟩) (he:ety E e=some de) (hx:ev tm x=.sl s rows) (hs:s=de.size) (hl:Bnd tm 0 lo l) (hh:Bnd tm rows.length (some hi) h) (hm:Bnd tm 0 (some mx) m) (h1:l≤h) (h2:h≤m) (h3:m≤rows.length) :
  QEv P E gl tm ob id (.slice t x lo (some hi) (some mx)) (.sl s ((rows.drop l).take (h - l))) []
 | slRef {t:Nat} {x:Operand} {lo hi:Option Operand} {e sz bt:Nat} {z:List V} {de:Ty} {o:Id} {row len l h s:Nat} {rs:List (List V)} {fz:Bool}
  (ht:ety E t=some ⟨.sli e,sz,bt,z⟩) (he:ety E e=some de) (hx:ev tm x=.ref o row len) (ho:oget ob o=some (.rows s rs fz)) (hs:s=de.size) (hl:Bnd tm 0 lo l) (hh:Bnd tm len hi h) (h1:l≤h) (h2:h≤len) :
  QEv P E gl tm ob id (.slice t x lo hi none) (.ref o (row+l) (h - l)) []
 | slEmp {t:Nat} {x lo hi mx:Operand} {e sz bt:Nat} {z:List V} {de:Ty} {n:Int} {k1 k2 k3:IntKind}
  (ht:ety E t=some ⟨.sli e,sz,bt,z⟩) (he:ety E e=some de) (hx:lenV (ev tm x)=some n) (hlo:ev tm lo=.int k1 0) (hhi:ev tm hi=.int k2 0) (hmx:ev tm mx=.int k3 0) :
  QEv P E gl tm ob id (.slice t x (some lo) (some hi) (some mx)) .emp []
 | slArr {t:Nat} {x:Operand} {m e sz bt:Nat} {z:List V} {de:Ty} {o:Id} {off:Nat} {cells:List V}
  (ht:ety E t=some ⟨.arr m e,sz,bt,z⟩) (he:ety E e=some de) (hx:ev tm x=.ptr o 0 off) (ho:oget ob o=some (.box cells)) (hc:off+m*de.size≤cells.length) :
  QEv P E gl tm ob id (.slice t x none none none) (.bref o off de.size m) []
 | box {t:Nat} {x:Operand} {cells:List V} (hx:(ev tm x).cells?=some cells) (h1:V.ones cells=true):QEv P E gl tm ob id (.box t x) (.ptr id 0 0) [(id,.box cells)]
 | alloc {t:Nat} {d:Ty} (hd:ety E t=some d) (h1:V.ones d.zero=true):QEv P E gl tm ob id (.alloc t) (.ptr id 0 0) [(id,.box d.zero)]
 | make {t:Nat} {l c:Operand} {e sz bt:Nat} {z:List V} {de:Ty} {k1 k2:IntKind} {n m:Int} {zs:List V}
  (ht:ety E t=some ⟨.sli e,sz,bt,z⟩) (he:ety E e=some de) (hl:ev tm l=.int k1 n) (hc:ev tm c=.int k2 m) (h0:0≤n) (h1:n≤m) (h2:m≤281474976710656) (h3:de.bytes*m≤140737488355328) (hf:V.free.frees de.zero=true) (hz:Nz de.zero zs) :
  QEv P E gl tm ob id (.makeSlice t l c) (.ref id 0 n.toNat) [(id,.rows de.size (List.replicate n.toNat zs) false)]
 | lit {t:Nat} {n:Nat} {parts:Array (Nat×Operand)} {e sz bt:Nat} {z cells:List V} {de:Ty} {rows:List (List V)}
  (ht:ety E t=some ⟨.sli e,sz,bt,z⟩) (he:ety E e=some de) (hn:n*de.size≤16777216) (hc:fillV (fun i=>some (i*de.size,de.size)) (repV n de.zero) (evParts tm parts.toList)=some cells) (hf:V.free.frees cells=true) (h1:V.ones cells=true) (hz:NzR (chunkV de.size n cells) rows) :
  QEv P E gl tm ob id (.buildSlice t n parts) (.ref id 0 n) [(id,.rows de.size rows false)]
 | litF {t:Nat} {n:Nat} {parts:Array (Nat×Operand)} {e sz bt:Nat} {z cells:List V} {de:Ty} {rows:List (List V)}
  (ht:ety E t=some ⟨.sli e,sz,bt,z⟩) (he:ety E e=some de) (hn:n*de.size≤16777216) (hc:fillV (fun i=>some (i*de.size,de.size)) (repV n de.zero) (evParts tm parts.toList)=some cells) (hf:V.free.frees cells=true) (h1:V.ones cells=true) (hz:NzR (chunkV de.size n cells) rows) (h0:rows≠[]) :
  QEv P E gl tm ob id (.buildSlice t n parts) (.sl de.size rows) []
 | mkMap {t:Nat}:QEv P E gl tm ob id (.makeMap t none) (.mapr id) [(id,.map [])]
 | look {t:Nat} {x i:Operand} {ok:Bool} {k e sz bt:Nat} {z:List V} {dk de:Ty} {o:Id} {es:List (V×V)} {z0:V} {r:Option V}
  (ht:ety E t=some ⟨.map k e,sz,bt,z⟩) (hk:ety E k=some dk) (he:ety E e=some de) (hz:de.zero=[z0]) (hag:de.k.isAgg=false) (hx:ev tm x=.mapr o) (ho:oget ob o=some (.map es)) (hi:kKind dk.k (ev tm i)=true) (hr:vget (ev tm i) es=some r) :
  QEv P E gl tm ob id (.lookup t x i ok) (lookV z0 ok r) []
 | lenM {t:Nat} {x:Operand} {k e sz bt:Nat} {z:List V} {o:Id} {es:List (V×V)}
  (ht:ety E t=some ⟨.map k e,sz,bt,z⟩) (hx:ev tm x=.mapr o) (ho:oget ob o=some (.map es)) :
  QEv P E gl tm ob id (.call ⟨.builtin .len,#[x],#[t]⟩) (.int .i64 (es.length:Nat)) []
 | convB {src dst:Nat} {x:Operand} {e sz bt sz' bt':Nat} {z z':List V} {de:Ty} {ns:List Int}
  (hs:ety E src=some ⟨.sli e,sz,bt,z⟩) (he:ety E e=some de) (hk:de.k=.int .u8) (hd:ety E dst=some ⟨.str,sz',bt',z'⟩) (hx:Snap ob (ev tm x) (.sl 1 (ns.map fun n=>[.int .u8 n]))) :
  QEv P E gl tm ob id (.convert src dst x) (.str (strOfNums ns)) []
 | lookP {t:Nat} {x i:Operand} {ok:Bool} {k e sz bt:Nat} {z:List V} {dk de:Ty} {ks vs:List V} {z0:V} {r:Option V}
  (ht:ety E t=some ⟨.map k e,sz,bt,z⟩) (hk:ety E k=some dk) (he:ety E e=some de) (hz:de.zero=[z0]) (hag:de.k.isAgg=false) (hx:ev tm x=.mp ks vs) (hi:kKind dk.k (ev tm i)=true) (hr:vget (ev tm i) (ks.zip vs)=some r) :
  QEv P E gl tm ob id (.lookup t x i ok) (lookV z0 ok r) []
 | lenP {t:Nat} {x:Operand} {k e sz bt:Nat} {z:List V} {ks vs:List V}
  (ht:ety E t=some ⟨.map k e,sz,bt,z⟩) (hx:ev tm x=.mp ks vs) :
  QEv P E gl tm ob id (.call ⟨.builtin .len,#[x],#[t]⟩) (.int .i64 (ks.length:Nat)) []
 | callP {fx:Operand} {args:Array Operand} {tys:Array Nat} {f:FuncId} {caps:List V} {res v:V} {nw:List (Id×Obj)} {k:Nat}
  (hf:ev tm fx=.fn f caps) (hfr:V.free.frees (evs tm args.toList++caps)=true) (hs:SC P gl f (evs tm args.toList++caps) res) (hr:fl id 0 res=(v,nw,k)) :
  QEv P E gl tm ob id (.call ⟨.value fx,args,tys⟩) v nw
 | callS {fx:Operand} {args:Array Operand} {tys:Array Nat} {f:FuncId} {caps us:List V} {res v:V} {nw:List (Id×Obj)} {k:Nat}
  (hf:ev tm fx=.fn f caps) (hsn:Snaps ob (evs tm args.toList++caps) us) (hs:SC P gl f us res) (hns:NoSl res) (hr:fl id 0 res=(v,nw,k)) :
  QEv P E gl tm ob id (.call ⟨.value fx,args,tys⟩) v nw
end Go.AM
namespace Go.AM
open Go Go.RowKit
variable {P:Program} {E:Env} {gl:List (Nat×List V)} {n0:Nat} {tm:List (Nat×V)} {ob:List (Id×Obj)} {w:World} {B:BM} {pr:Nat→Prop} {a:Act}
theorem still (q:QSim gl n0 tm ob a.tmps w B pr) {o:Oper} {v:V} {next:Act→World→Prop} {Q:Exit→Act→World→Prop}
 (hn:∀c w' B' pr',Ext w w' B B' pr pr' []→RC w' B' pr' v c→next (a.put o.dst c) w') (h:∃c,(execOp a.eval o).run P w=.ok (.value c) w∧RC w B pr v c):o.wp P a w next Q:=by
 obtain ⟨c,hr,hc⟩:=h
 exact wp_value hr (hn c w B pr (.refl q.pra) hc)
theorem new_sound (q:QSim gl n0 tm ob a.tmps w B pr) {o:Oper} {id:Id} {x:Obj} {v:V} {next:Act→World→Prop} {Q:Exit→Act→World→Prop}
 (hn:∀c w' B' pr',Ext w w' B B' pr pr' [(id,x)]→RC w' B' pr' v c→next (a.put o.dst c) w') (ob':Go.Obj) (c:Value) (s lim:Nat) (hd:x≠.dead)
 (hr:(execOp a.eval o).run P w=.ok (.value c) (w.alloc ob'))
 (hx:ObjAt (w.alloc ob') (upd B id ⟨w.heap.size,0,s,lim⟩) pr ⟨w.heap.size,0,s,lim⟩ x)
 (hc:RC (w.alloc ob') (upd B id ⟨w.heap.size,0,s,lim⟩) pr v c):o.wp P a w next Q :=
 wp_value hr (hn c _ _ _ (.new q.pra ob' hd hx) hc)
theorem box_obj {cells:List V} {vs:List Value} (hp:∀b,pr b→b < w.heap.size) (id:Id) (hf:B id=none) (t:Nat) (h:RCl w B pr cells vs) :
 ObjAt (w.alloc (.cells vs.toArray t)) (upd B id ⟨w.heap.size,0,cells.length,1⟩) pr ⟨w.heap.size,0,cells.length,1⟩ (.box cells):=by
 refine ⟨rfl,Nat.le_refl _,fun hb=>by have:=hp _ hb;simp at this,by rw [alloc_size];simp,?_,vs,range_new w vs.toArray t,h.move (like_alloc w _ hp) (fun _ h=>h) (upd_mono hf)⟩
 have:=there_new w vs.toArray t
 rw [h.length]
 simpa using this
theorem rep_zero {n s:Nat} {zs:List V} {cs:List Value} (h:RCl w B pr zs cs) (hs:zs.length=s):∀(n:Nat),RCl w B pr (repV n zs) ((List.range (n*cs.length)).map fun i=>cs[i % cs.length]!)
 | 0=>by simp [repV];exact .nil
 | m+1=>by
  have ih:=rep_zero (n:=n) h hs m
  simp only [repV]
  have e:(List.range ((m+1)*cs.length)).map (fun i=>cs[i % cs.length]!)=cs++(List.range (m*cs.length)).map fun i=>cs[i % cs.length]!:=by
   rw [Nat.add_mul,Nat.one_mul,Nat.add_comm,List.range_add,List.map_append,List.map_map]
   congr 1
   ·apply List.ext_getElem?
    intro i
    by_cases hi:i < cs.length
    ·simp [hi,Nat.mod_eq_of_lt hi]
    ·simp [hi,List.getElem?_eq_none (Nat.le_of_not_lt hi)]
   ·apply List.map_congr_left
    intro i _
    simp [Function.comp]
  rw [e]
  exact h.append ih
theorem zero_vals {t:Nat} {d:Ty} (hd:d.Ok P t):∃z:Value,(zeroValue t).run P w=.ok z w∧RCs w pr d.zero z.cells.toList∧z.cells.toList.length=d.size:=by
 obtain ⟨i,u,hi,hu,hs,hb,hf,hk,hzl,z,hz,hj,ha⟩:=hd.ex
 refine ⟨z,by simp [zeroValue,typeInfo,hi,hz],justs_rc hj,?_⟩
 have:=(justs_rc (w:=w) (pr:=pr) hj).length
 omega
end Go.AM
