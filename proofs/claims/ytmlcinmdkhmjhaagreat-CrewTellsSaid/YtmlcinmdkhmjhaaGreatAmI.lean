/- Helper lemmas for the claim's theorem: an abstract machine over the model, proved sound; no condition beyond each lemma's own. -/
import Derived.Test.YtmlcinmdkhmjhaaGreatAmG
import Derived.KernelRfl
set_option linter.unusedVariables false
set_option linter.unusedSimpArgs false
set_option linter.unnecessarySimpa false
set_option linter.unusedSectionVars false
namespace Go.AM
open Go Go.RowKit
variable {r:Bool} {P:Program} {E:Env} {gl:List (Nat×List V)}
theorem SafeOps.lookSl {κ α:Type} [DecidableEq κ] (fk:κ→V) (f:α→List V) (s:Nat) {m:List (κ×List α)} {kk:κ} (hf:KeyF fk) (hE:E.good P=true) {l rest:List Oper} {op:Oper} {Q:Exit→St→Prop} {n d t:Nat} {x i:Operand} {k e sz bt:Nat} {z:List V} {dk de:Ty} {tm:List (Nat×V)} {ob:List (Id×Obj)} {out:List (Nat×List (Nat×V))} {pa o:Id}
 (hg:gd l tm op=some true) (hop:op.op=.lookup t x i false) (hd:op.dst=some d) (hn:Nat.blt d n=true) (ht:ety E t=some ⟨.map k e,sz,bt,z⟩) (hk:ety E k=some dk) (he:ety E e=some de) (hz:de.zero=[.nils]) (hag:de.k.isAgg=false)
 (hx:ev tm x=.mapr o) (ho:oget ob o=some (.map (mps fk (fun l=>V.sl s (rws f l)) m))) (hi:ev tm i=fk kk) (hkk:kKind dk.k (fk kk)=true)
 (h:SafeOps r P gl l rest Q ⟨n,(d,V.sl s (rws f ((mget m kk).getD [])))::tm,ob,out,pa⟩):SafeOps r P gl l (op::rest) Q ⟨n,tm,ob,out,pa⟩:=by
 have hq:QEv P E gl tm ob (pa++[d]) op.op (lookV .nils false ((mget m kk).map fun l=>V.sl s (rws f l))) []:=by
  rw [hop]
  exact .look ht hk he hz hag hx ho (by rw [hi];exact hkk) (by rw [hi];exact vget_mps hf kk m)
 refine SafeOps.done hg fun w0 pr0 ow a ao w B pr hs K hK=>hq.sound hE hs.q (fun k x hk=>by simp [oget] at hk) fun c w' B' pr' he hc=>?_
 have h1:=hs.grow he (fun o x hk=>by simp [oget] at hk)
 rw [hd]
 refine hK (a.put (some d) c) w' (h w0 pr0 ow (a.put (some d) c) ao w' B' pr' { h1 with tms:=h1.tms.put (show d < n by simpa using hn) ?_ })
 cases hm:mget m kk with
 | none =>
  rw [hm] at hc
  simp only [lookV,Option.map_none,Option.getD_none] at hc
  rw [hc.nils_inv]
  exact .base (.sl0 s none 0)
 | some l =>
  rw [hm] at hc
  exact hc
theorem ifP_G {c:Prop} [Decidable c] {K:Type} {A B ρ:K} {G:Prop} (h:(if c then A else B)=ρ) (h1:c→A=ρ→G) (h2:¬c→B=ρ→G):G:=by
 by_cases hc:c
 ·rw [if_pos hc] at h;exact h1 hc h
 ·rw [if_neg hc] at h;exact h2 hc h
theorem up_fn {ob:List (Id×Obj)} {e c:Nat} (h:e=c):Up ob (V.fn e []) (V.fn c []):=h▸.refl _
end Go.AM
namespace Go.AM
open Go
variable {r:Bool} {P:Program} {gl:List (Nat×List V)}
theorem tn {K:St→Prop} {Q:Exit→St→Prop} {σ:St} (h:K σ):thenQ K Q .normal σ:=h
end Go.AM
namespace Go.AM
open Go
variable {r:Bool} {P:Program} {gl:List (Nat×List V)}
theorem SafeOps.got {l rest:List Oper} {Q:Exit→St→Prop} {σ τ:St} (h:SafeOps r P gl l rest Q τ) (hc:Gets gl σ τ):SafeOps r P gl l rest Q σ:=SafeOps.gets hc h
end Go.AM
namespace Go.AM
open Go Go.RowKit
variable {r:Bool} {P:Program} {E:Env} {gl:List (Nat×List V)}
theorem Q0 (hE:E.good P=true) {l rest:List Oper} {o:Oper} {Q:Exit→St→Prop} {n d:Nat} {tm:List (Nat×V)} {ob:List (Id×Obj)} {out:List (Nat×List (Nat×V))} {pa:Id} {v:V} (hd:o.dst=some d)
 (hq:QEv P E gl tm ob (pa++[d]) o.op v []) (h:SafeOps r P gl l rest Q ⟨n,(d,v)::tm,ob,out,pa⟩) (hg:gd l tm o=some true:=by rfl) (hn:Nat.blt d n=true:=by rfl):SafeOps r P gl l (o::rest) Q ⟨n,tm,ob,out,pa⟩ :=
 SafeOps.quiet0 hE hg hd hn hq h
theorem DT {l:List Oper} {Z:List (Nat×Id)} {S:List Nat} {Q:St→Prop} {d f n:Nat} {oi:Oper} {v:V} {listed:Array Bool} {tm:List (Nat×V)} {ob:List (Id×Obj)} {out:List (Nat×List (Nat×V))} {pa:Id} (i:Nat) (Zi:List Id) (hi:l[i]?=some oi) (hd:oi.dst=some d)
 (hq:∀ob',ObLeZ Zi ob ob'→QEv P E gl tm ob' (pa++[d]) oi.op v []) (h:DAny r P E gl l Z S Q f (listed.setIfInBounds i true) ⟨n,(d,v)::tm,ob,out,pa⟩)
 (hg:gd l tm oi=some true:=by rfl) (hn:Nat.blt d n=true:=by rfl)
 (hw:waitsAll l S listed i=true:=by kernel_rfl) (hzz:zAll l Z Zi listed i=true:=by kernel_rfl) (hf:Region.free .any l.toArray listed i=true:=by kernel_rfl) (hr:(Region.ready .any l.toArray listed).contains i=true:=by kernel_rfl):DAny r P E gl l Z S Q (f+1) listed ⟨n,tm,ob,out,pa⟩ :=
 .take hi hw Zi hzz hf hr hg hd hn hq h
theorem ut {ob:List (Id×Obj)} {d:Nat} {v:V} {r tm:List (Nat×V)} (t:upT ob r tm) (h:Up ob (tget tm d) v:=by exact .refl _):upT ob ((d,v)::r) tm:=⟨h,t⟩
theorem uo {ob:List (Id×Obj)} {o:Id} {x y:Obj} {r:List (Id×Obj)} (t:upOb ob r) (h:oget ob o=some y:=by rfl) (k:UpO ob y x:=by exact .refl _):upOb ob ((o,x)::r):=⟨⟨y,h,k⟩,t⟩
abbrev I (n:Int):V:=.int .i64 n
theorem sT {l rest:List Oper} {o:Oper} {Q:Exit→St→Prop} {n d:Nat} {tm:List (Nat×V)} {ob:List (Id×Obj)} {out:List (Nat×List (Nat×V))} {pa:Id} {b:Bool} (hb:b=false)
 (h:SafeOps r P gl l rest Q ⟨n,(d,.tup [])::tm,ob,out,pa⟩) (hg:gd l tm o=some b:=by rfl) (hd:o.dst=some d:=by rfl) (hn:Nat.blt d n=true:=by rfl):SafeOps r P gl l (o::rest) Q ⟨n,tm,ob,out,pa⟩ :=
 SafeOps.skip (by rw [hg,hb]) hd hn h
end Go.AM
