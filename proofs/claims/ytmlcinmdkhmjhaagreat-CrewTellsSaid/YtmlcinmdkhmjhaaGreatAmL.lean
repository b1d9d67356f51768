/- Helper lemmas for the claim's theorem: an abstract machine over the model, proved sound; no condition beyond each lemma's own. -/
import Derived.Test.YtmlcinmdkhmjhaaGreatAmK
import Derived.Test.YtmlcinmdkhmjhaaGreatAmH
set_option linter.unusedVariables false
set_option linter.unusedSimpArgs false
set_option linter.unnecessarySimpa false
set_option linter.unusedSectionVars false
namespace Go.AM
open Go Go.RowKit
variable {r:Bool} {P:Program} {E:Env} {gl:List (Nat×List V)}
def spine:List V→Option (List V)
 | []=>some []
 | a::t=>match force a,spine t with
  | some b,some s=>some (b::s)
  | _,_=>none
theorem spine_eq:∀{l s:List V},spine l=some s→s=l
 | [],s,h=>by cases h;rfl
 | a::t,s,h=>by
  unfold spine at h
  split at h
  ·rename_i b s' h1 h2
   cases h
   rw [spine_eq h2,force_eq h1]
  ·cases h
def norm:V→Option V
 | .agg cs=>match spine cs with
  | some us=>some (.agg us)
  | none=>none
 | .tup cs=>match spine cs with
  | some us=>some (.tup us)
  | none=>none
 | .fn f cs=>match spine cs with
  | some us=>some (.fn f us)
  | none=>none
 | v=>force v
theorem norm_eq {v u:V} (h:norm v=some u):u=v:=by
 unfold norm at h
 split at h
 ·split at h
  ·rename_i hs;cases h;rw [spine_eq hs]
  ·cases h
 ·split at h
  ·rename_i hs;cases h;rw [spine_eq hs]
  ·cases h
 ·split at h
  ·rename_i hs;cases h;rw [spine_eq hs]
  ·cases h
 ·exact force_eq h
def snoc:Id→Nat→Option Id
 | [],d=>some [d]
 | a::t,d=>match snoc t d with
  | some s=>some (a::s)
  | none=>none
theorem snoc_eq:∀{p:Id} {d:Nat} {q:Id},snoc p d=some q→q=p++[d]
 | [],d,q,h=>by cases h;rfl
 | a::t,d,q,h=>by
  unfold snoc at h
  split at h
  ·rename_i s hs;cases h;rw [snoc_eq hs];rfl
  ·cases h
def cellsF (gl:List (Nat×List V)) (Zi:List Id) (ob:List (Id×Obj)) (n:Nat):V→Option (List V)
 | .ptr o 0 off=>match Zi.any (idEq o) with
  | false=>match oget ob o with
   | some (.box cells)=>cutV cells off n
   | _=>none
  | true=>none
 | .gptr g off=>match gget gl g with
  | some cells=>cutV cells off n
  | none=>none
 | _=>none
theorem cellsF_at {Zi:List Id} {ob:List (Id×Obj)} {n:Nat} {p:V} {cs:List V} (h:cellsF gl Zi ob n p=some cs) {ob':List (Id×Obj)} (hz:ObLeZ Zi ob ob'):CellsAt gl ob' p n cs:=by
 unfold cellsF at h
 split at h
 ·split at h
  ·rename_i hn
   split at h
   ·rename_i ho;exact .box (hz _ _ hn ho) h
   ·cases h
  ·cases h
 ·split at h
  ·rename_i hg;exact .glob hg h
  ·cases h
 ·cases h
def qd (E:Env) (gl:List (Nat×List V)) (Zi:List Id) (tm:List (Nat×V)) (ob:List (Id×Obj)) (op:Op):Option V :=
 match op with
 | .load t x=>match ety E t with
  | some d=>match cellsF gl Zi ob d.size (ev tm x) with
   | some cs=>match mkV d.k.isAgg cs with
    | some v=>norm v
    | none=>none
   | none=>none
  | none=>none
 | op=>match evF E tm op with
  | some v=>norm v
  | none=>none
theorem qd_ev {Zi:List Id} {tm:List (Nat×V)} {ob:List (Id×Obj)} {op:Op} {v:V} (h:qd E gl Zi tm ob op=some v) {ob':List (Id×Obj)} (hz:ObLeZ Zi ob ob') {id:Id}:QEv P E gl tm ob' id op v []:=by
 unfold qd at h
 split at h
 ·split at h
  ·rename_i d hd
   split at h
   ·rename_i cs hc
    split at h
    ·rename_i u hm
     rw [norm_eq h]
     exact .load hd rfl (cellsF_at hc hz) hm
    ·cases h
   ·cases h
  ·cases h
 ·split at h
  ·rename_i u hu
   rw [norm_eq h]
   exact .fn hu
  ·cases h
def qn (E:Env) (tm:List (Nat×V)) (id:Id):Op→Option (V×Obj)
 | .box _ x=>match (ev tm x).cells? with
  | some cells=>match spine cells with
   | some us=>match V.ones us with
    | true=>some (.ptr id 0 0,.box us)
    | false=>none
   | none=>none
  | none=>none
 | .alloc t=>match ety E t with
  | some d=>match spine d.zero with
   | some us=>match V.ones us with
    | true=>some (.ptr id 0 0,.box us)
    | false=>none
   | none=>none
  | none=>none
 | .makeMap _ none=>some (.mapr id,.map [])
 | _=>none
theorem qn_ev {tm:List (Nat×V)} {ob:List (Id×Obj)} {id:Id} {op:Op} {v:V} {x:Obj} (h:qn E tm id op=some (v,x)):QEv P E gl tm ob id op v [(id,x)]:=by
 unfold qn at h
 split at h
 ·split at h
  ·rename_i cells hc
   split at h
   ·rename_i us hs
    split at h
    ·rename_i h1
     cases h
     rw [spine_eq hs] at h1 ⊢
     exact .box hc h1
    ·cases h
   ·cases h
  ·cases h
 ·split at h
  ·rename_i d hd
   split at h
   ·rename_i us hs
    split at h
    ·rename_i h1
     cases h
     rw [spine_eq hs] at h1 ⊢
     exact .alloc hd h1
    ·cases h
   ·cases h
  ·cases h
 ·cases h;exact .mkMap
 ·cases h
def sto (E:Env) (tm:List (Nat×V)) (ob:List (Id×Obj)) (t:Nat) (x y:Operand):Option (Id×Obj) :=
 match ety E t,(ev tm y).cells? with
 | some d,some us=>match Nat.beq us.length d.size,V.ones us with
  | true,true=>match ev tm x with
   | .ptr o 0 off=>match oget ob o with
    | some (.box cells)=>match Nat.ble (off+us.length) cells.length with
     | true=>match spine (putCells cells off us) with
      | some ws=>some (o,.box ws)
      | none=>none
     | false=>none
    | _=>none
   | _=>none
  | _,_=>none
 | _,_=>none
theorem sto_at {l rest:List Oper} {op:Oper} {Q:Exit→St→Prop} {n t:Nat} {x y:Operand} {tm:List (Nat×V)} {ob:List (Id×Obj)} {out:List (Nat×List (Nat×V))} {pa:Id} {o:Id} {z:Obj} (hE:E.good P=true)
 (hg:gd l tm op=some true) (hop:op.op=.store t x y) (hd:op.dst=none) (hs:sto E tm ob t x y=some (o,z))
 (h:SafeOps r P gl l rest Q ⟨n,tm,(o,z)::ob,out,pa⟩):SafeOps r P gl l (op::rest) Q ⟨n,tm,ob,out,pa⟩:=by
 unfold sto at hs
 split at hs
 ·rename_i d us ht hu
  split at hs
  ·rename_i h1 h2
   split at hs
   ·rename_i q off hx
    split at hs
    ·rename_i cells ho
     split at hs
     ·rename_i hl
      split at hs
      ·rename_i ws hw
       cases hs
       rw [spine_eq hw] at h
       exact SafeOps.store hE hg hop hd ht hu h1 h2 (by rw [hx];exact .box ho hl) h
      ·cases hs
     ·cases hs
    ·cases hs
   ·cases hs
  ·cases hs
 ·cases hs
def runO (E:Env) (gl:List (Nat×List V)) (l:List Oper):Nat→List Oper→St→Option (List Oper×St)
 | 0,rest,σ=>some (rest,σ)
 | k+1,[],_=>none
 | k+1,o::rest,⟨n,tm,ob,out,pa⟩=>match gd l tm o with
  | some true=>match o.dst with
   | some d=>match Nat.blt d n with
    | true=>match qd E gl [] tm ob o.op with
     | some v=>runO E gl l k rest ⟨n,(d,v)::tm,ob,out,pa⟩
     | none=>match snoc pa d with
      | some id=>match qn E tm id o.op with
       | some (v,x)=>match oget ob id with
        | none=>runO E gl l k rest ⟨n,(d,v)::tm,(id,x)::ob,out,pa⟩
        | some _=>none
       | none=>none
      | none=>none
    | false=>none
   | none=>match o.op with
    | .store t x y=>match sto E tm ob t x y with
     | some (q,z)=>runO E gl l k rest ⟨n,tm,(q,z)::ob,out,pa⟩
     | none=>none
    | _=>none
  | some false=>match o.dst with
   | some d=>match Nat.blt d n with
    | true=>runO E gl l k rest ⟨n,(d,.tup [])::tm,ob,out,pa⟩
    | false=>none
   | none=>runO E gl l k rest ⟨n,tm,ob,out,pa⟩
  | none=>none
theorem SafeOps.run (hE:E.good P=true) {l:List Oper} {Q:Exit→St→Prop}:∀(k:Nat) {rest rest':List Oper} {σ σ':St},runO E gl l k rest σ=some (rest',σ')→SafeOps r P gl l rest' Q σ'→SafeOps r P gl l rest Q σ
 | 0,rest,rest',σ,σ',hr,h=>by cases hr;exact h
 | k+1,[],rest',σ,σ',hr,h=>by cases hr
 | k+1,o::rest,rest',⟨n,tm,ob,out,pa⟩,σ',hr,h=>by
  unfold runO at hr
  split at hr
  ·rename_i hg
   split at hr
   ·rename_i d hd
    split at hr
    ·rename_i hn
     split at hr
     ·rename_i v hv
      exact SafeOps.quiet0 hE hg hd hn (qd_ev hv (.refl _ _)) (SafeOps.run hE k hr h)
     ·split at hr
      ·rename_i id hid
       split at hr
       ·rename_i v x hv
        split at hr
        ·rename_i ho
         rw [snoc_eq hid] at hv ho hr
         exact SafeOps.quiet1 hE hg hd hn (qn_ev hv) (by simp [fresh,ho]) (SafeOps.run hE k hr h)
        ·cases hr
       ·cases hr
      ·cases hr
    ·cases hr
   ·rename_i hd
    split at hr
    ·rename_i t x y hop
     split at hr
     ·rename_i q z hs
      exact sto_at hE hg hop hd hs (SafeOps.run hE k hr h)
     ·cases hr
    ·cases hr
  ·rename_i hg
   split at hr
   ·rename_i d hd
    split at hr
    ·rename_i hn
     exact SafeOps.skip hg hd hn (SafeOps.run hE k hr h)
    ·cases hr
   ·rename_i hd
    exact SafeOps.skip0 hg hd (SafeOps.run hE k hr h)
  ·cases hr
def opAt:List Oper→Nat→Option Oper
 | [],_=>none
 | o::_,0=>some o
 | _::t,k+1=>opAt t k
theorem opAt_eq:∀(l:List Oper) (i:Nat),opAt l i=l[i]?
 | [],i=>by simp [opAt]
 | o::t,0=>rfl
 | o::t,k+1=>by simp [opAt,opAt_eq t k]
def zsOf:List (Nat×Id)→List Id
 | []=>[]
 | p::t=>p.2::zsOf t
def runA (E:Env) (gl:List (Nat×List V)) (l:List Oper) (zs:List Id):List Nat→St→Option St
 | [],σ=>some σ
 | i::is,⟨n,tm,ob,out,pa⟩=>match opAt l i with
  | some o=>match gd l tm o,o.dst with
   | some true,some d=>match Nat.blt d n with
    | true=>match qd E gl zs tm ob o.op with
     | some v=>runA E gl l zs is ⟨n,(d,v)::tm,ob,out,pa⟩
     | none=>none
    | false=>none
   | some false,some d=>match Nat.blt d n with
    | true=>runA E gl l zs is ⟨n,(d,.tup [])::tm,ob,out,pa⟩
    | false=>none
   | _,_=>none
  | none=>none
def chkA (l:List Oper) (Z:List (Nat×Id)) (S:List Nat):List Nat→Array Bool→Bool
 | [],_=>true
 | i::is,listed=>(waitsAll l S listed i&&zAll l Z (zsOf Z) listed i&&Region.free .any l.toArray listed i&&(Region.ready .any l.toArray listed).contains i)&&chkA l Z S is (listed.setIfInBounds i true)
def marks:List Nat→Array Bool→Array Bool
 | [],listed=>listed
 | i::is,listed=>marks is (listed.setIfInBounds i true)
def up:Nat→Nat→List Nat
 | _,0=>[]
 | i,k+1=>i::up (i+1) k
theorem DAny.run' {l:List Oper} {Z:List (Nat×Id)} {S:List Nat} {Q:St→Prop} {f:Nat}:∀(is:List Nat) {listed:Array Bool} {σ σ':St},chkA l Z S is listed=true→runA E gl l (zsOf Z) is σ=some σ' →
 DAny r P E gl l Z S Q f (marks is listed) σ'→DAny r P E gl l Z S Q (f+is.length) listed σ
 | [],listed,σ,σ',hc,hr,h=>by cases hr;exact h
 | i::is,listed,⟨n,tm,ob,out,pa⟩,σ',hc,hr,h=>by
  unfold chkA at hc
  simp only [Bool.and_eq_true] at hc
  obtain ⟨⟨⟨⟨h1,h2⟩,h3⟩,h4⟩,h5⟩:=hc
  unfold runA at hr
  split at hr
  ·rename_i o ho
   rw [opAt_eq] at ho
   split at hr
   ·rename_i d hg hd
    split at hr
    ·rename_i hn
     split at hr
     ·rename_i v hv
      exact DAny.take ho h1 _ h2 h3 h4 hg hd hn (fun ob' hz=>qd_ev hv hz) (DAny.run' is h5 hr h)
     ·cases hr
    ·cases hr
   ·rename_i d hg hd
    split at hr
    ·rename_i hn
     exact DAny.takeSkip ho h1 _ h2 h3 h4 hg hd hn (DAny.run' is h5 hr h)
    ·cases hr
   ·cases hr
  ·cases hr
theorem DAny.run {l:List Oper} {Z:List (Nat×Id)} {S:List Nat} {Q:St→Prop} {g:Nat} (f:Nat) (is:List Nat) {listed:Array Bool} {σ σ':St} (hc:chkA l Z S is listed=true) (hr:runA E gl l (zsOf Z) is σ=some σ')
 (h:DAny r P E gl l Z S Q f (marks is listed) σ') (hn:f+is.length=g:=by rfl):DAny r P E gl l Z S Q g listed σ:=hn▸DAny.run' is hc hr h
theorem SafeOps.ifD (d:Nat) {K:Type} {c:Bool} {A B ρ:K} {l rest:List Oper} {Q:Exit→St→Prop} {n:Nat} {tm:List (Nat×V)} {ob:List (Id×Obj)} {out:List (Nat×List (Nat×V))} {pa:Id} (h:(if c=true then A else B)=ρ) (hb:tget tm d=.bool c)
 (h1:c=true→A=ρ→SafeOps r P gl l rest Q ⟨n,(d,.bool true)::tm,ob,out,pa⟩) (h2:c=false→B=ρ→SafeOps r P gl l rest Q ⟨n,(d,.bool false)::tm,ob,out,pa⟩):SafeOps r P gl l rest Q ⟨n,tm,ob,out,pa⟩ :=
 SafeOps.split d hb (fun e=>h1 e (by rw [if_pos e] at h;exact h)) (fun e=>h2 e (by rw [if_neg (by rw [e];simp)] at h;exact h))
theorem DAny.ifD (d:Nat) {K:Type} {c:Bool} {A B ρ:K} {l:List Oper} {Z:List (Nat×Id)} {S:List Nat} {Q:St→Prop} {n f:Nat} {listed:Array Bool} {tm:List (Nat×V)} {ob:List (Id×Obj)} {out:List (Nat×List (Nat×V))} {pa:Id} (h:(if c=true then A else B)=ρ) (hb:tget tm d=.bool c)
 (h1:c=true→A=ρ→DAny r P E gl l Z S Q f listed ⟨n,(d,.bool true)::tm,ob,out,pa⟩) (h2:c=false→B=ρ→DAny r P E gl l Z S Q f listed ⟨n,(d,.bool false)::tm,ob,out,pa⟩):DAny r P E gl l Z S Q f listed ⟨n,tm,ob,out,pa⟩ :=
 DAny.split d hb (fun e=>h1 e (by rw [if_pos e] at h;exact h)) (fun e=>h2 e (by rw [if_neg (by rw [e];simp)] at h;exact h))
theorem SafeOps.eqv {l rest:List Oper} {Q:Exit→St→Prop} {σ τ:St} (he:Eqv σ τ) (h:SafeOps r P gl l rest Q σ):SafeOps r P gl l rest Q τ:=fun _ _ _ _ _ _ _ _ hs=>h _ _ _ _ _ _ _ _ (hs.eqv he.symm)
theorem SafeOps.unk (g:Nat) {c b:Bool} {d:Nat} {v:V} {l rest:List Oper} {Q:Exit→St→Prop} {n:Nat} {tm:List (Nat×V)} {ob:List (Id×Obj)} {out:List (Nat×List (Nat×V))} {pa:Id} (hb:tget tm g=.bool c) (hc:c=b)
 (h:SafeOps r P gl l rest Q ⟨n,(d,v)::tm,ob,out,pa⟩):SafeOps r P gl l rest Q ⟨n,(d,v)::(g,.bool b)::tm,ob,out,pa⟩ :=
 SafeOps.eqv (σ:=⟨n,(d,v)::tm,ob,out,pa⟩) (τ:=⟨n,(d,v)::(g,.bool b)::tm,ob,out,pa⟩) ⟨rfl,tget_cons (fun t=>by
  by_cases hd:g=t
  ·subst hd;subst hc
   simp [tget,Nat.beq_refl,hb]
  ·exact (tget_ne hd).symm),fun _=>rfl,rfl,rfl⟩ h
theorem SafeOps.bjoinL (m d g:Nat) {c b1 b0 b:Bool} {l rest:List Oper} {Q:Exit→St→Prop} {n:Nat} {tm:List (Nat×V)} {ob:List (Id×Obj)} {out:List (Nat×List (Nat×V))} {pa:Id} (hg:tget tm g=.bool c)
 (h1:c=true→SafeOps r P gl l (rest.drop m) Q ⟨n,(d,.bool b1)::(g,.bool true)::tm,ob,out,pa⟩→SafeOps r P gl l rest Q ⟨n,(g,.bool true)::tm,ob,out,pa⟩)
 (h0:c=false→SafeOps r P gl l (rest.drop m) Q ⟨n,(d,.bool b0)::(g,.bool false)::tm,ob,out,pa⟩→SafeOps r P gl l rest Q ⟨n,(g,.bool false)::tm,ob,out,pa⟩)
 (hb:b=(bif c then b1 else b0)) (H:SafeOps r P gl l (rest.drop m) Q ⟨n,(d,.bool b)::tm,ob,out,pa⟩):SafeOps r P gl l rest Q ⟨n,tm,ob,out,pa⟩ :=
 SafeOps.split g hg (fun e=>h1 e (SafeOps.unk g hg e (by subst hb;subst e;exact H))) (fun e=>h0 e (SafeOps.unk g hg e (by subst hb;subst e;exact H)))
end Go.AM
namespace Go.AM
open Go Go.RowKit
variable {r:Bool} {P:Program} {E:Env} {gl:List (Nat×List V)}
inductive Fr where
 | seq (r:Bool) (c:Code)
 | blk (id:Nat)
 | inl (r:Bool) (fn:Func) (d:Nat) (pa:AM.Id) (l rest:List Oper)
 | lp (K:St→Prop)
def sem (P:Program) (E:Env) (gl:List (Nat×List V)):List Fr→(Exit→St→Prop)→Exit→St→Prop
 | [],Q=>Q
 | .seq r c::s,Q=>thenQ (Safe r P gl c (sem P E gl s Q)) (sem P E gl s Q)
 | .blk id::s,Q=>blockQ id (sem P E gl s Q)
 | .inl r fn d pa l rest::s,Q=>inQ E gl fn d pa (SafeOps r P gl l rest (sem P E gl s Q))
 | .lp K::s,Q=>thenQ K (sem P E gl s Q)
inductive Ctl where
 | ops (r:Bool) (l rest:List Oper) (s:List Fr)
 | code (r:Bool) (c:Code) (s:List Fr)
 | out (e:Exit) (s:List Fr)
abbrev Ctl.goal (P:Program) (E:Env) (gl:List (Nat×List V)) (Q:Exit→St→Prop) (σ:St):Ctl→Prop
 | .ops r l rest s=>SafeOps r P gl l rest (sem P E gl s Q) σ
 | .code r c s=>Safe r P gl c (sem P E gl s Q) σ
 | .out e s=>sem P E gl s Q e σ
def adm1:Ctl→Option Ctl
 | .ops _ _ [] s=>some (.out .normal s)
 | .ops ..=>none
 | .code r c s=>match c with
  | .seq x y=>some (.code r x (.seq r y::s))
  | .skip=>some (.out .normal s)
  | .region _ ⟨l⟩ false=>match l.all noDefer with
   | true=>some (.ops r l l s)
   | false=>none
  | .block id c=>some (.code r c (.blk id::s))
  | .ret=>some (.out .ret s)
  | .exit id=>some (.out (.exit id) s)
  | _=>none
 | .out e s=>match s with
  | .seq r c::s=>match e with
   | .normal=>some (.code r c s)
   | .ret=>some (.out .ret s)
   | .exit i=>some (.out (.exit i) s)
   | _=>none
  | .blk id::s=>match e with
   | .normal=>some (.out .normal s)
   | .ret=>some (.out .ret s)
   | .exit i=>match Nat.beq i id with
    | true=>some (.out .normal s)
    | false=>some (.out (.exit i) s)
   | _=>none
  | .lp _::s=>match e with
   | .ret=>some (.out .ret s)
   | .exit i=>some (.out (.exit i) s)
   | _=>none
  | _=>none
theorem adm1_ok {c c':Ctl} (h:adm1 c=some c') {Q:Exit→St→Prop} {σ:St} (g:c'.goal P E gl Q σ):c.goal P E gl Q σ:=by
 unfold adm1 at h
 split at h
 ·cases h;exact SafeOps.nil g
 ·cases h
 ·split at h
  ·cases h;exact Safe.seq g
  ·cases h;exact Safe.skip g
  ·split at h
   ·rename_i hl;cases h;exact Safe.region g hl
   ·cases h
  ·cases h;exact Safe.block g
  ·cases h;exact Safe.ret g
  ·cases h;exact Safe.exit g
  ·cases h
 ·split at h
  ·split at h<;>first|(cases h;done)|(cases h;exact g)
  ·split at h
   ·cases h;exact g
   ·cases h;exact g
   ·split at h
    ·rename_i hb;cases h;simp only [Ctl.goal,sem,blockQ,hb];exact g
    ·rename_i hb;cases h;simp only [Ctl.goal,sem,blockQ,hb];exact g
   ·cases h
  ·split at h<;>first|(cases h;done)|(cases h;exact g)
  ·cases h
def adm:Nat→Ctl→Ctl
 | 0,c=>c
 | n+1,c=>match adm1 c with
  | some c'=>adm n c'
  | none=>c
theorem adm_ok:∀{n:Nat} {c:Ctl} {Q:Exit→St→Prop} {σ:St},(adm n c).goal P E gl Q σ→c.goal P E gl Q σ
 | 0,_,_,_,g=>g
 | n+1,c,Q,σ,g=>by
  unfold adm at g
  split at g
  ·rename_i h;exact adm1_ok h (adm_ok g)
  ·exact g
def rvF (E:Env) (gl:List (Nat×List V)) (tm:List (Nat×V)) (ob:List (Id×Obj)):List ResultVar→Option (List V)
 | []=>some []
 | .tmp t::q=>match rvF E gl tm ob q with
  | some vs=>some (tget tm t::vs)
  | none=>none
 | .cell x t::q=>match ety E t,rvF E gl tm ob q with
  | some d,some vs=>match cellsF gl [] ob d.size (tget tm x) with
   | some cs=>match mkV d.k.isAgg cs with
    | some v=>some (v::vs)
    | none=>none
   | none=>none
  | _,_=>none
theorem rvF_ok {tm:List (Nat×V)} {ob:List (Id×Obj)}:∀{rs:List ResultVar} {vs:List V},rvF E gl tm ob rs=some vs→RVs E gl tm ob rs vs
 | [],vs,h=>by cases h;exact .nil
 | .tmp t::q,vs,h=>by
  unfold rvF at h
  split at h
  ·rename_i h';cases h;exact .tmp rfl (rvF_ok h')
  ·cases h
 | .cell x t::q,vs,h=>by
  unfold rvF at h
  split at h
  ·rename_i d vs' hd h'
   split at h
   ·rename_i cs hc
    split at h
    ·rename_i v hm
     cases h
     exact .cell rfl hd (cellsF_at hc (.refl _ _)) hm (rvF_ok h')
    ·cases h
   ·cases h
  ·cases h
def isRet:Exit→Bool
 | .normal=>true
 | .ret=>true
 | _=>false
theorem isRet_or {e:Exit} (h:isRet e=true):e=.normal∨e=.ret:=by
 cases e with
 | normal=>exact .inl rfl
 | ret=>exact .inr rfl
 | _=>cases h
def step1 (E:Env) (gl:List (Nat×List V)):Ctl→St→Option (Ctl×St)
 | .ops r l rest s,σ=>match runO E gl l 1 rest σ with
  | some (rest',σ')=>some (.ops r l rest' s,σ')
  | none=>none
 | .code r c s,σ=>match c with
  | .cond x a b=>match ev σ.tm x with
   | .bool t=>match t with
    | true=>some (.code r a s,σ)
    | false=>some (.code r b s,σ)
   | _=>none
  | _=>none
 | .out e s,σ=>match s with
  | .inl r fn d pa l rest::s=>match isRet e,σ with
   | true,⟨_,tm,ob,(m,tm')::out,_⟩=>match rvF E gl tm ob fn.results.toList with
    | some vs=>match norm (oneV vs) with
     | some v=>some (.ops r l rest s,⟨m,(d,v)::tm',ob,out,pa⟩)
     | none=>none
    | none=>none
   | _,_=>none
  | _=>none
theorem step1_ok (hE:E.good P=true) {c c':Ctl} {σ σ':St} (h:step1 E gl c σ=some (c',σ')) {Q:Exit→St→Prop} (g:c'.goal P E gl Q σ'):c.goal P E gl Q σ:=by
 unfold step1 at h
 split at h
 ·split at h
  ·rename_i hr;cases h;exact SafeOps.run hE 1 hr g
  ·cases h
 ·split at h
  ·split at h
   ·rename_i t hv
    split at h
    ·cases h;exact Safe.cond (n:=σ.n) (tm:=σ.tm) (ob:=σ.ob) (out:=σ.out) (pa:=σ.pa) hv (fun _=>g) (fun e=>by cases e)
    ·cases h;exact Safe.cond (n:=σ.n) (tm:=σ.tm) (ob:=σ.ob) (out:=σ.out) (pa:=σ.pa) hv (fun e=>by cases e) (fun _=>g)
   ·cases h
  ·cases h
 ·split at h
  ·split at h
   ·rename_i he
    split at h
    ·rename_i vs hv
     split at h
     ·rename_i v hn
      cases h
      refine ⟨?_,_,_,_,vs,rfl,rvF_ok hv,?_⟩
      ·exact isRet_or he
      ·rw [←norm_eq hn];exact g
     ·cases h
    ·cases h
   ·cases h
  ·cases h
def go (E:Env) (gl:List (Nat×List V)):Nat→Ctl→St→Option (Ctl×St)
 | 0,c,σ=>some (adm 99 c,σ)
 | k+1,c,σ=>match step1 E gl (adm 99 c) σ with
  | some (c',σ')=>go E gl k c' σ'
  | none=>none
theorem go_ok (hE:E.good P=true):∀{k:Nat} {c c':Ctl} {σ σ':St},go E gl k c σ=some (c',σ')→∀{Q:Exit→St→Prop},c'.goal P E gl Q σ'→c.goal P E gl Q σ
 | 0,c,c',σ,σ',h,Q,g=>by cases h;exact adm_ok g
 | k+1,c,c',σ,σ',h,Q,g=>by
  unfold go at h
  split at h
  ·rename_i h1;exact adm_ok (step1_ok hE h1 (go_ok hE h g))
  ·cases h
def goN (E:Env) (gl:List (Nat×List V)):Nat→Ctl→St→Option (Ctl×St)
 | 0,c,σ=>some (c,σ)
 | k+1,c,σ=>match step1 E gl (adm 99 c) σ with
  | some (c',σ')=>goN E gl k c' σ'
  | none=>none
theorem goN_ok (hE:E.good P=true):∀{k:Nat} {c c':Ctl} {σ σ':St},goN E gl k c σ=some (c',σ')→∀{Q:Exit→St→Prop},c'.goal P E gl Q σ'→c.goal P E gl Q σ
 | 0,c,c',σ,σ',h,Q,g=>by cases h;exact g
 | k+1,c,c',σ,σ',h,Q,g=>by
  unfold goN at h
  split at h
  ·rename_i h1;exact adm_ok (step1_ok hE h1 (goN_ok hE h g))
  ·cases h
def admO:Nat→Ctl→Ctl
 | n+1,.out e s=>match adm1 (.out e s) with
  | some c'=>admO n c'
  | none=>.out e s
 | _,c=>c
theorem admO_ok:∀{n:Nat} {c:Ctl} {Q:Exit→St→Prop} {σ:St},(admO n c).goal P E gl Q σ→c.goal P E gl Q σ
 | 0,_,_,_,g=>g
 | n+1,.ops ..,_,_,g=>g
 | n+1,.code ..,_,_,g=>g
 | n+1,.out e s,Q,σ,g=>by
  unfold admO at g
  split at g
  ·rename_i h;exact adm1_ok h (admO_ok g)
  ·exact g
class GoodE (P:Program) (E:outParam Env):Prop where
 h:E.good P=true
theorem SafeOps.go [hE:GoodE P E] (k:Nat) {l rest:List Oper} {s:List Fr} {Q:Exit→St→Prop} {σ σ':St} {c':Ctl} (g:c'.goal P E gl Q σ') (hr:go E gl k (.ops r l rest s) σ=some (c',σ'):=by exact rfl):SafeOps r P gl l rest (sem P E gl s Q) σ:=go_ok hE.h hr g
theorem Safe.go [hE:GoodE P E] (k:Nat) {c:Code} {s:List Fr} {Q:Exit→St→Prop} {σ σ':St} {c':Ctl} (g:c'.goal P E gl Q σ') (hr:go E gl k (.code r c s) σ=some (c',σ'):=by exact rfl):Safe r P gl c (sem P E gl s Q) σ:=go_ok hE.h hr g
theorem sem.go [hE:GoodE P E] (k:Nat) {e:Exit} {s:List Fr} {Q:Exit→St→Prop} {σ σ':St} {c':Ctl} (g:c'.goal P E gl Q σ') (hr:AM.go E gl k (.out e s) σ=some (c',σ'):=by exact rfl):sem P E gl s Q e σ:=go_ok hE.h hr g
theorem Safe.go0 [hE:GoodE P E] (k:Nat) {c:Code} {Q:Exit→St→Prop} {σ σ':St} {c':Ctl} (g:c'.goal P E gl Q σ') (hr:AM.go E gl k (.code r c []) σ=some (c',σ'):=by exact rfl):Safe r P gl c Q σ:=go_ok hE.h hr g
theorem SC.go [hE:GoodE P E] {f:FuncId} {fn:Func} {c:Code} {args:List V} {res:V} {c':Ctl} {σ':St} (hf:P.funcs[f]?=some fn) (hc:∀(xs:Array Value) (w:World),(callFunc f xs).run P w=.ok (.enter f xs) w)
 (k:Nat) (g:c'.goal P E gl (retQ E gl fn res) σ') (hb:fn.body=some c:=by exact rfl) (hn:Nat.ble args.length fn.ntmps=true:=by exact rfl) (hr:AM.go E gl k (.code false c []) ⟨fn.ntmps,initTm 0 args,[],[],[]⟩=some (c',σ'):=by exact rfl):SC P gl f args res :=
 SC.of hE.h hf hb hc hn (go_ok (Q:=retQ E gl fn res) hE.h hr g)
def after (id:Nat):List Fr→List Fr
 | .blk i::s=>match Nat.beq i id with
  | true=>s
  | false=>after id s
 | .seq ..::s=>after id s
 | _=>[]
theorem Safe.joinB (id:Nat) {ι:Type} (F:ι→Prop) (τ:ι→St) {x:Code} {s:List Fr} {ctl:Ctl} {Q:Exit→St→Prop} {σ:St} (hk:∀i,F i→ctl.goal P E gl Q (τ i))
 (hx:(∀i,F i→ctl.goal P E gl Q (τ i))→Safe r P gl x (sem P E gl s Q) σ) (_ha:adm 99 (.out .normal (after id s))=ctl:=by exact rfl):Safe r P gl x (sem P E gl s Q) σ:=hx hk
theorem SafeOps.joinB (id:Nat) {ι:Type} (F:ι→Prop) (τ:ι→St) {l rest:List Oper} {s:List Fr} {ctl:Ctl} {Q:Exit→St→Prop} {σ:St} (hk:∀i,F i→ctl.goal P E gl Q (τ i))
 (hx:(∀i,F i→ctl.goal P E gl Q (τ i))→SafeOps r P gl l rest (sem P E gl s Q) σ) (_ha:adm 99 (.out .normal (after id s))=ctl:=by exact rfl):SafeOps r P gl l rest (sem P E gl s Q) σ:=hx hk
theorem SafeOps.joinR (m:Nat) {ι:Type} (F:ι→Prop) (τ:ι→St) {l rest rest':List Oper} {s:List Fr} {Q:Exit→St→Prop} {σ:St} (hk:∀i,F i→SafeOps r P gl l rest' (sem P E gl s Q) (τ i))
 (hx:(∀i,F i→SafeOps r P gl l rest' (sem P E gl s Q) (τ i))→SafeOps r P gl l rest (sem P E gl s Q) σ) (_ha:rest.drop m=rest':=by exact rfl):SafeOps r P gl l rest (sem P E gl s Q) σ:=hx hk
theorem Safe.ifC {K:Type} {b:Bool} {A B ρ:K} {c:Operand} {x y:Code} {Q:Exit→St→Prop} {n:Nat} {tm:List (Nat×V)} {ob:List (Id×Obj)} {out:List (Nat×List (Nat×V))} {pa:Id} (h:(if b=true then A else B)=ρ)
 (h1:b=true→A=ρ→Safe r P gl x Q ⟨n,tm,ob,out,pa⟩) (h2:b=false→B=ρ→Safe r P gl y Q ⟨n,tm,ob,out,pa⟩) (hb:ev tm c=.bool b:=by exact rfl):Safe r P gl (.cond c x y) Q ⟨n,tm,ob,out,pa⟩ :=
 Safe.cond hb (fun e=>h1 e (by rw [if_pos e] at h;exact h)) (fun e=>h2 e (by rw [if_neg (by rw [e];simp)] at h;exact h))
def inT:Nat→List V→Option (List (Nat×V))
 | _,[]=>some []
 | k,v::t=>match force v,inT (k+1) t with
  | some u,some q=>some ((k,u)::q)
  | _,_=>none
theorem inT_eq:∀{k:Nat} {vs:List V} {q:List (Nat×V)},inT k vs=some q→q=initTm k vs
 | _,[],q,h=>by cases h;rfl
 | k,v::t,q,h=>by
  unfold inT at h
  split at h
  ·rename_i u q' h1 h2;cases h;rw [inT_eq h2,force_eq h1];rfl
  ·cases h
theorem SafeOps.inl [hE:GoodE P E] {l rest:List Oper} {op:Oper} {s:List Fr} {Q:Exit→St→Prop} {n d:Nat} {tm tm0:List (Nat×V)} {ob:List (Id×Obj)} {out:List (Nat×List (Nat×V))} {pa pb:Id}
 {fx:Operand} {args:Array Operand} {tys:Array Nat} {f:FuncId} {caps:List V} {fn:Func} {c:Code} (hf:P.funcs[f]?=some fn) (hc:∀(xs:Array Value) (w:World),(callFunc f xs).run P w=.ok (.enter f xs) w) (k:Nat) {σ':St} {c':Ctl} (g:c'.goal P E gl Q σ')
 (hg:gd l tm op=some true:=by exact rfl) (hop:op.op=.call ⟨.value fx,args,tys⟩:=by exact rfl) (hd:op.dst=some d:=by exact rfl) (hn:Nat.blt d n=true:=by exact rfl) (hfx:ev tm fx=.fn f caps:=by exact rfl) (hb:fn.body=some c:=by exact rfl)
 (hl:Nat.ble (evs tm args.toList++caps).length fn.ntmps=true:=by exact rfl) (hi:inT 0 (evs tm args.toList++caps)=some tm0:=by exact rfl) (hp:snoc pa d=some pb:=by exact rfl)
 (hr:AM.go E gl k (.code false c (.inl r fn d pa l rest::s)) ⟨fn.ntmps,tm0,ob,(n,tm)::out,pb⟩=some (c',σ'):=by exact rfl):SafeOps r P gl l (op::rest) (sem P E gl s Q) ⟨n,tm,ob,out,pa⟩ :=
 SafeOps.inline hE.h hg hop hd hn hfx hf hb hc hl (by rw [←inT_eq hi,←snoc_eq hp];exact go_ok (Q:=Q) hE.h hr g)
theorem retG {fn:Func} {res:V} {vs:List V} {n:Nat} {tm:List (Nat×V)} {ob:List (Id×Obj)} {out:List (Nat×List (Nat×V))} {pa:Id} {e:Exit} (h:∃ids,Res ob (oneV vs) res ids∧ids.Nodup)
 (hv:rvF E gl tm ob fn.results.toList=some vs:=by exact rfl) (he:isRet e=true:=by exact rfl):sem P E gl [] (retQ E gl fn res) e ⟨n,tm,ob,out,pa⟩:=by
 obtain ⟨ids,h1,h2⟩:=h
 exact ⟨isRet_or he,vs,ids,rvF_ok hv,h1,h2⟩
theorem retF {fn:Func} {res:V} {vs:List V} {n:Nat} {tm:List (Nat×V)} {ob:List (Id×Obj)} {out:List (Nat×List (Nat×V))} {pa:Id} {e:Exit}
 (hv:rvF E gl tm ob fn.results.toList=some vs:=by exact rfl) (hr:oneV vs=res:=by exact rfl) (h:res.free=true:=by exact rfl) (he:isRet e=true:=by exact rfl):sem P E gl [] (retQ E gl fn res) e ⟨n,tm,ob,out,pa⟩:=by
 subst hr
 exact ⟨isRet_or he,vs,[],rvF_ok hv,.free h,.nil⟩
theorem SafeOps.goN [hE:GoodE P E] (k:Nat) {l rest:List Oper} {s:List Fr} {Q:Exit→St→Prop} {σ σ':St} {c':Ctl} (g:c'.goal P E gl Q σ') (hr:goN E gl k (.ops r l rest s) σ=some (c',σ'):=by exact rfl):SafeOps r P gl l rest (sem P E gl s Q) σ:=goN_ok hE.h hr g
theorem Safe.goN [hE:GoodE P E] (k:Nat) {c:Code} {s:List Fr} {Q:Exit→St→Prop} {σ σ':St} {c':Ctl} (g:c'.goal P E gl Q σ') (hr:AM.goN E gl k (.code r c s) σ=some (c',σ'):=by exact rfl):Safe r P gl c (sem P E gl s Q) σ:=goN_ok hE.h hr g
theorem sem.goN [hE:GoodE P E] (k:Nat) {e:Exit} {s:List Fr} {Q:Exit→St→Prop} {σ σ':St} {c':Ctl} (g:c'.goal P E gl Q σ') (hr:AM.goN E gl k (.out e s) σ=some (c',σ'):=by exact rfl):sem P E gl s Q e σ:=goN_ok hE.h hr g
theorem sem.pop {e:Exit} {s:List Fr} {Q:Exit→St→Prop} {σ:St} {c':Ctl} (g:c'.goal P E gl Q σ) (hr:admO 99 (.out e s)=c':=by exact rfl):sem P E gl s Q e σ:=admO_ok (n:=99) (c:=.out e s) (by rw [hr];exact g)
theorem SafeOps.go0 [hE:GoodE P E] (k:Nat) {l rest:List Oper} {Q:Exit→St→Prop} {σ σ':St} {c':Ctl} (g:c'.goal P E gl Q σ') (hr:AM.go E gl k (.ops r l rest []) σ=some (c',σ'):=by exact rfl):SafeOps r P gl l rest Q σ:=go_ok hE.h hr g
theorem lpK {K:St→Prop} {s:List Fr} {Q:Exit→St→Prop} {σ:St} (h:K σ):sem P E gl (.lp K::s) Q .normal σ:=h
theorem Safe.loopS {S K:Type} {step:S→Option (S ⊕ K)} {s0:S} {ρ:K} {c:Code} {s:List Fr} {Q:Exit→St→Prop} {σ:St} (τ:S→St) (h:whileO step s0=some ρ) (hc:Gets gl σ (τ s0))
 (round:∀x o,step x=some o→(∀k,o=.inr k→k=ρ)→Safe r P gl c (sem P E gl (.lp (fun σ'=>∃x',o=.inl x'∧Gets gl σ' (τ x'))::s) Q) (τ x)):Safe r P gl (.loop c) (sem P E gl s Q) σ :=
 Safe.loopW τ h hc round
theorem Safe.loopMS {c:Code} {Q:Exit→St→Prop} {fs:List Fr} {σ:St} {κ β:Type} {m:List (κ×β)} {f:κ→β→Option Bool} {ms:Array MapEntry} {clock:Nat} {b:Bool} (hb:anyO f m=some b) (hl:ms.size=m.length) (hst:Stamps ms clock) (τ:Array Nat→St) (hc:Gets gl σ (τ #[]))
 (round:∀seen:Array Nat,(∀i (hi:i < m.length),seen.contains (bornAt ms i)=true→f m[i].1 m[i].2=some false) →
  Safe r P gl c (sem P E gl (.lp (fun σ'=>∃i,∃hi:i < m.length,∃k v,m[i]=(k,v)∧seen.contains (bornAt ms i)=false∧f k v=some false∧Gets gl σ' (τ (seen.push (bornAt ms i))))::fs) Q) (τ seen)):Safe r P gl (.loop c) (sem P E gl fs Q) σ :=
 Safe.loopM hb hl hst τ hc round
theorem SafeOps.ungm {l rest:List Oper} {Q:Exit→St→Prop} {n:Nat} {tm:List (Nat×V)} {ob:List (Id×Obj)} {out:List (Nat×List (Nat×V))} {pa o:Id} {es:List (V×V)} {ms:Array MapEntry} {clock:Nat} (o':Id) (ho':o=o') (ho:oget ob o=some (.gmap es ms clock))
 (h:SafeOps r P gl l rest Q ⟨n,tm,(o,.map es)::ob,out,pa⟩):SafeOps r P gl l rest Q ⟨n,tm,ob,out,pa⟩:=fun w0 pr0 ow a ao w B pr hsim=>by
 rcases hsim.obs _ _ ho with ⟨g1,_⟩|⟨_,⟨bo,hBo,⟨q1,q2,q3,q4,q5⟩,_⟩|⟨_,_,_,e⟩⟩
 ·cases g1
 ·exact h _ _ _ _ _ _ _ _ (hsim.upd ho (x':=.map es) (by simp) (by simp) hBo q1 (.same w bo.b) ⟨q1,q2,ms,clock,q3,q4,q5⟩)
 ·cases e
end Go.AM
namespace Go.AM
open Go Go.RowKit
variable {r:Bool} {P:Program} {E:Env} {gl:List (Nat×List V)}
def resT:List (Nat×V)→List (Nat×V)→List (Nat×V)
 | [],_=>[]
 | (d,_)::k,tm=>(d,tget tm d)::resT k tm
theorem resT_up {ob:List (Id×Obj)} {tm:List (Nat×V)}:∀{k:List (Nat×V)},resT k tm=k→upT ob k tm
 | [],_=>trivial
 | (d,v)::k,h=>by
  simp only [resT,List.cons.injEq,Prod.mk.injEq,true_and] at h
  exact ⟨by rw [h.1];exact .refl _,resT_up h.2⟩
def resO:List (Id×Obj)→List (Id×Obj)→Option (List (Id×Obj))
 | [],_=>some []
 | (o,_)::k,ob=>match oget ob o,resO k ob with
  | some y,some s=>some ((o,y)::s)
  | _,_=>none
theorem resO_up {ob:List (Id×Obj)}:∀{k:List (Id×Obj)},resO k ob=some k→upOb ob k
 | [],_=>trivial
 | (o,x)::k,h=>by
  unfold resO at h
  split at h
  ·rename_i y s h1 h2
   simp only [Option.some.injEq,List.cons.injEq,Prod.mk.injEq,true_and] at h
   rw [h.1] at h1;rw [h.2] at h2
   exact ⟨⟨x,h1,.refl _⟩,resO_up h2⟩
  ·cases h
def resU:List (Nat×List (Nat×V))→List (Nat×List (Nat×V))→Option (List (Nat×List (Nat×V)))
 | [],[]=>some []
 | (_,k)::r,(m,tm)::s=>match resU r s with
  | some q=>some ((m,resT k tm)::q)
  | none=>none
 | _,_=>none
theorem resU_up {ob:List (Id×Obj)}:∀{k s:List (Nat×List (Nat×V))},resU k s=some k→upOut ob k s
 | [],[],_=>trivial
 | [],_::_,h=>by cases h
 | _::_,[],h=>by cases h
 | (n,k)::r,(m,tm)::s,h=>by
  unfold resU at h
  split at h
  ·rename_i q h2
   simp only [Option.some.injEq,List.cons.injEq,Prod.mk.injEq] at h
   rw [h.2] at h2
   exact ⟨h.1.1.symm,resT_up h.1.2,resU_up h2⟩
  ·cases h
theorem covA {σ τ:St} (h3:resT τ.tm σ.tm=τ.tm:=by exact rfl) (h4:resO τ.ob σ.ob=some τ.ob:=by exact rfl) (h5:resU τ.out σ.out=some τ.out:=by exact rfl)
 (h1:σ.n=τ.n:=by exact rfl) (h2:σ.pa=τ.pa:=by exact rfl) (h6:(tmWithin τ.ob τ.tm&&obWithin τ.ob τ.ob&&outWithin τ.ob τ.out)=true:=by exact rfl):Gets gl σ τ:=.cov ⟨h1,h2,resT_up h3,resO_up h4,resU_up h5,h6⟩
theorem runO_rest {l:List Oper}:∀{k:Nat} {rest rest':List Oper} {σ σ':St},runO E gl l k rest σ=some (rest',σ')→rest'=rest.drop k
 | 0,rest,rest',σ,σ',h=>by cases h;rfl
 | k+1,[],rest',σ,σ',h=>by cases h
 | k+1,o::rest,rest',⟨n,tm,ob,out,pa⟩,σ',h=>by
  unfold runO at h
  repeat' split at h
  all_goals first
   | cases h;done
   | (rw [List.drop_succ_cons];exact runO_rest h)
theorem SafeOps.bjA [hE:GoodE P E] (m d g:Nat) {c b1:Bool} {l rest rest':List Oper} {Q:Exit→St→Prop} {n:Nat} {tm tm1 tm0:List (Nat×V)} {ob:List (Id×Obj)} {out:List (Nat×List (Nat×V))} {pa:Id}
 (H:SafeOps r P gl l rest' Q ⟨n,(d,.bool (c&&b1))::tm,ob,out,pa⟩) (hg:tget tm g=.bool c:=by exact rfl)
 (h1:runO E gl l m rest ⟨n,(g,.bool true)::tm,ob,out,pa⟩=some (rest',⟨n,tm1,ob,out,pa⟩):=by exact rfl) (h0:runO E gl l m rest ⟨n,(g,.bool false)::tm,ob,out,pa⟩=some (rest',⟨n,tm0,ob,out,pa⟩):=by exact rfl)
 (e1:tget tm1 d=.bool b1:=by exact rfl) (e0:tget tm0 d=.bool false:=by exact rfl) (m1:tm1.drop m=(g,.bool true)::tm:=by exact rfl) (m0:tm0.drop m=(g,.bool false)::tm:=by exact rfl)
 (g1:gone ((g,.bool true)::tm) d (tm1.take m)=true:=by exact rfl) (g0:gone ((g,.bool false)::tm) d (tm0.take m)=true:=by exact rfl):SafeOps r P gl l rest Q ⟨n,tm,ob,out,pa⟩:=by
 have hr:=runO_rest h1
 subst hr
 exact SafeOps.bjoinL m d g hg (b:=c&&b1) (b1:=b1) (b0:=false) (fun _ K=>SafeOps.run hE.h m h1 (SafeOps.drop' m m1 e1 g1 K)) (fun _ K=>SafeOps.run hE.h m h0 (SafeOps.drop' m m0 e0 g0 K)) (by cases c<;>rfl) H
theorem SafeOps.bjO [hE:GoodE P E] (m d g:Nat) {c b0:Bool} {l rest rest':List Oper} {Q:Exit→St→Prop} {n:Nat} {tm tm1 tm0:List (Nat×V)} {ob:List (Id×Obj)} {out:List (Nat×List (Nat×V))} {pa:Id}
 (H:SafeOps r P gl l rest' Q ⟨n,(d,.bool (c||b0))::tm,ob,out,pa⟩) (hg:tget tm g=.bool c:=by exact rfl)
 (h1:runO E gl l m rest ⟨n,(g,.bool true)::tm,ob,out,pa⟩=some (rest',⟨n,tm1,ob,out,pa⟩):=by exact rfl) (h0:runO E gl l m rest ⟨n,(g,.bool false)::tm,ob,out,pa⟩=some (rest',⟨n,tm0,ob,out,pa⟩):=by exact rfl)
 (e1:tget tm1 d=.bool true:=by exact rfl) (e0:tget tm0 d=.bool b0:=by exact rfl) (m1:tm1.drop m=(g,.bool true)::tm:=by exact rfl) (m0:tm0.drop m=(g,.bool false)::tm:=by exact rfl)
 (g1:gone ((g,.bool true)::tm) d (tm1.take m)=true:=by exact rfl) (g0:gone ((g,.bool false)::tm) d (tm0.take m)=true:=by exact rfl):SafeOps r P gl l rest Q ⟨n,tm,ob,out,pa⟩:=by
 have hr:=runO_rest h1
 subst hr
 exact SafeOps.bjoinL m d g hg (b:=c||b0) (b1:=true) (b0:=b0) (fun _ K=>SafeOps.run hE.h m h1 (SafeOps.drop' m m1 e1 g1 K)) (fun _ K=>SafeOps.run hE.h m h0 (SafeOps.drop' m m0 e0 g0 K)) (by cases c<;>rfl) H
theorem sto_in {tm:List (Nat×V)} {ob:List (Id×Obj)} {t:Nat} {x y:Operand} {o:Id} {z:Obj} (hs:sto E tm ob t x y=some (o,z)) :
 ∃d us,ety E t=some d∧(ev tm y).cells?=some us∧Nat.beq us.length d.size=true∧V.ones us=true∧StoreAt ob (ev tm x) us o z:=by
 unfold sto at hs
 split at hs
 ·rename_i d us ht hu
  split at hs
  ·rename_i h1 h2
   split at hs
   ·rename_i q off hx
    split at hs
    ·rename_i cells ho
     split at hs
     ·rename_i hl
      split at hs
      ·rename_i ws hw
       cases hs
       rw [spine_eq hw]
       exact ⟨d,us,ht,hu,h1,h2,by rw [hx];exact .box ho hl⟩
      ·cases hs
     ·cases hs
    ·cases hs
   ·cases hs
  ·cases hs
 ·cases hs
theorem DAny.sto [hE:GoodE P E] (i:Nat) {l:List Oper} {Z:List (Nat×Id)} {S:List Nat} {Q:St→Prop} {f n t:Nat} {oi:Oper} {x y:Operand} {listed:Array Bool} {tm:List (Nat×V)} {ob:List (Id×Obj)} {out:List (Nat×List (Nat×V))} {pa o:Id} {z:Obj}
 (h:DAny r P E gl l Z S Q f (listed.setIfInBounds i true) ⟨n,tm,(o,z)::ob,out,pa⟩) (hi:opAt l i=some oi:=by exact rfl) (hop:oi.op=.store t x y:=by exact rfl) (hs:AM.sto E tm ob t x y=some (o,z):=by exact rfl) (hr:Region.ready .any l.toArray listed=[i]:=by kernel_rfl) (hd:oi.dst=none:=by exact rfl)
 (hg:gd l tm oi=some true:=by exact rfl) (hz:(zof Z i).any (idEq o)=true:=by exact rfl):DAny r P E gl l Z S Q (f+1) listed ⟨n,tm,ob,out,pa⟩:=by
 obtain ⟨d,us,h1,h2,h3,h4,h5⟩:=sto_in hs
 exact DAny.only (by rw [←opAt_eq];exact hi) hr (.store hg hop hd h1 h2 h3 h4 h5 hz h)
def natsO:List Nat→Option (List Nat)
 | []=>some []
 | a::t=>match natsO t with
  | some s=>some (a::s)
  | none=>none
theorem natsO_eq:∀{l s:List Nat},natsO l=some s→s=l
 | [],s,h=>by cases h;rfl
 | a::t,s,h=>by
  unfold natsO at h
  split at h
  ·rename_i s' h';cases h;rw [natsO_eq h']
  ·cases h
def mapD (f:V→Option V):List V→Option (List V)
 | []=>some []
 | a::t=>match f a,mapD f t with
  | some b,some s=>some (b::s)
  | _,_=>none
theorem mapD_eq {f:V→Option V} (hf:∀{v u:V},f v=some u→u=v):∀{l s:List V},mapD f l=some s→s=l
 | [],s,h=>by cases h;rfl
 | a::t,s,h=>by
  unfold mapD at h
  split at h
  ·rename_i b s' h1 h2;cases h;rw [hf h1,mapD_eq hf h2]
  ·cases h
def deep:Nat→V→Option V
 | 0,v=>force v
 | n+1,v=>match v with
  | .agg cs=>match mapD (deep n) cs with
   | some us=>some (.agg us)
   | none=>none
  | .tup cs=>match mapD (deep n) cs with
   | some us=>some (.tup us)
   | none=>none
  | .ref o row len=>match natsO o with
   | some q=>some (.ref q row len)
   | none=>none
  | v=>force v
theorem deep_eq:∀{n:Nat} {v u:V},deep n v=some u→u=v
 | 0,v,u,h=>force_eq h
 | n+1,v,u,h=>by
  unfold deep at h
  split at h
  ·split at h
   ·rename_i hs;cases h;rw [mapD_eq deep_eq hs]
   ·cases h
  ·split at h
   ·rename_i hs;cases h;rw [mapD_eq deep_eq hs]
   ·cases h
  ·split at h
   ·rename_i hs;cases h;rw [natsO_eq hs]
   ·cases h
  ·exact force_eq h
def appO:List (Id×Obj)→List (Id×Obj)→Option (List (Id×Obj))
 | [],ob=>some ob
 | (k,.rows s rs fz)::t,ob=>match natsO k,appO t ob with
  | some q,some u=>some ((q,.rows s rs fz)::u)
  | _,_=>none
 | _,_=>none
theorem appO_eq:∀{l ob s:List (Id×Obj)},appO l ob=some s→s=l++ob
 | [],ob,s,h=>by cases h;rfl
 | (k,x)::t,ob,s,h=>by
  unfold appO at h
  split at h
  ·rename_i h0;cases h0
  ·rename_i h0
   split at h
   ·rename_i q u h1 h2;cases h;cases h0;rw [natsO_eq h1,appO_eq h2];rfl
   ·cases h
  ·cases h
theorem SafeOps.cP [hE:GoodE P E] {l rest:List Oper} {o:Oper} {Q:Exit→St→Prop} {n d k:Nat} {tm:List (Nat×V)} {ob nw ob1:List (Id×Obj)} {out:List (Nat×List (Nat×V))} {pa:Id} {fx:Operand} {args:Array Operand} {tys:Array Nat} {f:FuncId} {caps us:List V} {res v v1:V}
 (hs:SC P gl f us res) (h:SafeOps r P gl l rest Q ⟨n,(d,v1)::tm,ob1,out,pa⟩) (hop:o.op=.call ⟨.value fx,args,tys⟩:=by exact rfl) (hd:o.dst=some d:=by exact rfl) (hg:gd l tm o=some true:=by exact rfl) (hn:Nat.blt d n=true:=by exact rfl)
 (hf:ev tm fx=.fn f caps:=by exact rfl) (hu:evs tm args.toList++caps=us:=by exact rfl) (hfr:V.free.frees us=true:=by exact rfl) (hr:fl (pa++[d]) 0 res=(v,nw,k):=by exact rfl) (hv:deep 3 v=some v1:=by exact rfl) (hw:appO nw ob=some ob1:=by exact rfl) (hfs:fresh ob nw=true:=by exact rfl) :
 SafeOps r P gl l (o::rest) Q ⟨n,tm,ob,out,pa⟩:=by
 subst hu
 rw [deep_eq hv,appO_eq hw] at h
 exact SafeOps.quiet hE.h hg hd hn (by rw [hop];exact .callP hf hfr hs hr) hfs h
theorem Snap.boxL {ob:List (Id×Obj)} {o:Id} {off m:Nat} {cells us:List V} (h:oget ob o=some (.box cells)) (hl:cells.length=m) (hc:Snaps ob cells us):Snap ob (.ptr o 0 off) (.spt m [us] 0 off):=hl▸.box h hc
theorem Snap.brefL {ob:List (Id×Obj)} {o:Id} {off s len:Nat} {cells us:List V} {rows:List (List V)} (h:oget ob o=some (.box cells)) (hc:cutV cells off (len*s)=some us) (hr:chunkV s len us=rows) (hf:V.free.frees us=true):Snap ob (.bref o off s len) (.sl s rows):=hr▸.bref h hc hf
theorem SafeOps.cS [hE:GoodE P E] {l rest:List Oper} {o:Oper} {Q:Exit→St→Prop} {n d k:Nat} {tm:List (Nat×V)} {ob nw ob1:List (Id×Obj)} {out:List (Nat×List (Nat×V))} {pa:Id} {fx:Operand} {args:Array Operand} {tys:Array Nat} {f:FuncId} {caps us vs:List V} {res v v1:V}
 (hs:SC P gl f us res) (h:SafeOps r P gl l rest Q ⟨n,(d,v1)::tm,ob1,out,pa⟩) (hop:o.op=.call ⟨.value fx,args,tys⟩:=by exact rfl) (hd:o.dst=some d:=by exact rfl) (hg:gd l tm o=some true:=by exact rfl) (hn:Nat.blt d n=true:=by exact rfl)
 (hf:ev tm fx=.fn f caps:=by exact rfl) (hu:spine (evs tm args.toList++caps)=some vs:=by exact rfl) (hsn:Snaps ob vs us:=by repeat first|exact .nil|with_reducible exact .free rfl|refine .cons ?_ ?_|exact .free rfl|exact .full rfl rfl|exact .nils _|exact .emp _|exact .map rfl|exact .brefL rfl rfl rfl rfl|refine .boxL rfl rfl ?_|refine .agg ?_|refine .fn ?_)
 (hns:NoSl res:=by repeat first|exact .nil|exact .plain rfl|refine .cons ?_ ?_|refine .tupL ?_|refine .aggL ?_|exact .ownM (fun _=>rfl)) (hr:fl (pa++[d]) 0 res=(v,nw,k):=by exact rfl) (hv:deep 3 v=some v1:=by exact rfl) (hw:appO nw ob=some ob1:=by exact rfl) (hfs:fresh ob nw=true:=by exact rfl) :
 SafeOps r P gl l (o::rest) Q ⟨n,tm,ob,out,pa⟩:=by
 rw [spine_eq hu] at hsn
 rw [deep_eq hv,appO_eq hw] at h
 exact SafeOps.quiet hE.h hg hd hn (by rw [hop];exact .callS hf hsn hs hns hr) hfs h
theorem DAny.cP {l:List Oper} {Z:List (Nat×Id)} {S:List Nat} {Q:St→Prop} {o:Oper} {g n d k:Nat} {listed:Array Bool} {tm:List (Nat×V)} {ob:List (Id×Obj)} {out:List (Nat×List (Nat×V))} {pa:Id} {fx:Operand} {args:Array Operand} {tys:Array Nat} {f:FuncId} {caps us:List V} {res v v1:V}
 (hs:SC P gl f us res) (i:Nat) (h:DAny r P E gl l Z S Q g (listed.setIfInBounds i true) ⟨n,(d,v1)::tm,ob,out,pa⟩) (hi:opAt l i=some o:=by exact rfl) (hop:o.op=.call ⟨.value fx,args,tys⟩:=by exact rfl) (hd:o.dst=some d:=by exact rfl) (hg:gd l tm o=some true:=by exact rfl) (hn:Nat.blt d n=true:=by exact rfl)
 (hf:ev tm fx=.fn f caps:=by exact rfl) (hu:evs tm args.toList++caps=us:=by exact rfl) (hfr:V.free.frees us=true:=by exact rfl) (hr:fl (pa++[d]) 0 res=(v,[],k):=by exact rfl) (hv:deep 3 v=some v1:=by exact rfl) (hc:chkA l Z S [i] listed=true:=by kernel_rfl):DAny r P E gl l Z S Q (g+1) listed ⟨n,tm,ob,out,pa⟩:=by
 subst hu
 rw [deep_eq hv] at h
 simp only [chkA,Bool.and_eq_true] at hc
 obtain ⟨⟨⟨⟨h1,h2⟩,h3⟩,h4⟩,_⟩:=hc
 exact DAny.take (by rw [←opAt_eq];exact hi) h1 _ h2 h3 h4 hg hd hn (fun ob' _=>by rw [hop];exact .callP hf hfr hs hr) h
theorem upsB {cells cells':List V} {ob:List (Id×Obj)} {n:Nat} {tm:List (Nat×V)} {out:List (Nat×List (Nat×V))} {pa:Id} {o:Id} (ho:oget ob o=some (.box cells)) (hu:Ups ob cells cells') {w0:World} {pr0 ow:Nat→Prop} {a:Act} {ao:List (Array Value)} {w:World} {B:BM} {pr:Nat→Prop}
 (hs:Sim gl w0 pr0 ow ⟨n,tm,ob,out,pa⟩ a ao w B pr):Sim gl w0 pr0 ow ⟨n,tm,(o,.box cells')::ob,out,pa⟩ a ao w B pr:=by
 rcases hs.obs _ _ ho with ⟨g1,_⟩|⟨_,⟨bo,hBo,⟨q1,q2,q3,q4,q5,cs,q6,q7⟩,_⟩|⟨_,_,_,e⟩⟩
 ·cases g1
 ·have h7:=Ups.rc hs.q hu q7
  have hl:cells'.length=cells.length:=by rw [h7.length,q7.length]
  exact hs.upd ho (x':=.box cells') (by simp) (by simp) hBo q3 (.same w bo.b) ⟨by rw [hl];exact q1,q2,q3,q4,by rw [hl];exact q5,cs,q6,h7⟩
 ·cases e
theorem SafeOps.seeB {l rest:List Oper} {Q:Exit→St→Prop} {cells:List V} {ob:List (Id×Obj)} {n:Nat} {tm:List (Nat×V)} {out:List (Nat×List (Nat×V))} {pa:Id} (o:Id) (cells':List V) (ho:oget ob o=some (.box cells)) (hu:Ups ob cells cells')
 (h:SafeOps r P gl l rest Q ⟨n,tm,(o,.box cells')::ob,out,pa⟩):SafeOps r P gl l rest Q ⟨n,tm,ob,out,pa⟩:=fun _ _ _ _ _ _ _ _ hs=>h _ _ _ _ _ _ _ _ (upsB ho hu hs)
theorem Safe.seeB {c:Code} {Q:Exit→St→Prop} {cells:List V} {ob:List (Id×Obj)} {n:Nat} {tm:List (Nat×V)} {out:List (Nat×List (Nat×V))} {pa:Id} (o:Id) (cells':List V) (ho:oget ob o=some (.box cells)) (hu:Ups ob cells cells')
 (h:Safe r P gl c Q ⟨n,tm,(o,.box cells')::ob,out,pa⟩):Safe r P gl c Q ⟨n,tm,ob,out,pa⟩:=fun _ _ _ _ _ _ _ _ hs=>h _ _ _ _ _ _ _ _ (upsB ho hu hs)
theorem ungS {ob:List (Id×Obj)} {n:Nat} {tm:List (Nat×V)} {out:List (Nat×List (Nat×V))} {pa o:Id} {es:List (V×V)} {ms:Array MapEntry} {clock:Nat} (ho:oget ob o=some (.gmap es ms clock)) {w0:World} {pr0 ow:Nat→Prop} {a:Act} {ao:List (Array Value)} {w:World} {B:BM} {pr:Nat→Prop}
 (hs:Sim gl w0 pr0 ow ⟨n,tm,ob,out,pa⟩ a ao w B pr):Sim gl w0 pr0 ow ⟨n,tm,(o,.map es)::ob,out,pa⟩ a ao w B pr:=by
 rcases hs.obs _ _ ho with ⟨g1,_⟩|⟨_,⟨bo,hBo,⟨q1,q2,q3,q4,q5⟩,_⟩|⟨_,_,_,e⟩⟩
 ·cases g1
 ·exact hs.upd ho (x':=.map es) (by simp) (by simp) hBo q1 (.same w bo.b) ⟨q1,q2,ms,clock,q3,q4,q5⟩
 ·cases e
theorem SafeOps.quietG [hE:GoodE P E] (q:Id) {l rest:List Oper} {o:Oper} {Q:Exit→St→Prop} {n d:Nat} {tm:List (Nat×V)} {ob:List (Id×Obj)} {out:List (Nat×List (Nat×V))} {pa:Id} {v:V} {es:List (V×V)} {ms:Array MapEntry} {clock:Nat}
 (hq:QEv P E gl tm ((q,.map es)::ob) (pa++[d]) o.op v []) (h:SafeOps r P gl l rest Q ⟨n,(d,v)::tm,ob,out,pa⟩) (ho:oget ob q=some (.gmap es ms clock):=by exact rfl)
 (hg:gd l tm o=some true:=by exact rfl) (hd:o.dst=some d:=by exact rfl) (hn:Nat.blt d n=true:=by exact rfl):SafeOps r P gl l (o::rest) Q ⟨n,tm,ob,out,pa⟩ :=
 SafeOps.done hg fun w0 pr0 ow a ao w B pr hs K hK =>
  hq.sound hE.h (ungS ho hs).q (fun k x hk=>by simp [oget] at hk) fun c w' B' pr' he hc=>by
   have h1:=hs.grow he (fun o x hx=>by simp [oget] at hx)
   rw [hd]
   exact hK (a.put (some d) c) w' (h w0 pr0 ow (a.put (some d) c) ao w' B' pr' { h1 with tms:=h1.tms.put (show d < n by simpa using hn) hc })
theorem SafeOps.len [hE:GoodE P E] {α:Type} {f:α→List V} {xs:List α} {l rest:List Oper} {o:Oper} {Q:Exit→St→Prop} {n d:Nat} {tm:List (Nat×V)} {ob:List (Id×Obj)} {out:List (Nat×List (Nat×V))} {pa:Id}
 (h:SafeOps r P gl l rest Q ⟨n,(d,.int .i64 (xs.length:Nat))::tm,ob,out,pa⟩) (he:evF E tm o.op=some (.int .i64 ((rws f xs).length:Nat)):=by exact rfl) (hd:o.dst=some d:=by exact rfl) (hg:gd l tm o=some true:=by exact rfl) (hn:Nat.blt d n=true:=by exact rfl) :
 SafeOps r P gl l (o::rest) Q ⟨n,tm,ob,out,pa⟩:=SafeOps.quiet0 hE.h hg hd hn (.fnE he lenE) h
theorem SafeOps.ix [hE:GoodE P E] {α:Type} {f:α→List V} {xs:List α} {l rest:List Oper} {o:Oper} {Q:Exit→St→Prop} {n d t e sz bt s:Nat} {z:List V} {de:Ty} {k:IntKind} {i:Int} {x y:Operand} {tm:List (Nat×V)} {ob:List (Id×Obj)} {out:List (Nat×List (Nat×V))} {pa:Id}
 (hb:0≤i∧i < (xs.length:Int)) (h:SafeOps r P gl l rest Q ⟨n,(d,.spt s (rws f xs) i.toNat 0)::tm,ob,out,pa⟩) (hop:o.op=.indexAddr t x y:=by exact rfl) (hx:ev tm x=.sl s (rws f xs):=by exact rfl) (hi:ev tm y=.int k i:=by exact rfl) (ht:ety E t=some ⟨.sli e,sz,bt,z⟩:=by exact rfl) (he:ety E e=some de:=by exact rfl) (hs:s=de.size:=by exact rfl)
 (hd:o.dst=some d:=by exact rfl) (hg:gd l tm o=some true:=by exact rfl) (hn:Nat.blt d n=true:=by exact rfl):SafeOps r P gl l (o::rest) Q ⟨n,tm,ob,out,pa⟩ :=
 SafeOps.quiet0 hE.h hg hd hn (by rw [hop];exact .idxSlM ht he hx hs hi hb) h
theorem SafeOps.ld [hE:GoodE P E] {α:Type} [Inhabited α] {f:α→List V} {xs:List α} {l rest:List Oper} {o:Oper} {Q:Exit→St→Prop} {n d t s off:Nat} {dd:Ty} {i:Int} {x:Operand} {cs:List V} {v v1:V} {tm:List (Nat×V)} {ob:List (Id×Obj)} {out:List (Nat×List (Nat×V))} {pa:Id}
 (hb:0≤i∧i < (xs.length:Int)) (h:SafeOps r P gl l rest Q ⟨n,(d,v1)::tm,ob,out,pa⟩) (hop:o.op=.load t x:=by exact rfl) (hx:ev tm x=.spt s (rws f xs) i.toNat off:=by exact rfl) (ht:ety E t=some dd:=by exact rfl) (hc:cutV (f (gt xs i)) off dd.size=some cs:=by exact rfl) (hm:mkV dd.k.isAgg cs=some v:=by exact rfl) (hv:norm v=some v1:=by exact rfl)
 (hd:o.dst=some d:=by exact rfl) (hg:gd l tm o=some true:=by exact rfl) (hn:Nat.blt d n=true:=by exact rfl):SafeOps r P gl l (o::rest) Q ⟨n,tm,ob,out,pa⟩:=by
 rw [norm_eq hv] at h
 exact SafeOps.quiet0 hE.h hg hd hn (by rw [hop];exact .load ht hx (.sptM hb hc) hm) h
end Go.AM
