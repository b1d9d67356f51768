/- Helper lemmas for the claim's theorem: an abstract machine over the model, proved sound; no condition beyond each lemma's own. -/
import Derived.Test.YtmlcinmdkhmjhaaGreatSL
import Derived.Test.YtmlcinmdkhmjhaaGreatTD
import Derived.Test.YtmlcinmdkhmjhaaGreatAmG
import Derived.Test.YtmlcinmdkhmjhaaGreatAmE
set_option linter.unusedVariables false
set_option linter.unusedSimpArgs false
set_option linter.unnecessarySimpa false
set_option linter.unusedSectionVars false
namespace Go.Proofs.YtmlcinmdkhmjhaaGreat
open Go Go.AM
set_option maxRecDepth 100000
theorem vt_3 {us:List V} (h:VT E 3 us):∃x:Int,us=[V.int .i64 x]∧i64ok x:=by
 obtain ⟨n,h1,h2⟩:=VT.int_inv (E:=E) (t:=3) rfl rfl h
 exact ⟨n,h1,wf_i64 h2⟩
theorem vt_22 {us:List V} (h:VT E 22 us):∃x:List Int,us=[V.sl 1 (rws (fun n=>[V.int .i64 n]) x)]∧(wfl (fun y=>i64ok y) x):=by
 obtain ⟨rows,h1,h2,h3⟩:=VT.sli_inv (E:=E) (t:=22) rfl rfl rfl h
 obtain ⟨xs,hx,hq⟩:=rows_map (f:=(fun n=>[V.int .i64 n])) (Q:=fun y=>i64ok y) (fun r hr=>vt_3 (h3 r hr))
 subst hx
 exact ⟨xs,h1,(by simpa [maxLen] using h2),hq⟩
def api_Instr.wf (x:api_Instr):Prop:=(i64ok x.Op)∧(i64ok x.A)∧(i64ok x.B)
theorem vt_142 {us:List V} (h:VT E 142 us):∃x:api_Instr,us=api_Instr.cells x∧api_Instr.wf x:=by
 have h:=VT.st_inv (E:=E) (t:=142) rfl rfl h
 obtain ⟨a0,r0,rfl,f0,h⟩:=h.cons_inv
 obtain ⟨a1,r1,rfl,f1,h⟩:=h.cons_inv
 obtain ⟨a2,r2,rfl,f2,h⟩:=h.cons_inv
 obtain rfl:=h.nil_inv
 obtain ⟨n0,rfl,w0⟩:=vt_3 f0
 obtain ⟨n1,rfl,w1⟩:=vt_3 f1
 obtain ⟨n2,rfl,w2⟩:=vt_3 f2
 exact ⟨⟨n0,n1,n2⟩,rfl,⟨w0,w1,w2⟩⟩
theorem vt_143 {us:List V} (h:VT E 143 us):∃x:List api_Instr,us=[V.sl 3 (rws api_Instr.cells x)]∧(wfl (fun y=>api_Instr.wf y) x):=by
 obtain ⟨rows,h1,h2,h3⟩:=VT.sli_inv (E:=E) (t:=143) rfl rfl rfl h
 obtain ⟨xs,hx,hq⟩:=rows_map (f:=api_Instr.cells) (Q:=fun y=>api_Instr.wf y) (fun r hr=>vt_142 (h3 r hr))
 subst hx
 exact ⟨xs,h1,(by simpa [maxLen] using h2),hq⟩
theorem vt_23 {us:List V} (h:VT E 23 us):∃x:List (List api_Instr),us=[V.sl 1 (rws (fun l=>[V.sl 3 (rws api_Instr.cells l)]) x)]∧(wfl (fun y=>wfl (fun y=>api_Instr.wf y) y) x):=by
 obtain ⟨rows,h1,h2,h3⟩:=VT.sli_inv (E:=E) (t:=23) rfl rfl rfl h
 obtain ⟨xs,hx,hq⟩:=rows_map (f:=(fun l=>[V.sl 3 (rws api_Instr.cells l)])) (Q:=fun y=>wfl (fun y=>api_Instr.wf y) y) (fun r hr=>vt_143 (h3 r hr))
 subst hx
 exact ⟨xs,h1,(by simpa [maxLen] using h2),hq⟩
def api_Config.wf (x:api_Config):Prop:=(i64ok x.Workers)∧(i64ok x.Cap)∧(i64ok x.Budget)∧(wfl (fun y=>i64ok y) x.Weights)∧(wfl (fun y=>i64ok y) x.Quotas)∧(wfl (fun y=>wfl (fun y=>api_Instr.wf y) y) x.Progs)∧(i64ok x.Tasks)∧(i64ok x.Fds)∧(wfl (fun y=>i64ok y) x.Sems)
theorem vt_25 {us:List V} (h:VT E 25 us):∃x:api_Config,us=api_Config.cells x∧api_Config.wf x:=by
 have h:=VT.st_inv (E:=E) (t:=25) rfl rfl h
 obtain ⟨a0,r0,rfl,f0,h⟩:=h.cons_inv
 obtain ⟨a1,r1,rfl,f1,h⟩:=h.cons_inv
 obtain ⟨a2,r2,rfl,f2,h⟩:=h.cons_inv
 obtain ⟨a3,r3,rfl,f3,h⟩:=h.cons_inv
 obtain ⟨a4,r4,rfl,f4,h⟩:=h.cons_inv
 obtain ⟨a5,r5,rfl,f5,h⟩:=h.cons_inv
 obtain ⟨a6,r6,rfl,f6,h⟩:=h.cons_inv
 obtain ⟨a7,r7,rfl,f7,h⟩:=h.cons_inv
 obtain ⟨a8,r8,rfl,f8,h⟩:=h.cons_inv
 obtain rfl:=h.nil_inv
 obtain ⟨n0,rfl,w0⟩:=vt_3 f0
 obtain ⟨n1,rfl,w1⟩:=vt_3 f1
 obtain ⟨n2,rfl,w2⟩:=vt_3 f2
 obtain ⟨n3,rfl,w3⟩:=vt_22 f3
 obtain ⟨n4,rfl,w4⟩:=vt_22 f4
 obtain ⟨n5,rfl,w5⟩:=vt_23 f5
 obtain ⟨n6,rfl,w6⟩:=vt_3 f6
 obtain ⟨n7,rfl,w7⟩:=vt_3 f7
 obtain ⟨n8,rfl,w8⟩:=vt_22 f8
 exact ⟨⟨n0,n1,n2,n3,n4,n5,n6,n7,n8⟩,rfl,⟨w0,w1,w2,w3,w4,w5,w6,w7,w8⟩⟩
theorem arg_25 {v:V} (h:VArg E 25 v):∃x:api_Config,v=.agg (api_Config.cells x)∧api_Config.wf x:=by
 obtain ⟨us,rfl,hv⟩:=h.agg (t:=25) rfl rfl
 obtain ⟨x,rfl,w⟩:=vt_25 hv
 exact ⟨x,rfl,w⟩
theorem vt_2 {us:List V} (h:VT E 2 us):∃x:Int,us=[V.int .i64 x]∧i64ok x:=by
 obtain ⟨n,h1,h2⟩:=VT.int_inv (E:=E) (t:=2) rfl rfl h
 exact ⟨n,h1,wf_i64 h2⟩
theorem vt_5 {us:List V} (h:VT E 5 us):∃x:Int,us=[V.int .u8 x]∧u8ok x:=by
 obtain ⟨n,h1,h2⟩:=VT.int_inv (E:=E) (t:=5) rfl rfl h
 exact ⟨n,h1,wf_u8 h2⟩
theorem vt_26 {us:List V} (h:VT E 26 us):∃x:List Int,us=[V.sl 1 (rws (fun n=>[V.int .u8 n]) x)]∧(wfl (fun y=>u8ok y) x):=by
 obtain ⟨rows,h1,h2,h3⟩:=VT.sli_inv (E:=E) (t:=26) rfl rfl rfl h
 obtain ⟨xs,hx,hq⟩:=rows_map (f:=(fun n=>[V.int .u8 n])) (Q:=fun y=>u8ok y) (fun r hr=>vt_5 (h3 r hr))
 subst hx
 exact ⟨xs,h1,(by simpa [maxLen] using h2),hq⟩
def api_Dice.wf (x:api_Dice):Prop:=(wfl (fun y=>u8ok y) x.L)∧(i64ok x.At)
theorem vt_28 {us:List V} (h:VT E 28 us):∃x:api_Dice,us=api_Dice.cells x∧api_Dice.wf x:=by
 have h:=VT.st_inv (E:=E) (t:=28) rfl rfl h
 obtain ⟨a0,r0,rfl,f0,h⟩:=h.cons_inv
 obtain ⟨a1,r1,rfl,f1,h⟩:=h.cons_inv
 obtain rfl:=h.nil_inv
 obtain ⟨n0,rfl,w0⟩:=vt_26 f0
 obtain ⟨n1,rfl,w1⟩:=vt_3 f1
 exact ⟨⟨n0,n1⟩,rfl,⟨w0,w1⟩⟩
theorem vt_29 {us:List V} (h:VT E 29 us):∃x:List Int,us=[V.sl 1 (rws (fun n=>[V.int .i64 n]) x)]∧(wfl (fun y=>i64ok y) x):=by
 obtain ⟨rows,h1,h2,h3⟩:=VT.sli_inv (E:=E) (t:=29) rfl rfl rfl h
 obtain ⟨xs,hx,hq⟩:=rows_map (f:=(fun n=>[V.int .i64 n])) (Q:=fun y=>i64ok y) (fun r hr=>vt_2 (h3 r hr))
 subst hx
 exact ⟨xs,h1,(by simpa [maxLen] using h2),hq⟩
theorem vt_4 {us:List V} (h:VT E 4 us):∃x:Bool,us=[V.bool x]∧True:=by
 obtain ⟨n,h1⟩:=VT.bool_inv (E:=E) (t:=4) rfl rfl h
 exact ⟨n,h1,trivial⟩
theorem vt_30 {us:List V} (h:VT E 30 us):∃x:List Bool,us=[V.sl 1 (rws (fun b=>[V.bool b]) x)]∧(wfl (fun y=>True) x):=by
 obtain ⟨rows,h1,h2,h3⟩:=VT.sli_inv (E:=E) (t:=30) rfl rfl rfl h
 obtain ⟨xs,hx,hq⟩:=rows_map (f:=(fun b=>[V.bool b])) (Q:=fun y=>True) (fun r hr=>vt_4 (h3 r hr))
 subst hx
 exact ⟨xs,h1,(by simpa [maxLen] using h2),hq⟩
def api_Places.wf (x:api_Places):Prop:=(wfl (fun y=>i64ok y) x.Gen)∧(wfl (fun y=>True) x.Live)
theorem vt_32 {us:List V} (h:VT E 32 us):∃x:api_Places,us=api_Places.cells x∧api_Places.wf x:=by
 have h:=VT.st_inv (E:=E) (t:=32) rfl rfl h
 obtain ⟨a0,r0,rfl,f0,h⟩:=h.cons_inv
 obtain ⟨a1,r1,rfl,f1,h⟩:=h.cons_inv
 obtain rfl:=h.nil_inv
 obtain ⟨n0,rfl,w0⟩:=vt_29 f0
 obtain ⟨n1,rfl,w1⟩:=vt_30 f1
 exact ⟨⟨n0,n1⟩,rfl,⟨w0,w1⟩⟩
def A4_Int.wf (x:A4_Int):Prop:=i64ok x.a0∧i64ok x.a1∧i64ok x.a2∧i64ok x.a3
theorem vt_74 {us:List V} (h:VT E 74 us):∃x:A4_Int,us=A4_Int.cells x∧A4_Int.wf x:=by
 obtain ⟨parts,rfl,hl,hp⟩:=VT.arr_inv (E:=E) (t:=74) rfl rfl h
 match parts,hl with
 | [p0,p1,p2,p3],_ =>
  obtain ⟨k0,rfl,w0⟩:=vt_2 (hp p0 (by simp))
  obtain ⟨k1,rfl,w1⟩:=vt_2 (hp p1 (by simp))
  obtain ⟨k2,rfl,w2⟩:=vt_2 (hp p2 (by simp))
  obtain ⟨k3,rfl,w3⟩:=vt_2 (hp p3 (by simp))
  exact ⟨⟨k0,k1,k2,k3⟩,rfl,w0,w1,w2,w3⟩
def api_Task.wf (x:api_Task):Prop:=(i64ok x.Id)∧(i64ok x.Tenant)∧(i64ok x.Prog)∧(i64ok x.Pc)∧(i64ok x.Unit)∧(A4_Int.wf x.Keeps)∧(i64ok x.State)∧(i64ok x.Ran)
theorem vt_76 {us:List V} (h:VT E 76 us):∃x:api_Task,us=api_Task.cells x∧api_Task.wf x:=by
 have h:=VT.st_inv (E:=E) (t:=76) rfl rfl h
 obtain ⟨a0,r0,rfl,f0,h⟩:=h.cons_inv
 obtain ⟨a1,r1,rfl,f1,h⟩:=h.cons_inv
 obtain ⟨a2,r2,rfl,f2,h⟩:=h.cons_inv
 obtain ⟨a3,r3,rfl,f3,h⟩:=h.cons_inv
 obtain ⟨a4,r4,rfl,f4,h⟩:=h.cons_inv
 obtain ⟨a5,r5,rfl,f5,h⟩:=h.cons_inv
 obtain ⟨a6,r6,rfl,f6,h⟩:=h.cons_inv
 obtain ⟨a7,r7,rfl,f7,h⟩:=h.cons_inv
 obtain rfl:=h.nil_inv
 obtain ⟨n0,rfl,w0⟩:=vt_2 f0
 obtain ⟨n1,rfl,w1⟩:=vt_3 f1
 obtain ⟨n2,rfl,w2⟩:=vt_3 f2
 obtain ⟨n3,rfl,w3⟩:=vt_3 f3
 obtain ⟨n4,rfl,w4⟩:=vt_3 f4
 obtain ⟨n5,rfl,w5⟩:=vt_74 f5
 obtain ⟨n6,rfl,w6⟩:=vt_3 f6
 obtain ⟨n7,rfl,w7⟩:=vt_2 f7
 exact ⟨⟨n0,n1,n2,n3,n4,n5,n6,n7⟩,rfl,⟨w0,w1,w2,w3,w4,w5,w6,w7⟩⟩
theorem vt_33 {us:List V} (h:VT E 33 us):∃x:List api_Task,us=[V.sl 11 (rws api_Task.cells x)]∧(wfl (fun y=>api_Task.wf y) x):=by
 obtain ⟨rows,h1,h2,h3⟩:=VT.sli_inv (E:=E) (t:=33) rfl rfl rfl h
 obtain ⟨xs,hx,hq⟩:=rows_map (f:=api_Task.cells) (Q:=fun y=>api_Task.wf y) (fun r hr=>vt_76 (h3 r hr))
 subst hx
 exact ⟨xs,h1,(by simpa [maxLen] using h2),hq⟩
theorem vt_34 {us:List V} (h:VT E 34 us):∃x:List Int,us=[V.sl 1 (rws (fun n=>[V.int .i64 n]) x)]∧(wfl (fun y=>i64ok y) x):=by
 obtain ⟨rows,h1,h2,h3⟩:=VT.sli_inv (E:=E) (t:=34) rfl rfl rfl h
 obtain ⟨xs,hx,hq⟩:=rows_map (f:=(fun n=>[V.int .i64 n])) (Q:=fun y=>i64ok y) (fun r hr=>vt_2 (h3 r hr))
 subst hx
 exact ⟨xs,h1,(by simpa [maxLen] using h2),hq⟩
def api_Chains.wf (x:api_Chains):Prop:=(wfl (fun y=>i64ok y) x.Next)∧(wfl (fun y=>i64ok y) x.Head)∧(wfl (fun y=>i64ok y) x.Tail)
theorem vt_36 {us:List V} (h:VT E 36 us):∃x:api_Chains,us=api_Chains.cells x∧api_Chains.wf x:=by
 have h:=VT.st_inv (E:=E) (t:=36) rfl rfl h
 obtain ⟨a0,r0,rfl,f0,h⟩:=h.cons_inv
 obtain ⟨a1,r1,rfl,f1,h⟩:=h.cons_inv
 obtain ⟨a2,r2,rfl,f2,h⟩:=h.cons_inv
 obtain rfl:=h.nil_inv
 obtain ⟨n0,rfl,w0⟩:=vt_22 f0
 obtain ⟨n1,rfl,w1⟩:=vt_22 f1
 obtain ⟨n2,rfl,w2⟩:=vt_22 f2
 exact ⟨⟨n0,n1,n2⟩,rfl,⟨w0,w1,w2⟩⟩
def api_Tenant.wf (x:api_Tenant):Prop:=(i64ok x.Weight)∧(i64ok x.Quota)∧(i64ok x.Live)∧(i64ok x.Tag)∧(i64ok x.Ran)
theorem vt_71 {us:List V} (h:VT E 71 us):∃x:api_Tenant,us=api_Tenant.cells x∧api_Tenant.wf x:=by
 have h:=VT.st_inv (E:=E) (t:=71) rfl rfl h
 obtain ⟨a0,r0,rfl,f0,h⟩:=h.cons_inv
 obtain ⟨a1,r1,rfl,f1,h⟩:=h.cons_inv
 obtain ⟨a2,r2,rfl,f2,h⟩:=h.cons_inv
 obtain ⟨a3,r3,rfl,f3,h⟩:=h.cons_inv
 obtain ⟨a4,r4,rfl,f4,h⟩:=h.cons_inv
 obtain rfl:=h.nil_inv
 obtain ⟨n0,rfl,w0⟩:=vt_3 f0
 obtain ⟨n1,rfl,w1⟩:=vt_3 f1
 obtain ⟨n2,rfl,w2⟩:=vt_3 f2
 obtain ⟨n3,rfl,w3⟩:=vt_2 f3
 obtain ⟨n4,rfl,w4⟩:=vt_2 f4
 exact ⟨⟨n0,n1,n2,n3,n4⟩,rfl,⟨w0,w1,w2,w3,w4⟩⟩
theorem vt_37 {us:List V} (h:VT E 37 us):∃x:List api_Tenant,us=[V.sl 5 (rws api_Tenant.cells x)]∧(wfl (fun y=>api_Tenant.wf y) x):=by
 obtain ⟨rows,h1,h2,h3⟩:=VT.sli_inv (E:=E) (t:=37) rfl rfl rfl h
 obtain ⟨xs,hx,hq⟩:=rows_map (f:=api_Tenant.cells) (Q:=fun y=>api_Tenant.wf y) (fun r hr=>vt_71 (h3 r hr))
 subst hx
 exact ⟨xs,h1,(by simpa [maxLen] using h2),hq⟩
def api_Timer.wf (x:api_Timer):Prop:=(i64ok x.At)∧(i64ok x.Id)
theorem vt_187 {us:List V} (h:VT E 187 us):∃x:api_Timer,us=api_Timer.cells x∧api_Timer.wf x:=by
 have h:=VT.st_inv (E:=E) (t:=187) rfl rfl h
 obtain ⟨a0,r0,rfl,f0,h⟩:=h.cons_inv
 obtain ⟨a1,r1,rfl,f1,h⟩:=h.cons_inv
 obtain rfl:=h.nil_inv
 obtain ⟨n0,rfl,w0⟩:=vt_2 f0
 obtain ⟨n1,rfl,w1⟩:=vt_2 f1
 exact ⟨⟨n0,n1⟩,rfl,⟨w0,w1⟩⟩
theorem vt_38 {us:List V} (h:VT E 38 us):∃x:List api_Timer,us=[V.sl 2 (rws api_Timer.cells x)]∧(wfl (fun y=>api_Timer.wf y) x):=by
 obtain ⟨rows,h1,h2,h3⟩:=VT.sli_inv (E:=E) (t:=38) rfl rfl rfl h
 obtain ⟨xs,hx,hq⟩:=rows_map (f:=api_Timer.cells) (Q:=fun y=>api_Timer.wf y) (fun r hr=>vt_187 (h3 r hr))
 subst hx
 exact ⟨xs,h1,(by simpa [maxLen] using h2),hq⟩
def api_Fd.wf (x:api_Fd):Prop:=(True)∧(True)∧(i64ok x.Who)
theorem vt_159 {us:List V} (h:VT E 159 us):∃x:api_Fd,us=api_Fd.cells x∧api_Fd.wf x:=by
 have h:=VT.st_inv (E:=E) (t:=159) rfl rfl h
 obtain ⟨a0,r0,rfl,f0,h⟩:=h.cons_inv
 obtain ⟨a1,r1,rfl,f1,h⟩:=h.cons_inv
 obtain ⟨a2,r2,rfl,f2,h⟩:=h.cons_inv
 obtain rfl:=h.nil_inv
 obtain ⟨n0,rfl,w0⟩:=vt_4 f0
 obtain ⟨n1,rfl,w1⟩:=vt_4 f1
 obtain ⟨n2,rfl,w2⟩:=vt_2 f2
 exact ⟨⟨n0,n1,n2⟩,rfl,⟨w0,w1,w2⟩⟩
theorem vt_39 {us:List V} (h:VT E 39 us):∃x:List api_Fd,us=[V.sl 3 (rws api_Fd.cells x)]∧(wfl (fun y=>api_Fd.wf y) x):=by
 obtain ⟨rows,h1,h2,h3⟩:=VT.sli_inv (E:=E) (t:=39) rfl rfl rfl h
 obtain ⟨xs,hx,hq⟩:=rows_map (f:=api_Fd.cells) (Q:=fun y=>api_Fd.wf y) (fun r hr=>vt_159 (h3 r hr))
 subst hx
 exact ⟨xs,h1,(by simpa [maxLen] using h2),hq⟩
def api_Sem.wf (x:api_Sem):Prop:=(i64ok x.Free)∧(wfl (fun y=>i64ok y) x.Wait)
theorem vt_79 {us:List V} (h:VT E 79 us):∃x:api_Sem,us=api_Sem.cells x∧api_Sem.wf x:=by
 have h:=VT.st_inv (E:=E) (t:=79) rfl rfl h
 obtain ⟨a0,r0,rfl,f0,h⟩:=h.cons_inv
 obtain ⟨a1,r1,rfl,f1,h⟩:=h.cons_inv
 obtain rfl:=h.nil_inv
 obtain ⟨n0,rfl,w0⟩:=vt_3 f0
 obtain ⟨n1,rfl,w1⟩:=vt_29 f1
 exact ⟨⟨n0,n1⟩,rfl,⟨w0,w1⟩⟩
theorem vt_40 {us:List V} (h:VT E 40 us):∃x:List api_Sem,us=[V.sl 2 (rws api_Sem.cells x)]∧(wfl (fun y=>api_Sem.wf y) x):=by
 obtain ⟨rows,h1,h2,h3⟩:=VT.sli_inv (E:=E) (t:=40) rfl rfl rfl h
 obtain ⟨xs,hx,hq⟩:=rows_map (f:=api_Sem.cells) (Q:=fun y=>api_Sem.wf y) (fun r hr=>vt_79 (h3 r hr))
 subst hx
 exact ⟨xs,h1,(by simpa [maxLen] using h2),hq⟩
def api_Join.wf (x:api_Join):Prop:=(i64ok x.On)∧(i64ok x.Who)
theorem vt_166 {us:List V} (h:VT E 166 us):∃x:api_Join,us=api_Join.cells x∧api_Join.wf x:=by
 have h:=VT.st_inv (E:=E) (t:=166) rfl rfl h
 obtain ⟨a0,r0,rfl,f0,h⟩:=h.cons_inv
 obtain ⟨a1,r1,rfl,f1,h⟩:=h.cons_inv
 obtain rfl:=h.nil_inv
 obtain ⟨n0,rfl,w0⟩:=vt_2 f0
 obtain ⟨n1,rfl,w1⟩:=vt_2 f1
 exact ⟨⟨n0,n1⟩,rfl,⟨w0,w1⟩⟩
theorem vt_41 {us:List V} (h:VT E 41 us):∃x:List api_Join,us=[V.sl 2 (rws api_Join.cells x)]∧(wfl (fun y=>api_Join.wf y) x):=by
 obtain ⟨rows,h1,h2,h3⟩:=VT.sli_inv (E:=E) (t:=41) rfl rfl rfl h
 obtain ⟨xs,hx,hq⟩:=rows_map (f:=api_Join.cells) (Q:=fun y=>api_Join.wf y) (fun r hr=>vt_166 (h3 r hr))
 subst hx
 exact ⟨xs,h1,(by simpa [maxLen] using h2),hq⟩
def api_Idle.wf (x:api_Idle):Prop:=(wfl (fun y=>i64ok y) x.Is)∧(wfl (fun y=>i64ok y) x.Stack)
theorem vt_43 {us:List V} (h:VT E 43 us):∃x:api_Idle,us=api_Idle.cells x∧api_Idle.wf x:=by
 have h:=VT.st_inv (E:=E) (t:=43) rfl rfl h
 obtain ⟨a0,r0,rfl,f0,h⟩:=h.cons_inv
 obtain ⟨a1,r1,rfl,f1,h⟩:=h.cons_inv
 obtain rfl:=h.nil_inv
 obtain ⟨n0,rfl,w0⟩:=vt_22 f0
 obtain ⟨n1,rfl,w1⟩:=vt_22 f1
 exact ⟨⟨n0,n1⟩,rfl,⟨w0,w1⟩⟩
def api_Hand.wf (x:api_Hand):Prop:=(i64ok x.Kind)∧(i64ok x.Pc)∧(i64ok x.V)∧(i64ok x.T)∧(i64ok x.B)∧(True)∧(i64ok x.State)
theorem vt_61 {us:List V} (h:VT E 61 us):∃x:api_Hand,us=api_Hand.cells x∧api_Hand.wf x:=by
 have h:=VT.st_inv (E:=E) (t:=61) rfl rfl h
 obtain ⟨a0,r0,rfl,f0,h⟩:=h.cons_inv
 obtain ⟨a1,r1,rfl,f1,h⟩:=h.cons_inv
 obtain ⟨a2,r2,rfl,f2,h⟩:=h.cons_inv
 obtain ⟨a3,r3,rfl,f3,h⟩:=h.cons_inv
 obtain ⟨a4,r4,rfl,f4,h⟩:=h.cons_inv
 obtain ⟨a5,r5,rfl,f5,h⟩:=h.cons_inv
 obtain ⟨a6,r6,rfl,f6,h⟩:=h.cons_inv
 obtain rfl:=h.nil_inv
 obtain ⟨n0,rfl,w0⟩:=vt_3 f0
 obtain ⟨n1,rfl,w1⟩:=vt_3 f1
 obtain ⟨n2,rfl,w2⟩:=vt_2 f2
 obtain ⟨n3,rfl,w3⟩:=vt_2 f3
 obtain ⟨n4,rfl,w4⟩:=vt_2 f4
 obtain ⟨n5,rfl,w5⟩:=vt_4 f5
 obtain ⟨n6,rfl,w6⟩:=vt_3 f6
 exact ⟨⟨n0,n1,n2,n3,n4,n5,n6⟩,rfl,⟨w0,w1,w2,w3,w4,w5,w6⟩⟩
def api_Worker.wf (x:api_Worker):Prop:=(i64ok x.Do)∧(api_Hand.wf x.Hand)∧(i64ok x.At)∧(wfl (fun y=>i64ok y) x.Ask)∧(i64ok x.Task)∧(i64ok x.Left)∧(i64ok x.Kid)∧(i64ok x.Spill)
theorem vt_63 {us:List V} (h:VT E 63 us):∃x:api_Worker,us=api_Worker.cells x∧api_Worker.wf x:=by
 have h:=VT.st_inv (E:=E) (t:=63) rfl rfl h
 obtain ⟨a0,r0,rfl,f0,h⟩:=h.cons_inv
 obtain ⟨a1,r1,rfl,f1,h⟩:=h.cons_inv
 obtain ⟨a2,r2,rfl,f2,h⟩:=h.cons_inv
 obtain ⟨a3,r3,rfl,f3,h⟩:=h.cons_inv
 obtain ⟨a4,r4,rfl,f4,h⟩:=h.cons_inv
 obtain ⟨a5,r5,rfl,f5,h⟩:=h.cons_inv
 obtain ⟨a6,r6,rfl,f6,h⟩:=h.cons_inv
 obtain ⟨a7,r7,rfl,f7,h⟩:=h.cons_inv
 obtain rfl:=h.nil_inv
 obtain ⟨n0,rfl,w0⟩:=vt_3 f0
 obtain ⟨n1,rfl,w1⟩:=vt_61 f1
 obtain ⟨n2,rfl,w2⟩:=vt_3 f2
 obtain ⟨n3,rfl,w3⟩:=vt_22 f3
 obtain ⟨n4,rfl,w4⟩:=vt_2 f4
 obtain ⟨n5,rfl,w5⟩:=vt_3 f5
 obtain ⟨n6,rfl,w6⟩:=vt_2 f6
 obtain ⟨n7,rfl,w7⟩:=vt_3 f7
 exact ⟨⟨n0,n1,n2,n3,n4,n5,n6,n7⟩,rfl,⟨w0,w1,w2,w3,w4,w5,w6,w7⟩⟩
theorem vt_44 {us:List V} (h:VT E 44 us):∃x:List api_Worker,us=[V.sl 14 (rws api_Worker.cells x)]∧(wfl (fun y=>api_Worker.wf y) x):=by
 obtain ⟨rows,h1,h2,h3⟩:=VT.sli_inv (E:=E) (t:=44) rfl rfl rfl h
 obtain ⟨xs,hx,hq⟩:=rows_map (f:=api_Worker.cells) (Q:=fun y=>api_Worker.wf y) (fun r hr=>vt_63 (h3 r hr))
 subst hx
 exact ⟨xs,h1,(by simpa [maxLen] using h2),hq⟩
def api_Event.wf (x:api_Event):Prop:=(i64ok x.Kind)∧(i64ok x.Id)∧(i64ok x.A)
theorem vt_69 {us:List V} (h:VT E 69 us):∃x:api_Event,us=api_Event.cells x∧api_Event.wf x:=by
 have h:=VT.st_inv (E:=E) (t:=69) rfl rfl h
 obtain ⟨a0,r0,rfl,f0,h⟩:=h.cons_inv
 obtain ⟨a1,r1,rfl,f1,h⟩:=h.cons_inv
 obtain ⟨a2,r2,rfl,f2,h⟩:=h.cons_inv
 obtain rfl:=h.nil_inv
 obtain ⟨n0,rfl,w0⟩:=vt_3 f0
 obtain ⟨n1,rfl,w1⟩:=vt_2 f1
 obtain ⟨n2,rfl,w2⟩:=vt_3 f2
 exact ⟨⟨n0,n1,n2⟩,rfl,⟨w0,w1,w2⟩⟩
theorem vt_45 {us:List V} (h:VT E 45 us):∃x:List api_Event,us=[V.sl 3 (rws api_Event.cells x)]∧(wfl (fun y=>api_Event.wf y) x):=by
 obtain ⟨rows,h1,h2,h3⟩:=VT.sli_inv (E:=E) (t:=45) rfl rfl rfl h
 obtain ⟨xs,hx,hq⟩:=rows_map (f:=api_Event.cells) (Q:=fun y=>api_Event.wf y) (fun r hr=>vt_69 (h3 r hr))
 subst hx
 exact ⟨xs,h1,(by simpa [maxLen] using h2),hq⟩
def api_World.wf (x:api_World):Prop:=(i64ok x.Now)∧(api_Dice.wf x.Dice)∧(api_Places.wf x.Ids)∧(wfl (fun y=>api_Task.wf y) x.T)∧(wfl (fun y=>i64ok y) x.Mem)∧(api_Chains.wf x.Lists)∧(wfl (fun y=>api_Tenant.wf y) x.Ten)∧(wfl (fun y=>api_Timer.wf y) x.Heap)∧(wfl (fun y=>api_Fd.wf y) x.Fds)∧(wfl (fun y=>api_Sem.wf y) x.Sems)∧(wfl (fun y=>api_Join.wf y) x.Joins)∧(api_Idle.wf x.Idle)∧(wfl (fun y=>api_Worker.wf y) x.W)∧(True)∧(wfl (fun y=>api_Event.wf y) x.Seen)
theorem vt_47 {us:List V} (h:VT E 47 us):∃x:api_World,us=api_World.cells x∧api_World.wf x:=by
 have h:=VT.st_inv (E:=E) (t:=47) rfl rfl h
 obtain ⟨a0,r0,rfl,f0,h⟩:=h.cons_inv
 obtain ⟨a1,r1,rfl,f1,h⟩:=h.cons_inv
 obtain ⟨a2,r2,rfl,f2,h⟩:=h.cons_inv
 obtain ⟨a3,r3,rfl,f3,h⟩:=h.cons_inv
 obtain ⟨a4,r4,rfl,f4,h⟩:=h.cons_inv
 obtain ⟨a5,r5,rfl,f5,h⟩:=h.cons_inv
 obtain ⟨a6,r6,rfl,f6,h⟩:=h.cons_inv
 obtain ⟨a7,r7,rfl,f7,h⟩:=h.cons_inv
 obtain ⟨a8,r8,rfl,f8,h⟩:=h.cons_inv
 obtain ⟨a9,r9,rfl,f9,h⟩:=h.cons_inv
 obtain ⟨a10,r10,rfl,f10,h⟩:=h.cons_inv
 obtain ⟨a11,r11,rfl,f11,h⟩:=h.cons_inv
 obtain ⟨a12,r12,rfl,f12,h⟩:=h.cons_inv
 obtain ⟨a13,r13,rfl,f13,h⟩:=h.cons_inv
 obtain ⟨a14,r14,rfl,f14,h⟩:=h.cons_inv
 obtain rfl:=h.nil_inv
 obtain ⟨n0,rfl,w0⟩:=vt_2 f0
 obtain ⟨n1,rfl,w1⟩:=vt_28 f1
 obtain ⟨n2,rfl,w2⟩:=vt_32 f2
 obtain ⟨n3,rfl,w3⟩:=vt_33 f3
 obtain ⟨n4,rfl,w4⟩:=vt_34 f4
 obtain ⟨n5,rfl,w5⟩:=vt_36 f5
 obtain ⟨n6,rfl,w6⟩:=vt_37 f6
 obtain ⟨n7,rfl,w7⟩:=vt_38 f7
 obtain ⟨n8,rfl,w8⟩:=vt_39 f8
 obtain ⟨n9,rfl,w9⟩:=vt_40 f9
 obtain ⟨n10,rfl,w10⟩:=vt_41 f10
 obtain ⟨n11,rfl,w11⟩:=vt_43 f11
 obtain ⟨n12,rfl,w12⟩:=vt_44 f12
 obtain ⟨n13,rfl,w13⟩:=vt_4 f13
 obtain ⟨n14,rfl,w14⟩:=vt_45 f14
 exact ⟨⟨n0,n1,n2,n3,n4,n5,n6,n7,n8,n9,n10,n11,n12,n13,n14⟩,rfl,⟨w0,w1,w2,w3,w4,w5,w6,w7,w8,w9,w10,w11,w12,w13,w14⟩⟩
theorem arg_47 {v:V} (h:VArg E 47 v):∃x:api_World,v=.agg (api_World.cells x)∧api_World.wf x:=by
 obtain ⟨us,rfl,hv⟩:=h.agg (t:=47) rfl rfl
 obtain ⟨x,rfl,w⟩:=vt_47 hv
 exact ⟨x,rfl,w⟩
end Go.Proofs.YtmlcinmdkhmjhaaGreat
