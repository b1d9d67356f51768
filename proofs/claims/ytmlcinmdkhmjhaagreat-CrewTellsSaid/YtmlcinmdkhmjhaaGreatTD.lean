/- Helper lemmas for the claim's theorem: an abstract machine over the model, proved sound; no condition beyond each lemma's own. -/
import Derived.Test.YtmlcinmdkhmjhaaGreatAmM
import Derived.Test.YtmlcinmdkhmjhaaGreatSK
set_option linter.unusedVariables false
set_option linter.unusedSimpArgs false
set_option linter.unnecessarySimpa false
set_option linter.unusedSectionVars false
namespace Go.Proofs.YtmlcinmdkhmjhaaGreat
open Go Go.AM
set_option linter.unusedVariables false
@[ext] structure api_Instr where
 Op:Int
 A:Int
 B:Int
 deriving Inhabited
def api_Instr.cells (x:api_Instr):List V:=[I x.Op,I x.A,I x.B]
def api_Instr.zero:api_Instr:=⟨0,0,0⟩
def api_Instr.beq (x y:api_Instr):Bool:=((x.Op==y.Op)&&((x.A==y.A)&&((x.B==y.B)&&true)))
@[ext] structure api_Config where
 Workers:Int
 Cap:Int
 Budget:Int
 Weights:List Int
 Quotas:List Int
 Progs:List (List api_Instr)
 Tasks:Int
 Fds:Int
 Sems:List Int
 deriving Inhabited
def api_Config.cells (x:api_Config):List V:=[I x.Workers,I x.Cap,I x.Budget,V.sl 1 (rws (fun n=>[I n]) x.Weights),V.sl 1 (rws (fun n=>[I n]) x.Quotas),V.sl 1 (rws (fun l=>[V.sl 3 (rws api_Instr.cells l)]) x.Progs),I x.Tasks,I x.Fds,V.sl 1 (rws (fun n=>[I n]) x.Sems)]
def api_Config.zero:api_Config:=⟨0,0,0,[],[],[],0,0,[]⟩
@[ext] structure api_Dice where
 L:List Int
 At:Int
 deriving Inhabited
def api_Dice.cells (x:api_Dice):List V:=[V.sl 1 (rws (fun n=>[V.int .u8 n]) x.L),I x.At]
def api_Dice.zero:api_Dice:=⟨[],0⟩
@[ext] structure api_Places where
 Gen:List Int
 Live:List Bool
 deriving Inhabited
def api_Places.cells (x:api_Places):List V:=[V.sl 1 (rws (fun n=>[I n]) x.Gen),V.sl 1 (rws (fun b=>[V.bool b]) x.Live)]
def api_Places.zero:api_Places:=⟨[],[]⟩
@[ext] structure A4_Int where
 a0:Int
 a1:Int
 a2:Int
 a3:Int
 deriving Inhabited
def A4_Int.cells (x:A4_Int):List V:=[I x.a0,I x.a1,I x.a2,I x.a3]
def A4_Int.zero:A4_Int:=⟨0,0,0,0⟩
def A4_Int.beq (x y:A4_Int):Bool:=((x.a0==y.a0)&&((x.a1==y.a1)&&((x.a2==y.a2)&&((x.a3==y.a3)&&true))))
@[ext] structure api_Task where
 Id:Int
 Tenant:Int
 Prog:Int
 Pc:Int
 Unit:Int
 Keeps:A4_Int
 State:Int
 Ran:Int
 deriving Inhabited
def api_Task.cells (x:api_Task):List V:=[I x.Id,I x.Tenant,I x.Prog,I x.Pc,I x.Unit,I x.Keeps.a0,I x.Keeps.a1,I x.Keeps.a2,I x.Keeps.a3,I x.State,I x.Ran]
def api_Task.zero:api_Task:=⟨0,0,0,0,0,⟨0,0,0,0⟩,0,0⟩
def api_Task.beq (x y:api_Task):Bool:=((x.Id==y.Id)&&((x.Tenant==y.Tenant)&&((x.Prog==y.Prog)&&((x.Pc==y.Pc)&&((x.Unit==y.Unit)&&(((x.Keeps.a0==y.Keeps.a0)&&((x.Keeps.a1==y.Keeps.a1)&&((x.Keeps.a2==y.Keeps.a2)&&((x.Keeps.a3==y.Keeps.a3)&&true))))&&((x.State==y.State)&&((x.Ran==y.Ran)&&true))))))))
@[ext] structure api_Chains where
 Next:List Int
 Head:List Int
 Tail:List Int
 deriving Inhabited
def api_Chains.cells (x:api_Chains):List V:=[V.sl 1 (rws (fun n=>[I n]) x.Next),V.sl 1 (rws (fun n=>[I n]) x.Head),V.sl 1 (rws (fun n=>[I n]) x.Tail)]
def api_Chains.zero:api_Chains:=⟨[],[],[]⟩
@[ext] structure api_Tenant where
 Weight:Int
 Quota:Int
 Live:Int
 Tag:Int
 Ran:Int
 deriving Inhabited
def api_Tenant.cells (x:api_Tenant):List V:=[I x.Weight,I x.Quota,I x.Live,I x.Tag,I x.Ran]
def api_Tenant.zero:api_Tenant:=⟨0,0,0,0,0⟩
def api_Tenant.beq (x y:api_Tenant):Bool:=((x.Weight==y.Weight)&&((x.Quota==y.Quota)&&((x.Live==y.Live)&&((x.Tag==y.Tag)&&((x.Ran==y.Ran)&&true)))))
@[ext] structure api_Timer where
 At:Int
 Id:Int
 deriving Inhabited
def api_Timer.cells (x:api_Timer):List V:=[I x.At,I x.Id]
def api_Timer.zero:api_Timer:=⟨0,0⟩
def api_Timer.beq (x y:api_Timer):Bool:=((x.At==y.At)&&((x.Id==y.Id)&&true))
@[ext] structure api_Fd where
 Open:Bool
 Ready:Bool
 Who:Int
 deriving Inhabited
def api_Fd.cells (x:api_Fd):List V:=[V.bool x.Open,V.bool x.Ready,I x.Who]
def api_Fd.zero:api_Fd:=⟨false,false,0⟩
def api_Fd.beq (x y:api_Fd):Bool:=((x.Open==y.Open)&&((x.Ready==y.Ready)&&((x.Who==y.Who)&&true)))
@[ext] structure api_Sem where
 Free:Int
 Wait:List Int
 deriving Inhabited
def api_Sem.cells (x:api_Sem):List V:=[I x.Free,V.sl 1 (rws (fun n=>[I n]) x.Wait)]
def api_Sem.zero:api_Sem:=⟨0,[]⟩
@[ext] structure api_Join where
 On:Int
 Who:Int
 deriving Inhabited
def api_Join.cells (x:api_Join):List V:=[I x.On,I x.Who]
def api_Join.zero:api_Join:=⟨0,0⟩
def api_Join.beq (x y:api_Join):Bool:=((x.On==y.On)&&((x.Who==y.Who)&&true))
@[ext] structure api_Idle where
 Is:List Int
 Stack:List Int
 deriving Inhabited
def api_Idle.cells (x:api_Idle):List V:=[V.sl 1 (rws (fun n=>[I n]) x.Is),V.sl 1 (rws (fun n=>[I n]) x.Stack)]
def api_Idle.zero:api_Idle:=⟨[],[]⟩
@[ext] structure api_Hand where
 Kind:Int
 Pc:Int
 V:Int
 T:Int
 B:Int
 Won:Bool
 State:Int
 deriving Inhabited
def api_Hand.cells (x:api_Hand):List Go.AM.V:=[Go.AM.I x.Kind,Go.AM.I x.Pc,Go.AM.I x.V,Go.AM.I x.T,Go.AM.I x.B,Go.AM.V.bool x.Won,Go.AM.I x.State]
def api_Hand.zero:api_Hand:=⟨0,0,0,0,0,false,0⟩
def api_Hand.beq (x y:api_Hand):Bool:=((x.Kind==y.Kind)&&((x.Pc==y.Pc)&&((x.V==y.V)&&((x.T==y.T)&&((x.B==y.B)&&((x.Won==y.Won)&&((x.State==y.State)&&true)))))))
@[ext] structure api_Worker where
 Do:Int
 Hand:api_Hand
 At:Int
 Ask:List Int
 Task:Int
 Left:Int
 Kid:Int
 Spill:Int
 deriving Inhabited
def api_Worker.cells (x:api_Worker):List V:=[I x.Do,I x.Hand.Kind,I x.Hand.Pc,I x.Hand.V,I x.Hand.T,I x.Hand.B,V.bool x.Hand.Won,I x.Hand.State,I x.At,V.sl 1 (rws (fun n=>[I n]) x.Ask),I x.Task,I x.Left,I x.Kid,I x.Spill]
def api_Worker.zero:api_Worker:=⟨0,⟨0,0,0,0,0,false,0⟩,0,[],0,0,0,0⟩
@[ext] structure api_Event where
 Kind:Int
 Id:Int
 A:Int
 deriving Inhabited
def api_Event.cells (x:api_Event):List V:=[I x.Kind,I x.Id,I x.A]
def api_Event.zero:api_Event:=⟨0,0,0⟩
def api_Event.beq (x y:api_Event):Bool:=((x.Kind==y.Kind)&&((x.Id==y.Id)&&((x.A==y.A)&&true)))
@[ext] structure api_World where
 Now:Int
 Dice:api_Dice
 Ids:api_Places
 T:List api_Task
 Mem:List Int
 Lists:api_Chains
 Ten:List api_Tenant
 Heap:List api_Timer
 Fds:List api_Fd
 Sems:List api_Sem
 Joins:List api_Join
 Idle:api_Idle
 W:List api_Worker
 Down:Bool
 Seen:List api_Event
 deriving Inhabited
def api_World.cells (x:api_World):List V:=[I x.Now,V.sl 1 (rws (fun n=>[V.int .u8 n]) x.Dice.L),I x.Dice.At,V.sl 1 (rws (fun n=>[I n]) x.Ids.Gen),V.sl 1 (rws (fun b=>[V.bool b]) x.Ids.Live),V.sl 11 (rws api_Task.cells x.T),V.sl 1 (rws (fun n=>[I n]) x.Mem),V.sl 1 (rws (fun n=>[I n]) x.Lists.Next),V.sl 1 (rws (fun n=>[I n]) x.Lists.Head),V.sl 1 (rws (fun n=>[I n]) x.Lists.Tail),V.sl 5 (rws api_Tenant.cells x.Ten),V.sl 2 (rws api_Timer.cells x.Heap),V.sl 3 (rws api_Fd.cells x.Fds),V.sl 2 (rws api_Sem.cells x.Sems),V.sl 2 (rws api_Join.cells x.Joins),V.sl 1 (rws (fun n=>[I n]) x.Idle.Is),V.sl 1 (rws (fun n=>[I n]) x.Idle.Stack),V.sl 14 (rws api_Worker.cells x.W),V.bool x.Down,V.sl 3 (rws api_Event.cells x.Seen)]
def api_World.zero:api_World:=⟨0,⟨[],0⟩,⟨[],[]⟩,[],[],⟨[],[],[]⟩,[],[],[],[],[],⟨[],[]⟩,[],false,[]⟩
def w20_plain (a0:Int):api_Config :=
 (api_Config.mk 1 1 1 [1] [a0] [[(api_Instr.mk 9 0 0)]] 3 0 [])
def entry_within (a1:Int) (a2:Int) (a3:Int):Bool :=
 ((decide (a1≥a2))&&(decide (a1≤a3)))
def code_within (a4:Int) (a5:Int):Bool :=
 ((decide (a4≥0))&&(decide (a4 < a5)))
def code_odd_j2 (v6:Bool) (v7:Bool):Bool :=
 ((!v6)||(!v7))
def code_odd_j4 (a8:api_Instr) (v9:Bool):Bool :=
 if v9=true then
  code_odd_j2 (code_within a8.A 8) (a8.B==0)
 else
  true
def code_odd_j3 (a8:api_Instr) (v10:Bool):Bool :=
 if v10=true then
  code_odd_j2 (a8.A==0) (a8.B==0)
 else
  if (a8.Op==4)=true then
   code_odd_j2 (code_within (IntKind.i64.wrap (a8.A - 1)) 1000) (a8.B==0)
  else
   if (a8.Op==5)=true then
    code_odd_j2 (code_within a8.A 16) (a8.B==0)
   else
    if (a8.Op==6)=true then
     code_odd_j2 (code_within a8.A 4) (a8.B==0)
    else
     if (a8.Op==7)=true then
      code_odd_j4 a8 (a8.Op==7)
     else
      code_odd_j4 a8 (a8.Op==8)
def code_odd (a8:api_Instr):Bool :=
 if (a8.Op==1)=true then
  code_odd_j2 (code_within (IntKind.i64.wrap (a8.A - 1)) 100) (a8.B==0)
 else
  if (a8.Op==2)=true then
   code_odd_j2 (code_within a8.A 16) (code_within a8.B 4)
  else
   if (a8.Op==3)=true then
    code_odd_j3 a8 (a8.Op==3)
   else
    code_odd_j3 a8 (a8.Op==9)
noncomputable def slices_IndexFunc_api_Instr_api_Instr_odd232_s1 (a11:List api_Instr):(Int)→Option ((Int) ⊕ (Int))
 | v12 =>
  if (decide (v12 < (a11.length:Int)))=true then
   if 0≤v12∧v12 < (a11.length:Int) then
    if (code_odd (gt a11 v12))=true then
     inrO (
      some v12)
    else
     nextO (IntKind.i64.wrap (v12+1))
   else none
  else
   inrO (
    some (-1))
noncomputable def slices_IndexFunc_api_Instr_api_Instr_odd232 (a11:List api_Instr):Option Int :=
 whileO (slices_IndexFunc_api_Instr_api_Instr_odd232_s1 a11) 0
noncomputable def slices_ContainsFunc_api_Instr_api_Instr_odd232 (a13:List api_Instr):Option Bool :=
 (slices_IndexFunc_api_Instr_api_Instr_odd232 a13).bind fun x14 =>
 some (decide (x14≥0))
noncomputable def code_Check (a15:List api_Instr):Option Int :=
 if ((decide ((a15.length:Int) < 1))||(decide ((a15.length:Int) > 32)))=true then
  some 1
 else
  (slices_ContainsFunc_api_Instr_api_Instr_odd232 a15).bind fun x16 =>
  if x16=true then
   some 1
  else
   some 0
noncomputable def code_CheckAll_j13 (v17:Int) (v18:Int):Option ((Int) ⊕ (Int)) :=
 if (decide (v18≥0))=true then
  inrO (
   some 1)
 else
  nextO (IntKind.i64.wrap (v17+1))
noncomputable def code_CheckAll_s14 (a19:List (List api_Instr)) (v17:Int):(Int)→Option ((Int) ⊕ ((Int) ⊕ (Int)))
 | v20 =>
  if (decide (v20 < ((gt a19 v17).length:Int)))=true then
   if 0≤v20∧v20 < ((gt a19 v17).length:Int) then
    if ((((gt (gt a19 v17) v20).Op)==2)&&(decide (((gt (gt a19 v17) v20).A)≥(a19.length:Int))))=true then
     inrO (
      code_CheckAll_j13 v17 v20)
    else
     nextO (IntKind.i64.wrap (v20+1))
   else none
  else
   inrO (
    code_CheckAll_j13 v17 (-1))
noncomputable def code_CheckAll_s9 (a19:List (List api_Instr)):(Int)→Option ((Int) ⊕ (Int))
 | v17 =>
  if (decide (v17 < (a19.length:Int)))=true then
   if 0≤v17∧v17 < (a19.length:Int) then
    (code_Check (gt a19 v17)).bind fun x21 =>
    if (x21 != 0)=true then
     inrO (
      some 1)
    else
     whileO (code_CheckAll_s14 a19 v17) 0
   else none
  else
   inrO (
    some 0)
noncomputable def code_CheckAll (a19:List (List api_Instr)):Option Int :=
 if ((decide ((a19.length:Int) < 1))||(decide ((a19.length:Int) > 16)))=true then
  some 1
 else
  whileO (code_CheckAll_s9 a19) 0
def lodge_within_int (a22:Int) (a23:Int) (a24:Int):Bool :=
 ((decide (a22≥a23))&&(decide (a22≤a24)))
def lodge_within_int64 (a25:Int) (a26:Int) (a27:Int):Bool :=
 ((decide (a25≥a26))&&(decide (a25≤a27)))
def lodge_odd (a28:api_Tenant):Bool :=
 (((((!(lodge_within_int a28.Weight 1 16))||(!(lodge_within_int a28.Quota 0 256)))||(!(lodge_within_int a28.Live 0 a28.Quota)))||(!(lodge_within_int64 a28.Tag 0 1152921504606846976)))||(!(lodge_within_int64 a28.Ran 0 1099511627776)))
noncomputable def slices_IndexFunc_api_Tenant_api_Tenant_odd182_s1 (a29:List api_Tenant):(Int)→Option ((Int) ⊕ (Int))
 | v30 =>
  if (decide (v30 < (a29.length:Int)))=true then
   if 0≤v30∧v30 < (a29.length:Int) then
    if (lodge_odd (gt a29 v30))=true then
     inrO (
      some v30)
    else
     nextO (IntKind.i64.wrap (v30+1))
   else none
  else
   inrO (
    some (-1))
noncomputable def slices_IndexFunc_api_Tenant_api_Tenant_odd182 (a29:List api_Tenant):Option Int :=
 whileO (slices_IndexFunc_api_Tenant_api_Tenant_odd182_s1 a29) 0
noncomputable def slices_ContainsFunc_api_Tenant_api_Tenant_odd182 (a31:List api_Tenant):Option Bool :=
 (slices_IndexFunc_api_Tenant_api_Tenant_odd182 a31).bind fun x32 =>
 some (decide (x32≥0))
noncomputable def lodge_Check (a33:List api_Tenant):Option Int :=
 if ((decide ((a33.length:Int) < 1))||(decide ((a33.length:Int) > 16)))=true then
  some 1
 else
  (slices_ContainsFunc_api_Tenant_api_Tenant_odd182 a33).bind fun x34 =>
  if x34=true then
   some 1
  else
   some 0
noncomputable def lodge_New_s2 (a35:List Int) (a36:List Int):((List api_Tenant)×Int)→Option (((List api_Tenant)×Int) ⊕ ((List api_Tenant)×Int))
 | (v37,v38) =>
  if (decide (v38 < ((List.replicate (Int.toNat (a35.length:Int)) api_Tenant.zero).length:Int)))=true then
   if 0≤v38∧v38 < (a35.length:Int) then
    if 0≤v38∧v38 < (a36.length:Int) then
     if 0≤v38∧v38 < (v37.length:Int) then
      nextO (st v37 v38 (api_Tenant.mk (gt a35 v38) (gt a36 v38) 0 0 0),IntKind.i64.wrap (v38+1))
     else none
    else none
   else none
  else
   inrO (
    (lodge_Check v37).bind fun x39 =>
    if (x39 != 0)=true then
     some ([],x39)
    else
     some (v37,0))
noncomputable def lodge_New (a35:List Int) (a36:List Int):Option ((List api_Tenant)×Int) :=
 if (((a35.length:Int) != (a36.length:Int))||(decide ((a35.length:Int) > 16)))=true then
  some ([],1)
 else
  if 0≤(a35.length:Int)∧(a35.length:Int)≤(a35.length:Int)∧(a35.length:Int)≤549755813888 then
   whileO (lodge_New_s2 a35 a36) (List.replicate (Int.toNat (a35.length:Int)) api_Tenant.zero,0)
  else none
def sema_New (a40:Int):api_Sem×Int :=
 if ((decide (a40 < 0))||(decide (a40 > 1000)))=true then
  (api_Sem.zero,1)
 else
  ((api_Sem.mk a40 []),0)
def entry_Config_1 (a41:Int):Bool :=
 letO (sema_New a41) fun(x42,x43) =>
 (x43 != 0)
noncomputable def slices_IndexFunc_int_int_194_s1 (a44:List Int):(Int)→Option ((Int) ⊕ (Int))
 | v45 =>
  if (decide (v45 < (a44.length:Int)))=true then
   if 0≤v45∧v45 < (a44.length:Int) then
    if (entry_Config_1 (gt a44 v45))=true then
     inrO (
      some v45)
    else
     nextO (IntKind.i64.wrap (v45+1))
   else none
  else
   inrO (
    some (-1))
noncomputable def slices_IndexFunc_int_int_194 (a44:List Int):Option Int :=
 whileO (slices_IndexFunc_int_int_194_s1 a44) 0
noncomputable def slices_ContainsFunc_int_int_194 (a46:List Int):Option Bool :=
 (slices_IndexFunc_int_int_194 a46).bind fun x47 =>
 some (decide (x47≥0))
noncomputable def entry_Config_j196 (v48:Int):Option Int :=
 if (decide (v48≥0))=true then
  some 1
 else
  some 0
noncomputable def entry_Config_j293 (v49:Int) (v50:Int):Option ((Int) ⊕ (Int)) :=
 if (decide (v50≥0))=true then
  inrO (
   entry_Config_j196 v49)
 else
  nextO (IntKind.i64.wrap (v49+1))
noncomputable def entry_Config_j300 (v49:Int) (v51:Int) (v52:Bool):Option ((Int) ⊕ ((Int) ⊕ (Int))) :=
 if v52=true then
  inrO (
   entry_Config_j293 v49 v51)
 else
  nextO (IntKind.i64.wrap (v51+1))
noncomputable def entry_Config_j301 (a53:api_Config) (v49:Int) (v51:Int) (v54:Bool):Option ((Int) ⊕ ((Int) ⊕ (Int))) :=
 if v54=true then
  entry_Config_j300 v49 v51 (decide (((gt (gt a53.Progs v49) v51).A)≥(a53.Sems.length:Int)))
 else
  entry_Config_j300 v49 v51 false
noncomputable def entry_Config_s298 (a53:api_Config) (v49:Int):(Int)→Option ((Int) ⊕ ((Int) ⊕ (Int)))
 | v51 =>
  if (decide (v51 < ((gt a53.Progs v49).length:Int)))=true then
   if 0≤v51∧v51 < ((gt a53.Progs v49).length:Int) then
    if (((gt (gt a53.Progs v49) v51).Op)==5)=true then
     entry_Config_j300 v49 v51 (decide (((gt (gt a53.Progs v49) v51).A)≥a53.Fds))
    else
     if (((gt (gt a53.Progs v49) v51).Op)==7)=true then
      entry_Config_j301 a53 v49 v51 (((gt (gt a53.Progs v49) v51).Op)==7)
     else
      entry_Config_j301 a53 v49 v51 (((gt (gt a53.Progs v49) v51).Op)==8)
   else none
  else
   inrO (
    entry_Config_j293 v49 (-1))
noncomputable def entry_Config_s261 (a53:api_Config):(Int)→Option ((Int) ⊕ (Int))
 | v49 =>
  if (decide (v49 < (a53.Progs.length:Int)))=true then
   if 0≤v49∧v49 < (a53.Progs.length:Int) then
    whileO (entry_Config_s298 a53 v49) 0
   else none
  else
   inrO (
    entry_Config_j196 (-1))
noncomputable def entry_Config (a53:api_Config):Option Int :=
 if (((!(((((entry_within a53.Workers 1 64)&&(entry_within a53.Cap 1 1024))&&(entry_within a53.Budget 1 100))&&(entry_within a53.Tasks 1 256))&&(entry_within a53.Fds 0 16)))||(decide ((IntKind.i64.wrap (a53.Workers*(IntKind.i64.wrap (a53.Cap+2)))) > 65536)))||(decide ((a53.Sems.length:Int) > 8)))=true then
  some 1
 else
  (code_CheckAll a53.Progs).bind fun x55 =>
  if (x55 != 0)=true then
   some 1
  else
   (lodge_New a53.Weights a53.Quotas).bind fun(x56,x57) =>
   if (x57 != 0)=true then
    some 1
   else
    (slices_ContainsFunc_int_int_194 a53.Sems).bind fun x58 =>
    if x58=true then
     some 1
    else
     whileO (entry_Config_s261 a53) 0
def crew_fresh (a59:Int):api_Worker :=
 (api_Worker.mk 0 api_Hand.zero 0 [] a59 0 (-1) 0)
def math_bits_Mul64 (a60:Int) (a61:Int):Int×Int :=
 (IntKind.u64.wrap ((IntKind.u64.wrap ((IntKind.u64.wrap ((Int.fdiv a60 (2 ^ (min (Int.toNat 32) IntKind.u64.bits)))*(Int.fdiv a61 (2 ^ (min (Int.toNat 32) IntKind.u64.bits)))))+(Int.fdiv (IntKind.u64.wrap ((IntKind.u64.wrap ((Int.fdiv a60 (2 ^ (min (Int.toNat 32) IntKind.u64.bits)))*(IntKind.u64.wrap (BitVec.ofInt IntKind.u64.bits a61 &&& BitVec.ofInt IntKind.u64.bits 4294967295).toNat)))+(Int.fdiv (IntKind.u64.wrap ((IntKind.u64.wrap (BitVec.ofInt IntKind.u64.bits a60 &&& BitVec.ofInt IntKind.u64.bits 4294967295).toNat)*(IntKind.u64.wrap (BitVec.ofInt IntKind.u64.bits a61 &&& BitVec.ofInt IntKind.u64.bits 4294967295).toNat))) (2 ^ (min (Int.toNat 32) IntKind.u64.bits))))) (2 ^ (min (Int.toNat 32) IntKind.u64.bits)))))+(Int.fdiv (IntKind.u64.wrap ((IntKind.u64.wrap (BitVec.ofInt IntKind.u64.bits (IntKind.u64.wrap ((IntKind.u64.wrap ((Int.fdiv a60 (2 ^ (min (Int.toNat 32) IntKind.u64.bits)))*(IntKind.u64.wrap (BitVec.ofInt IntKind.u64.bits a61 &&& BitVec.ofInt IntKind.u64.bits 4294967295).toNat)))+(Int.fdiv (IntKind.u64.wrap ((IntKind.u64.wrap (BitVec.ofInt IntKind.u64.bits a60 &&& BitVec.ofInt IntKind.u64.bits 4294967295).toNat)*(IntKind.u64.wrap (BitVec.ofInt IntKind.u64.bits a61 &&& BitVec.ofInt IntKind.u64.bits 4294967295).toNat))) (2 ^ (min (Int.toNat 32) IntKind.u64.bits))))) &&& BitVec.ofInt IntKind.u64.bits 4294967295).toNat)+(IntKind.u64.wrap ((IntKind.u64.wrap (BitVec.ofInt IntKind.u64.bits a60 &&& BitVec.ofInt IntKind.u64.bits 4294967295).toNat)*(Int.fdiv a61 (2 ^ (min (Int.toNat 32) IntKind.u64.bits))))))) (2 ^ (min (Int.toNat 32) IntKind.u64.bits)))),IntKind.u64.wrap (a60*a61))
def math_bits_Mul (a62:Int) (a63:Int):Int×Int :=
 letO (math_bits_Mul64 a62 a63) fun(x64,x65) =>
 (x64,x65)
noncomputable def slices_Repeat_api_Worker_api_Worker_s1 :((List api_Worker)×Int)→Option (((List api_Worker)×Int) ⊕ (List api_Worker))
 | (v66,v67) =>
  if (decide (v67 < (v66.length:Int)))=true then
   if 0≤v67∧v67≤(v66.length:Int) then
    if 0≤v67∧v67≤(v66.length:Int) then
     nextO (cpy v66 v67 (sub v66 0 v67),IntKind.i64.wrap (v67+(cpn v66 v67 (sub v66 0 v67))))
    else none
   else none
  else
   inrO (
    some v66)
noncomputable def slices_Repeat_api_Worker_api_Worker (a68:List api_Worker) (a69:Int):Option (List api_Worker) :=
 if (decide (a69 < 0))=true then
  none
 else
  letO (math_bits_Mul (IntKind.u64.wrap (a68.length:Int)) (IntKind.u64.wrap a69)) fun(x70,x71) =>
  if ((decide (x70 > 0))||(decide (x71 > 9223372036854775807)))=true then
   none
  else
   if 0≤(IntKind.i64.wrap x71)∧(IntKind.i64.wrap x71)≤(IntKind.i64.wrap x71)∧(IntKind.i64.wrap x71)≤549755813888 then
    whileO slices_Repeat_api_Worker_api_Worker_s1 (cpy (List.replicate (Int.toNat (IntKind.i64.wrap x71)) api_Worker.zero) 0 a68,(cpn (List.replicate (Int.toNat (IntKind.i64.wrap x71)) api_Worker.zero) 0 a68))
   else none
noncomputable def slot_New (a72:Int):Option (api_Places×Int) :=
 if ((decide (a72 < 1))||(decide (a72 > 256)))=true then
  some (api_Places.zero,1)
 else
  if 0≤a72∧a72≤a72∧a72≤549755813888 then
   if 0≤a72∧a72≤a72∧a72≤549755813888 then
    some ((api_Places.mk (List.replicate (Int.toNat a72) (0:Int)) (List.replicate (Int.toNat a72) false)),0)
   else none
  else none
noncomputable def cell_New (a73:Int):Option ((List Int)×Int) :=
 if ((decide (a73 < 0))||(decide (a73 > 65536)))=true then
  some ([],1)
 else
  if 0≤a73∧a73≤a73∧a73≤549755813888 then
   some (List.replicate (Int.toNat a73) (0:Int),0)
  else none
noncomputable def slices_Repeat_int_int_s1 :((List Int)×Int)→Option (((List Int)×Int) ⊕ (List Int))
 | (v74,v75) =>
  if (decide (v75 < (v74.length:Int)))=true then
   if 0≤v75∧v75≤(v74.length:Int) then
    if 0≤v75∧v75≤(v74.length:Int) then
     nextO (cpy v74 v75 (sub v74 0 v75),IntKind.i64.wrap (v75+(cpn v74 v75 (sub v74 0 v75))))
    else none
   else none
  else
   inrO (
    some v74)
noncomputable def slices_Repeat_int_int (a76:List Int) (a77:Int):Option (List Int) :=
 if (decide (a77 < 0))=true then
  none
 else
  letO (math_bits_Mul (IntKind.u64.wrap (a76.length:Int)) (IntKind.u64.wrap a77)) fun(x78,x79) =>
  if ((decide (x78 > 0))||(decide (x79 > 9223372036854775807)))=true then
   none
  else
   if 0≤(IntKind.i64.wrap x79)∧(IntKind.i64.wrap x79)≤(IntKind.i64.wrap x79)∧(IntKind.i64.wrap x79)≤549755813888 then
    whileO slices_Repeat_int_int_s1 (cpy (List.replicate (Int.toNat (IntKind.i64.wrap x79)) (0:Int)) 0 a76,(cpn (List.replicate (Int.toNat (IntKind.i64.wrap x79)) (0:Int)) 0 a76))
   else none
noncomputable def chain_New (a80:Int) (a81:Int):Option (api_Chains×Int) :=
 if ((((decide (a80 < 0))||(decide (a80 > 1024)))||(decide (a81 < 1)))||(decide (a81 > 256)))=true then
  some (api_Chains.zero,1)
 else
  (slices_Repeat_int_int [-2] a80).bind fun x82 =>
  (slices_Repeat_int_int [-1] a81).bind fun x83 =>
  (slices_Repeat_int_int [-1] a81).bind fun x84 =>
  some ((api_Chains.mk x82 x83 x84),0)
def poll_shut :api_Fd :=
 (api_Fd.mk false false (-1))
noncomputable def slices_Repeat_api_Fd_api_Fd_s1 :((List api_Fd)×Int)→Option (((List api_Fd)×Int) ⊕ (List api_Fd))
 | (v85,v86) =>
  if (decide (v86 < (v85.length:Int)))=true then
   if 0≤v86∧v86≤(v85.length:Int) then
    if 0≤v86∧v86≤(v85.length:Int) then
     nextO (cpy v85 v86 (sub v85 0 v86),IntKind.i64.wrap (v86+(cpn v85 v86 (sub v85 0 v86))))
    else none
   else none
  else
   inrO (
    some v85)
noncomputable def slices_Repeat_api_Fd_api_Fd (a87:List api_Fd) (a88:Int):Option (List api_Fd) :=
 if (decide (a88 < 0))=true then
  none
 else
  letO (math_bits_Mul (IntKind.u64.wrap (a87.length:Int)) (IntKind.u64.wrap a88)) fun(x89,x90) =>
  if ((decide (x89 > 0))||(decide (x90 > 9223372036854775807)))=true then
   none
  else
   if 0≤(IntKind.i64.wrap x90)∧(IntKind.i64.wrap x90)≤(IntKind.i64.wrap x90)∧(IntKind.i64.wrap x90)≤549755813888 then
    whileO slices_Repeat_api_Fd_api_Fd_s1 (cpy (List.replicate (Int.toNat (IntKind.i64.wrap x90)) api_Fd.zero) 0 a87,(cpn (List.replicate (Int.toNat (IntKind.i64.wrap x90)) api_Fd.zero) 0 a87))
   else none
noncomputable def poll_New (a91:Int):Option ((List api_Fd)×Int) :=
 if ((decide (a91 < 0))||(decide (a91 > 16)))=true then
  some ([],1)
 else
  letO (poll_shut) fun x92 =>
  (slices_Repeat_api_Fd_api_Fd [x92] a91).bind fun x93 =>
  some (x93,0)
noncomputable def idle_New (a94:Int):Option (api_Idle×Int) :=
 if ((decide (a94 < 1))||(decide (a94 > 64)))=true then
  some (api_Idle.zero,1)
 else
  if 0≤a94∧a94≤a94∧a94≤549755813888 then
   some ((api_Idle.mk (List.replicate (Int.toNat a94) (0:Int)) []),0)
  else none
@[ext] structure A6_Int where
 a0:Int
 a1:Int
 a2:Int
 a3:Int
 a4:Int
 a5:Int
 deriving Inhabited
def A6_Int.cells (x:A6_Int):List V:=[I x.a0,I x.a1,I x.a2,I x.a3,I x.a4,I x.a5]
def A6_Int.zero:A6_Int:=⟨0,0,0,0,0,0⟩
def A6_Int.beq (x y:A6_Int):Bool:=((x.a0==y.a0)&&((x.a1==y.a1)&&((x.a2==y.a2)&&((x.a3==y.a3)&&((x.a4==y.a4)&&((x.a5==y.a5)&&true))))))
noncomputable def crew_Start_s2 (a95:api_Config) (x96:List api_Worker) (x97:api_Places) (x98:Int) (x99:List Int) (x100:Int) (x101:api_Chains) (x102:Int) (x103:List api_Tenant) (x104:Int) (x105:List api_Fd) (x106:Int) (x107:api_Idle) (x108:Int):(Int×(List api_Sem))→Option ((Int×(List api_Sem)) ⊕ (api_World×Int))
 | (v109,v110) =>
  if (decide (v109 < (a95.Sems.length:Int)))=true then
   if 0≤v109∧v109 < (a95.Sems.length:Int) then
    if few (v110++[(api_Sem.mk (gt a95.Sems v109) [])]).length then
     nextO (IntKind.i64.wrap (v109+1),v110++[(api_Sem.mk (gt a95.Sems v109) [])])
    else none
   else none
  else
   inrO (
    if (!(A6_Int.beq (A6_Int.mk x98 x100 x102 x104 x106 x108) A6_Int.zero))=true then
     some (api_World.zero,1)
    else
     some ((api_World.mk 0 api_Dice.zero x97 (List.replicate (Int.toNat a95.Tasks) api_Task.zero) x99 x101 x103 [] x105 v110 [] x107 x96 false []),0))
noncomputable def crew_Start (a95:api_Config):Option (api_World×Int) :=
 (entry_Config a95).bind fun x111 =>
 if (x111 != 0)=true then
  some (api_World.zero,x111)
 else
  letO (crew_fresh (-1)) fun x112 =>
  if 0≤a95.Tasks∧a95.Tasks≤a95.Tasks∧a95.Tasks≤549755813888 then
   (slices_Repeat_api_Worker_api_Worker [x112] a95.Workers).bind fun x96 =>
   (slot_New a95.Tasks).bind fun(x97,x98) =>
   (cell_New (IntKind.i64.wrap (a95.Workers*(IntKind.i64.wrap (a95.Cap+2))))).bind fun(x99,x100) =>
   (chain_New a95.Tasks (a95.Weights.length:Int)).bind fun(x101,x102) =>
   (lodge_New a95.Weights a95.Quotas).bind fun(x103,x104) =>
   (poll_New a95.Fds).bind fun(x105,x106) =>
   (idle_New a95.Workers).bind fun(x107,x108) =>
   whileO (crew_Start_s2 a95 x96 x97 x98 x99 x100 x101 x102 x103 x104 x105 x106 x107 x108) (0,[])
  else none
@[ext] structure crew_checker where
 c:api_Config
 w:api_World
 deriving Inhabited
def crew_checker.cells (x:crew_checker):List V:=[I x.c.Workers,I x.c.Cap,I x.c.Budget,V.sl 1 (rws (fun n=>[I n]) x.c.Weights),V.sl 1 (rws (fun n=>[I n]) x.c.Quotas),V.sl 1 (rws (fun l=>[V.sl 3 (rws api_Instr.cells l)]) x.c.Progs),I x.c.Tasks,I x.c.Fds,V.sl 1 (rws (fun n=>[I n]) x.c.Sems),I x.w.Now,V.sl 1 (rws (fun n=>[V.int .u8 n]) x.w.Dice.L),I x.w.Dice.At,V.sl 1 (rws (fun n=>[I n]) x.w.Ids.Gen),V.sl 1 (rws (fun b=>[V.bool b]) x.w.Ids.Live),V.sl 11 (rws api_Task.cells x.w.T),V.sl 1 (rws (fun n=>[I n]) x.w.Mem),V.sl 1 (rws (fun n=>[I n]) x.w.Lists.Next),V.sl 1 (rws (fun n=>[I n]) x.w.Lists.Head),V.sl 1 (rws (fun n=>[I n]) x.w.Lists.Tail),V.sl 5 (rws api_Tenant.cells x.w.Ten),V.sl 2 (rws api_Timer.cells x.w.Heap),V.sl 3 (rws api_Fd.cells x.w.Fds),V.sl 2 (rws api_Sem.cells x.w.Sems),V.sl 2 (rws api_Join.cells x.w.Joins),V.sl 1 (rws (fun n=>[I n]) x.w.Idle.Is),V.sl 1 (rws (fun n=>[I n]) x.w.Idle.Stack),V.sl 14 (rws api_Worker.cells x.w.W),V.bool x.w.Down,V.sl 3 (rws api_Event.cells x.w.Seen)]
def crew_checker.zero:crew_checker:=⟨⟨0,0,0,[],[],[],0,0,[]⟩,⟨0,⟨[],0⟩,⟨[],[]⟩,[],[],⟨[],[],[]⟩,[],[],[],[],[],⟨[],[]⟩,[],false,[]⟩⟩
def dice_Check (a113:api_Dice):Int :=
 if ((decide (a113.At < 0))||(decide (a113.At > (a113.L.length:Int))))=true then
  1
 else
  0
noncomputable def slot_Check_j4 (a114:api_Places) (v115:Int) (v116:Int):Option ((Int) ⊕ (Int)) :=
 if ((decide ((gt a114.Gen v115) < 0))||(decide ((gt a114.Gen v115) > v116)))=true then
  inrO (
   some 1)
 else
  nextO (IntKind.i64.wrap (v115+1))
noncomputable def slot_Check_s3 (a114:api_Places):(Int)→Option ((Int) ⊕ (Int))
 | v115 =>
  if (decide (v115 < (a114.Gen.length:Int)))=true then
   if 0≤v115∧v115 < (a114.Gen.length:Int) then
    if 0≤v115∧v115 < (a114.Live.length:Int) then
     if (gt a114.Live v115)=true then
      slot_Check_j4 a114 v115 1099511627775
     else
      slot_Check_j4 a114 v115 1099511627776
    else none
   else none
  else
   inrO (
    some 0)
noncomputable def slot_Check (a114:api_Places):Option Int :=
 if (((decide ((a114.Gen.length:Int) < 1))||(decide ((a114.Gen.length:Int) > 256)))||((a114.Live.length:Int) != (a114.Gen.length:Int)))=true then
  some 1
 else
  whileO (slot_Check_s3 a114) 0
noncomputable def chain_Check_j19 (a117:api_Chains) (v118:Int) (v119:List Bool) (v120:Int) (v121:Int):Option ((Int×(List Bool)) ⊕ (Int)) :=
 if (v121 != (-1))=true then
  inrO (
   some 1)
 else
  if 0≤v118∧v118 < (a117.Tail.length:Int) then
   if ((gt a117.Tail v118) != v120)=true then
    inrO (
     some 1)
   else
    nextO (IntKind.i64.wrap (v118+1),v119)
  else none
noncomputable def chain_Check_s20 (a117:api_Chains) (v118:Int):(Int×Int×Int×(List Bool)×Int×Int)→Option ((Int×Int×Int×(List Bool)×Int×Int) ⊕ ((Int×(List Bool)) ⊕ (Int)))
 | (v122,v123,v124,v125,v126,v127) =>
  if (decide (v124 < (IntKind.i64.wrap ((a117.Next.length:Int)+1))))=true then
   if ((decide (v123 < 0))||(decide (v123≥(a117.Next.length:Int))))=true then
    inrO (
     chain_Check_j19 a117 v118 v125 v126 v127)
   else
    if 0≤v123∧v123 < (v125.length:Int) then
     if (gt v125 v123)=true then
      inrO (
       inrO (
        some 1))
     else
      if 0≤v123∧v123 < (v125.length:Int) then
       if 0≤v123∧v123 < (a117.Next.length:Int) then
        if 0≤v123∧v123 < (a117.Next.length:Int) then
         nextO (v123,(gt a117.Next v123),IntKind.i64.wrap (v124+1),st v125 v123 true,v123,(gt a117.Next v123))
        else none
       else none
      else none
    else none
  else
   inrO (
    chain_Check_j19 a117 v118 v125 v126 v127)
noncomputable def chain_Check_s21 (a117:api_Chains) (v128:List Bool):(Int)→Option ((Int) ⊕ (Int))
 | v129 =>
  if (decide (v129 < (v128.length:Int)))=true then
   if 0≤v129∧v129 < (v128.length:Int) then
    if (!(gt v128 v129))=true then
     if 0≤v129∧v129 < (a117.Next.length:Int) then
      if ((gt a117.Next v129) != (-2))=true then
       inrO (
        some 1)
      else
       nextO (IntKind.i64.wrap (v129+1))
     else none
    else
     nextO (IntKind.i64.wrap (v129+1))
   else none
  else
   inrO (
    some 0)
noncomputable def chain_Check_s17 (a117:api_Chains):(Int×(List Bool))→Option ((Int×(List Bool)) ⊕ (Int))
 | (v118,v128) =>
  if (decide (v118 < (a117.Head.length:Int)))=true then
   if 0≤v118∧v118 < (a117.Head.length:Int) then
    if 0≤v118∧v118 < (a117.Head.length:Int) then
     whileO (chain_Check_s20 a117 v118) (-1,(gt a117.Head v118),0,v128,-1,(gt a117.Head v118))
    else none
   else none
  else
   inrO (
    whileO (chain_Check_s21 a117 v128) 0)
noncomputable def chain_Check (a117:api_Chains):Option Int :=
 if ((((decide ((a117.Next.length:Int) > 1024))||(decide ((a117.Head.length:Int) < 1)))||(decide ((a117.Head.length:Int) > 256)))||((a117.Tail.length:Int) != (a117.Head.length:Int)))=true then
  some 1
 else
  if 0≤(a117.Next.length:Int)∧(a117.Next.length:Int)≤(a117.Next.length:Int)∧(a117.Next.length:Int)≤549755813888 then
   whileO (chain_Check_s17 a117) (0,List.replicate (Int.toNat (a117.Next.length:Int)) false)
  else none
def heap_may (a130:api_Timer):Bool :=
 (((decide (a130.At≥0))&&(decide (a130.At≤1125899906842624)))&&(decide (a130.Id≥0)))
def cmp_isNaN_int64 (a131:Int):Bool :=
 (a131 != a131)
def cmp_Compare_int64 (a132:Int) (a133:Int):Int :=
 if (cmp_isNaN_int64 a132)=true then
  if (cmp_isNaN_int64 a133)=true then
   0
  else
   -1
 else
  if (cmp_isNaN_int64 a133)=true then
   1
  else
   if (decide (a132 < a133))=true then
    -1
   else
    if (decide (a132 > a133))=true then
     1
    else
     0
noncomputable def cmp_Or_int_s1 (a134:List Int):(Int)→Option ((Int) ⊕ (Int))
 | v135 =>
  if (decide (v135 < (a134.length:Int)))=true then
   if 0≤v135∧v135 < (a134.length:Int) then
    if ((gt a134 v135) != 0)=true then
     inrO (
      some (gt a134 v135))
    else
     nextO (IntKind.i64.wrap (v135+1))
   else none
  else
   inrO (
    some 0)
noncomputable def cmp_Or_int (a134:List Int):Option Int :=
 whileO (cmp_Or_int_s1 a134) 0
noncomputable def heap_order (a136:api_Timer) (a137:api_Timer):Option Int :=
 (cmp_Or_int [cmp_Compare_int64 a136.At a137.At,cmp_Compare_int64 a136.Id a137.Id]).bind fun x138 =>
 some x138
noncomputable def heap_Check_s1 (a139:List api_Timer):(Int×(List (Int×Bool)))→Option ((Int×(List (Int×Bool))) ⊕ (Int))
 | (v140,v141) =>
  if (decide (v140 < (a139.length:Int)))=true then
   if 0≤v140∧v140 < (a139.length:Int) then
    if (!(heap_may (gt a139 v140)))=true then
     inrO (
      some 1)
    else
     if ((mget v141 ((gt a139 v140).Id)).getD false)=true then
      inrO (
       some 1)
     else
      if (decide (v140 > 0))=true then
       if 0≤(IntKind.i64.wrap (Int.tdiv (IntKind.i64.wrap (v140 - 1)) 4))∧(IntKind.i64.wrap (Int.tdiv (IntKind.i64.wrap (v140 - 1)) 4)) < (a139.length:Int) then
        (heap_order (gt a139 v140) (gt a139 (IntKind.i64.wrap (Int.tdiv (IntKind.i64.wrap (v140 - 1)) 4)))).bind fun x142 =>
        if (decide (x142 < 0))=true then
         inrO (
          some 1)
        else
         nextO (IntKind.i64.wrap (v140+1),mput v141 ((gt a139 v140).Id) true)
       else none
      else
       nextO (IntKind.i64.wrap (v140+1),mput v141 ((gt a139 v140).Id) true)
   else none
  else
   inrO (
    some 0)
noncomputable def heap_Check (a139:List api_Timer):Option Int :=
 if (decide ((a139.length:Int) > 256))=true then
  some 1
 else
  whileO (heap_Check_s1 a139) (0,[])
noncomputable def poll_Check_s2 (a143:List api_Fd):(Int×(List (Int×Bool)))→Option ((Int×(List (Int×Bool))) ⊕ (Int))
 | (v144,v145) =>
  if (decide (v144 < (a143.length:Int)))=true then
   if 0≤v144∧v144 < (a143.length:Int) then
    if (decide (((gt a143 v144).Who) < (-1)))=true then
     inrO (
      some 1)
    else
     if (!((gt a143 v144).Open))=true then
      letO (poll_shut) fun x146 =>
      if (!(api_Fd.beq (gt a143 v144) x146))=true then
       inrO (
        some 1)
      else
       if ((gt a143 v144).Ready)=true then
        if ((((gt a143 v144).Who) != (-1))||((mget v145 ((gt a143 v144).Who)).getD false))=true then
         inrO (
          some 1)
        else
         nextO (IntKind.i64.wrap (v144+1),mput v145 ((gt a143 v144).Who) (((gt a143 v144).Who) != (-1)))
       else
        if ((mget v145 ((gt a143 v144).Who)).getD false)=true then
         inrO (
          some 1)
        else
         nextO (IntKind.i64.wrap (v144+1),mput v145 ((gt a143 v144).Who) (((gt a143 v144).Who) != (-1)))
     else
      if ((gt a143 v144).Ready)=true then
       if ((((gt a143 v144).Who) != (-1))||((mget v145 ((gt a143 v144).Who)).getD false))=true then
        inrO (
         some 1)
       else
        nextO (IntKind.i64.wrap (v144+1),mput v145 ((gt a143 v144).Who) (((gt a143 v144).Who) != (-1)))
      else
       if ((mget v145 ((gt a143 v144).Who)).getD false)=true then
        inrO (
         some 1)
       else
        nextO (IntKind.i64.wrap (v144+1),mput v145 ((gt a143 v144).Who) (((gt a143 v144).Who) != (-1)))
   else none
  else
   inrO (
    if (decide ((a143.length:Int) > 16))=true then
     some 1
    else
     some 0)
noncomputable def poll_Check (a143:List api_Fd):Option Int :=
 whileO (poll_Check_s2 a143) (0,[])
noncomputable def joins_Check_j12 (v147:Bool):Option Bool :=
 if v147=true then
  some true
 else
  some false
noncomputable def joins_Check_s13 (v148:List (Int×Int)) (k149:Int):(Int×Bool×Int)→Option ((Int×Bool×Int) ⊕ (Bool))
 | (v150,v151,v152) =>
  if (decide (v152 < (v148.length:Int)))=true then
   if (!v151)=true then
    inrO (
     joins_Check_j12 false)
   else
    if (v150==k149)=true then
     inrO (
      joins_Check_j12 true)
    else
     nextO (((mget v148 v150).getD 0),(mget v148 v150).isSome,IntKind.i64.wrap (v152+1))
  else
   inrO (
    joins_Check_j12 false)
noncomputable def joins_Check_s10 (a153:List api_Join):(Int×(List (Int×Int)))→Option ((Int×(List (Int×Int))) ⊕ (Int))
 | (v154,v148) =>
  if (decide (v154 < (a153.length:Int)))=true then
   if 0≤v154∧v154 < (a153.length:Int) then
    if (((mget v148 ((gt a153 v154).Who)).isSome)||(decide ((if ((gt a153 v154).Who) < ((gt a153 v154).On) then (gt a153 v154).Who else (gt a153 v154).On) < 0)))=true then
     inrO (
      some 1)
    else
     nextO (IntKind.i64.wrap (v154+1),mput v148 ((gt a153 v154).Who) ((gt a153 v154).On))
   else none
  else
   inrO (
    if (!(decide ((a153.length:Int)≤256)))=true then
     some 1
    else
     (anyO (fun k149 v155 =>
      whileO (joins_Check_s13 v148 k149) (((mget v148 k149).getD 0),(mget v148 k149).isSome,0)) v148).bind fun b156 =>
     if b156=true then
      some 1
     else
      some 0)
noncomputable def joins_Check (a153:List api_Join):Option Int :=
 whileO (joins_Check_s10 a153) (0,[])
noncomputable def idle_counted_s1 (a157:api_Idle):(Int×Int×Int×Int×Int)→Option ((Int×Int×Int×Int×Int) ⊕ (A4_Int×Bool))
 | (v158,v159,v160,v161,v162) =>
  if (decide (v158 < (a157.Is.length:Int)))=true then
   if 0≤v158∧v158 < (a157.Is.length:Int) then
    if ((decide ((gt a157.Is v158) < 0))||(decide ((gt a157.Is v158) > 3)))=true then
     inrO (
      some (A4_Int.zero,false))
    else
     if 0≤(gt a157.Is v158)∧(gt a157.Is v158) < (4:Int) then
      if 0≤(gt a157.Is v158)∧(gt a157.Is v158) < (4:Int) then
       nextO (IntKind.i64.wrap (v158+1),(if (gt a157.Is v158)=0 then IntKind.i64.wrap ((if (gt a157.Is v158)=0 then v159 else (if (gt a157.Is v158)=1 then v160 else (if (gt a157.Is v158)=2 then v161 else v162)))+1) else v159),(if (gt a157.Is v158)=1 then IntKind.i64.wrap ((if (gt a157.Is v158)=0 then v159 else (if (gt a157.Is v158)=1 then v160 else (if (gt a157.Is v158)=2 then v161 else v162)))+1) else v160),(if (gt a157.Is v158)=2 then IntKind.i64.wrap ((if (gt a157.Is v158)=0 then v159 else (if (gt a157.Is v158)=1 then v160 else (if (gt a157.Is v158)=2 then v161 else v162)))+1) else v161),(if (gt a157.Is v158)=3 then IntKind.i64.wrap ((if (gt a157.Is v158)=0 then v159 else (if (gt a157.Is v158)=1 then v160 else (if (gt a157.Is v158)=2 then v161 else v162)))+1) else v162))
      else none
     else none
   else none
  else
   inrO (
    some ((A4_Int.mk v159 v160 v161 v162),true))
noncomputable def idle_counted (a157:api_Idle):Option (A4_Int×Bool) :=
 whileO (idle_counted_s1 a157) (0,0,0,0,0)
def idle_tally_fits (a163:A4_Int):Bool :=
 decide (a163.a1≤(IntKind.i64.wrap (Int.tdiv (IntKind.i64.wrap ((IntKind.i64.wrap ((IntKind.i64.wrap (a163.a0+a163.a1))+a163.a2))+1)) 2)))
noncomputable def idle_Check_j4 (a164:api_Idle) (v165:List Bool) (v166:Int) (b167:Bool):Option (((List Bool)×Int) ⊕ (Int)) :=
 if b167=true then
  inrO (
   some 1)
 else
  if 0≤(gt a164.Stack v166)∧(gt a164.Stack v166) < (a164.Is.length:Int) then
   if (decide ((gt a164.Is (gt a164.Stack v166)) < 2))=true then
    inrO (
     some 1)
   else
    if 0≤(gt a164.Stack v166)∧(gt a164.Stack v166) < (v165.length:Int) then
     nextO (st v165 (gt a164.Stack v166) true,IntKind.i64.wrap (v166+1))
    else none
  else none
noncomputable def idle_Check_s3 (a164:api_Idle):((List Bool)×Int)→Option (((List Bool)×Int) ⊕ (Int))
 | (v165,v166) =>
  if (decide (v166 < (a164.Stack.length:Int)))=true then
   if 0≤v166∧v166 < (a164.Stack.length:Int) then
    if ((decide ((gt a164.Stack v166) < 0))||(decide ((gt a164.Stack v166)≥(v165.length:Int))))=true then
     idle_Check_j4 a164 v165 v166 true
    else
     if 0≤(gt a164.Stack v166)∧(gt a164.Stack v166) < (v165.length:Int) then
      idle_Check_j4 a164 v165 v166 (gt v165 (gt a164.Stack v166))
     else none
   else none
  else
   inrO (
    some 0)
noncomputable def idle_Check (a164:api_Idle):Option Int :=
 (idle_counted a164).bind fun(x168,x169) =>
 if (((((!x169)||(decide ((a164.Is.length:Int) < 1)))||(decide ((a164.Is.length:Int) > 64)))||(!(idle_tally_fits x168)))||((a164.Stack.length:Int) != (IntKind.i64.wrap (x168.a2+x168.a3))))=true then
  some 1
 else
  if 0≤(a164.Is.length:Int)∧(a164.Is.length:Int)≤(a164.Is.length:Int)∧(a164.Is.length:Int)≤549755813888 then
   whileO (idle_Check_s3 a164) (List.replicate (Int.toNat (a164.Is.length:Int)) false,0)
  else none
noncomputable def sema_Check_s1 (a170:api_Sem):(Int×(List (Int×Bool)))→Option ((Int×(List (Int×Bool))) ⊕ (Int))
 | (v171,v172) =>
  if (decide (v171 < (a170.Wait.length:Int)))=true then
   if 0≤v171∧v171 < (a170.Wait.length:Int) then
    if ((decide ((gt a170.Wait v171) < 0))||((mget v172 (gt a170.Wait v171)).getD false))=true then
     inrO (
      some 1)
    else
     nextO (IntKind.i64.wrap (v171+1),mput v172 (gt a170.Wait v171) true)
   else none
  else
   inrO (
    some 0)
noncomputable def sema_Check (a170:api_Sem):Option Int :=
 if ((((decide (a170.Free < 0))||(decide (a170.Free > 1000)))||(decide ((a170.Wait.length:Int) > 256)))||(decide ((if (a170.Wait.length:Int) < a170.Free then (a170.Wait.length:Int) else a170.Free) > 0)))=true then
  some 1
 else
  whileO (sema_Check_s1 a170) (0,mput [] (-1) true)
noncomputable def crew_checker_parts_1 (a173:api_Sem):Option Bool :=
 (sema_Check a173).bind fun x174 =>
 some (x174 != 0)
noncomputable def slices_IndexFunc_api_Sem_api_Sem_1120_s1 (a175:List api_Sem):(Int)→Option ((Int) ⊕ (Int))
 | v176 =>
  if (decide (v176 < (a175.length:Int)))=true then
   if 0≤v176∧v176 < (a175.length:Int) then
    (crew_checker_parts_1 (gt a175 v176)).bind fun x177 =>
    if x177=true then
     inrO (
      some v176)
    else
     nextO (IntKind.i64.wrap (v176+1))
   else none
  else
   inrO (
    some (-1))
noncomputable def slices_IndexFunc_api_Sem_api_Sem_1120 (a175:List api_Sem):Option Int :=
 whileO (slices_IndexFunc_api_Sem_api_Sem_1120_s1 a175) 0
noncomputable def slices_ContainsFunc_api_Sem_api_Sem_1120 (a178:List api_Sem):Option Bool :=
 (slices_IndexFunc_api_Sem_api_Sem_1120 a178).bind fun x179 =>
 some (decide (x179≥0))
noncomputable def crew_checker_parts_s4 (a180:crew_checker):(Int)→Option ((Int) ⊕ (Bool))
 | v181 =>
  if (decide (v181 < 10))=true then
   if 0≤v181∧v181 < (10:Int) then
    if ((if v181=0 then (a180.w.Ids.Gen.length:Int) else (if v181=1 then (a180.w.T.length:Int) else (if v181=2 then (a180.w.Lists.Next.length:Int) else (if v181=3 then (a180.w.Lists.Head.length:Int) else (if v181=4 then (a180.w.Mem.length:Int) else (if v181=5 then (a180.w.Ten.length:Int) else (if v181=6 then (a180.w.Fds.length:Int) else (if v181=7 then (a180.w.Sems.length:Int) else (if v181=8 then (a180.w.Idle.Is.length:Int) else (a180.w.W.length:Int)))))))))) != (if v181=0 then a180.c.Tasks else (if v181=1 then a180.c.Tasks else (if v181=2 then a180.c.Tasks else (if v181=3 then (a180.c.Weights.length:Int) else (if v181=4 then IntKind.i64.wrap (a180.c.Workers*(IntKind.i64.wrap (a180.c.Cap+2))) else (if v181=5 then (a180.c.Weights.length:Int) else (if v181=6 then a180.c.Fds else (if v181=7 then (a180.c.Sems.length:Int) else (if v181=8 then a180.c.Workers else a180.c.Workers))))))))))=true then
     inrO (
      some false)
    else
     nextO (IntKind.i64.wrap (v181+1))
   else none
  else
   inrO (
    if (((decide (a180.w.Now≥0))&&(decide (a180.w.Now≤1125899906842624)))&&(decide ((a180.w.Seen.length:Int)≤65536)))=true then
     (slices_ContainsFunc_api_Sem_api_Sem_1120 a180.w.Sems).bind fun x182 =>
     some (!x182)
    else
     some false)
noncomputable def crew_checker_parts_s2 (a180:crew_checker) (x183:Int) (x184:Int) (x185:Int) (x186:Int) (x187:Int) (x188:Int) (x189:Int) (x190:Int):(Int)→Option ((Int) ⊕ (Bool))
 | v191 =>
  if (decide (v191 < 9))=true then
   if 0≤v191∧v191 < (9:Int) then
    if ((if v191=0 then x183 else (if v191=1 then dice_Check a180.w.Dice else (if v191=2 then x184 else (if v191=3 then x185 else (if v191=4 then x186 else (if v191=5 then x187 else (if v191=6 then x188 else (if v191=7 then x189 else x190)))))))) != 0)=true then
     inrO (
      some false)
    else
     nextO (IntKind.i64.wrap (v191+1))
   else none
  else
   inrO (
    whileO (crew_checker_parts_s4 a180) 0)
noncomputable def crew_checker_parts (a180:crew_checker):Option Bool :=
 (entry_Config a180.c).bind fun x183 =>
 (slot_Check a180.w.Ids).bind fun x184 =>
 (chain_Check a180.w.Lists).bind fun x185 =>
 (lodge_Check a180.w.Ten).bind fun x186 =>
 (heap_Check a180.w.Heap).bind fun x187 =>
 (poll_Check a180.w.Fds).bind fun x188 =>
 (joins_Check a180.w.Joins).bind fun x189 =>
 (idle_Check a180.w.Idle).bind fun x190 =>
 whileO (crew_checker_parts_s2 a180 x183 x184 x185 x186 x187 x188 x189 x190) 0
def life_below (a192:Int) (a193:Int):Bool :=
 ((decide (a192≥0))&&(decide (a192 < a193)))
def life_state (a194:Int):Bool :=
 ((decide (a194≥1))&&(decide (a194≤7)))
noncomputable def slices_Min_int64_int64_s1 (a195:List Int):(Int×Int)→Option ((Int×Int) ⊕ (Int))
 | (v196,v197) =>
  if (decide (v197 < (a195.length:Int)))=true then
   if 0≤v197∧v197 < (a195.length:Int) then
    nextO ((if (gt a195 v197) < v196 then (gt a195 v197) else v196),IntKind.i64.wrap (v197+1))
   else none
  else
   inrO (
    some v196)
noncomputable def slices_Min_int64_int64 (a195:List Int):Option Int :=
 if (decide ((a195.length:Int) < 1))=true then
  none
 else
  if 0≤(0:Int)∧(0:Int) < (a195.length:Int) then
   whileO (slices_Min_int64_int64_s1 a195) ((gt a195 0),1)
  else none
noncomputable def life_Check (a198:api_Task):Option Int :=
 if (!((((((((decide (a198.Id≥0))&&(life_below a198.Tenant 16))&&(life_below a198.Prog 16))&&(life_below a198.Pc 33))&&(life_below a198.Unit 100))&&(life_state a198.State))&&(decide (a198.Ran≥0)))&&(decide (a198.Ran≤1099511627776))))=true then
  some 1
 else
  (slices_Min_int64_int64 [a198.Keeps.a0,a198.Keeps.a1,a198.Keeps.a2,a198.Keeps.a3]).bind fun x199 =>
  if (decide (x199 < (-1)))=true then
   some 1
  else
   some 0
noncomputable def step_Next_j2 (a200:api_Task) (v201:Int) (v202:Int) (v203:Int):Option (api_Instr×Int) :=
 if ((decide (a200.Unit > 0))&&((v201 != 1)||(decide (a200.Unit≥v202))))=true then
  some (api_Instr.zero,1)
 else
  some ((api_Instr.mk v201 v202 v203),0)
noncomputable def step_Next_j1 (a200:api_Task) (a204:List api_Instr) (b205:Bool):Option (api_Instr×Int) :=
 if (b205||(decide (a200.Pc > (a204.length:Int))))=true then
  some (api_Instr.zero,1)
 else
  if (decide (a200.Pc < (a204.length:Int)))=true then
   if 0≤a200.Pc∧a200.Pc < (a204.length:Int) then
    step_Next_j2 a200 ((gt a204 a200.Pc).Op) ((gt a204 a200.Pc).A) ((gt a204 a200.Pc).B)
   else none
  else
   step_Next_j2 a200 9 0 0
noncomputable def step_Next (a200:api_Task) (a204:List api_Instr):Option (api_Instr×Int) :=
 (life_Check a200).bind fun x206 =>
 if (x206 != 0)=true then
  step_Next_j1 a200 a204 true
 else
  (code_Check a204).bind fun x207 =>
  step_Next_j1 a200 a204 (x207 != 0)
noncomputable def crew_checker_task (a208:crew_checker) (a209:Int):Option Bool :=
 if 0≤a209∧a209 < (a208.w.T.length:Int) then
  if 0≤a209∧a209 < (a208.w.Ids.Live.length:Int) then
   if (!(gt a208.w.Ids.Live a209))=true then
    some (api_Task.beq (gt a208.w.T a209) api_Task.zero)
   else
    (life_Check (gt a208.w.T a209)).bind fun x210 =>
    if (x210 != 0)=true then
     some false
    else
     if (((gt a208.w.T a209).State)==7)=true then
      some false
     else
      if 0≤a209∧a209 < (a208.w.Ids.Gen.length:Int) then
       if (((gt a208.w.T a209).Id) != (IntKind.i64.wrap ((IntKind.i64.wrap ((gt a208.w.Ids.Gen a209)*256))+a209)))=true then
        some false
       else
        if (decide (((gt a208.w.T a209).Tenant)≥(a208.c.Weights.length:Int)))=true then
         some false
        else
         if (decide (((gt a208.w.T a209).Prog)≥(a208.c.Progs.length:Int)))=true then
          some false
         else
          if 0≤((gt a208.w.T a209).Prog)∧((gt a208.w.T a209).Prog) < (a208.c.Progs.length:Int) then
           (step_Next (gt a208.w.T a209) (gt a208.c.Progs ((gt a208.w.T a209).Prog))).bind fun(x211,x212) =>
           some (x212==0)
          else none
      else none
  else none
 else none
def slices_Clone_int_int (xs:List Int):Option (List Int):=if few xs.length then some xs else none
noncomputable def chain_own_j9 (a213:api_Chains) (v214:Int):Option (api_Chains×Int) :=
 if (decide (v214≥0))=true then
  some (api_Chains.zero,1)
 else
  (slices_Clone_int_int a213.Next).bind fun x215 =>
  (slices_Clone_int_int a213.Head).bind fun x216 =>
  (slices_Clone_int_int a213.Tail).bind fun x217 =>
  some ((api_Chains.mk x215 x216 x217),0)
noncomputable def chain_own_s10 (a213:api_Chains) (a218:List Int):(Int)→Option ((Int) ⊕ (api_Chains×Int))
 | v219 =>
  if (decide (v219 < (a218.length:Int)))=true then
   if 0≤v219∧v219 < (a218.length:Int) then
    if ((decide ((gt a218 v219) < 0))||(decide ((gt a218 v219)≥(a213.Next.length:Int))))=true then
     inrO (
      chain_own_j9 a213 v219)
    else
     nextO (IntKind.i64.wrap (v219+1))
   else none
  else
   inrO (
    chain_own_j9 a213 (-1))
noncomputable def chain_own_j5 (a213:api_Chains) (a218:List Int) (v220:Bool):Option (api_Chains×Int) :=
 if v220=true then
  some (api_Chains.zero,1)
 else
  whileO (chain_own_s10 a213 a218) 0
noncomputable def chain_own_j14 (a213:api_Chains) (a218:List Int) (v221:Int):Option (api_Chains×Int) :=
 chain_own_j5 a213 a218 (decide (v221≥0))
noncomputable def chain_own_s15 (a213:api_Chains) (a222:List Int) (a218:List Int):(Int)→Option ((Int) ⊕ (api_Chains×Int))
 | v223 =>
  if (decide (v223 < (a222.length:Int)))=true then
   if 0≤v223∧v223 < (a222.length:Int) then
    if ((decide ((gt a222 v223) < 0))||(decide ((gt a222 v223)≥(a213.Head.length:Int))))=true then
     inrO (
      chain_own_j14 a213 a218 v223)
    else
     nextO (IntKind.i64.wrap (v223+1))
   else none
  else
   inrO (
    chain_own_j14 a213 a218 (-1))
noncomputable def chain_own (a213:api_Chains) (a222:List Int) (a218:List Int):Option (api_Chains×Int) :=
 (chain_Check a213).bind fun x224 =>
 if (x224 != 0)=true then
  chain_own_j5 a213 a218 true
 else
  whileO (chain_own_s15 a213 a222 a218) 0
noncomputable def chain_Walk_s1 (a225:api_Chains):(Int×Int×Int×(List Int))→Option ((Int×Int×Int×(List Int)) ⊕ ((List Int)×Int))
 | (v226,v227,v228,v229) =>
  if (decide (v228 < (IntKind.i64.wrap ((a225.Next.length:Int)+1))))=true then
   if ((decide (v227 < 0))||(decide (v227≥(a225.Next.length:Int))))=true then
    inrO (
     some (v229,0))
   else
    if few (v229++[v227]).length then
     if 0≤v227∧v227 < (a225.Next.length:Int) then
      nextO (v227,(gt a225.Next v227),IntKind.i64.wrap (v228+1),v229++[v227])
     else none
    else none
  else
   inrO (
    some (v229,0))
noncomputable def chain_Walk (a225:api_Chains) (a230:Int):Option ((List Int)×Int) :=
 (chain_own a225 [a230] []).bind fun(x231,x232) =>
 if (x232 != 0)=true then
  some ([],x232)
 else
  if 0≤a230∧a230 < (a225.Head.length:Int) then
   whileO (chain_Walk_s1 a225) (-1,(gt a225.Head a230),0,[])
  else none
noncomputable def crew_checker_list_j4 (v233:Int):Option Bool :=
 some (!(decide (v233≥0)))
noncomputable def crew_checker_list_s5 (a234:crew_checker) (a235:Int) (x236:List Int):(Int)→Option ((Int) ⊕ (Bool))
 | v237 =>
  if (decide (v237 < (x236.length:Int)))=true then
   if 0≤v237∧v237 < (x236.length:Int) then
    if 0≤(gt x236 v237)∧(gt x236 v237) < (a234.w.T.length:Int) then
     if 0≤(gt x236 v237)∧(gt x236 v237) < (a234.w.Ids.Live.length:Int) then
      if (((!(gt a234.w.Ids.Live (gt x236 v237)))||(((gt a234.w.T (gt x236 v237)).State) != 1))||(((gt a234.w.T (gt x236 v237)).Tenant) != a235))=true then
       inrO (
        crew_checker_list_j4 v237)
      else
       nextO (IntKind.i64.wrap (v237+1))
     else none
    else none
   else none
  else
   inrO (
    crew_checker_list_j4 (-1))
noncomputable def crew_checker_list (a234:crew_checker) (a235:Int):Option Bool :=
 (chain_Walk a234.w.Lists a235).bind fun(x236,x238) =>
 if (x238==0)=true then
  whileO (crew_checker_list_s5 a234 a235 x236) 0
 else
  some false
def crew_within (a239:Int) (a240:Int) (a241:Int):Bool :=
 ((decide (a239≥a240))&&(decide (a239≤a241)))
@[ext] structure api_Deque where
 Base:Int
 Cap:Int
 deriving Inhabited
def api_Deque.cells (x:api_Deque):List V:=[I x.Base,I x.Cap]
def api_Deque.zero:api_Deque:=⟨0,0⟩
def api_Deque.beq (x y:api_Deque):Bool:=((x.Base==y.Base)&&((x.Cap==y.Cap)&&true))
def cell_Check (a242:List Int):Int :=
 if (decide ((a242.length:Int) > 65536))=true then
  1
 else
  0
def ring_Check (a243:List Int) (a244:api_Deque):Int :=
 if ((((((cell_Check a243) != 0)||(decide (a244.Cap < 1)))||(decide (a244.Cap > 1024)))||(decide (a244.Base < 0)))||(decide (a244.Base > (IntKind.i64.wrap ((IntKind.i64.wrap ((a243.length:Int) - a244.Cap)) - 2)))))=true then
  1
 else
  0
def ring_accesses (a245:Int):List Nat :=
 ((mget (mput (mput (mput [] 1 [257,258,259,260]) 2 [261,262,263,264,265,266,267]) 3 [257,268,269,270]) a245).getD [])
def ring_may (a246:api_Hand):Bool :=
 if (decide (a246.Pc≥0))=true then
  letO (ring_accesses a246.Kind) fun x247 =>
  if (decide (a246.Pc < (x247.length:Int)))=true then
   if (decide ((if a246.B < a246.T then a246.B else a246.T)≥(-1)))=true then
    if (decide ((if a246.B > a246.T then a246.B else a246.T)≤1099511627776))=true then
     if (decide (a246.State≥0))=true then
      decide (a246.State≤4)
     else
      false
    else
     false
   else
    false
  else
   false
 else
  false
@[ext] structure ring_actor where
 Hand:api_Hand
 m:List Int
 q:api_Deque
 e:Int
 deriving Inhabited
def ring_actor.cells (x:ring_actor):List V:=[I x.Hand.Kind,I x.Hand.Pc,I x.Hand.V,I x.Hand.T,I x.Hand.B,V.bool x.Hand.Won,I x.Hand.State,V.sl 1 (rws (fun n=>[I n]) x.m),I x.q.Base,I x.q.Cap,I x.e]
def ring_actor.zero:ring_actor:=⟨⟨0,0,0,0,0,false,0⟩,[],⟨0,0⟩,0⟩
def pring_actor_top (a248:ring_actor):Int :=
 (a248).q.Base
noncomputable def cell_Load (a249:List Int) (a250:Int):Option (Int×Int) :=
 if ((((cell_Check a249) != 0)||(decide (a250 < 0)))||(decide (a250≥(a249.length:Int))))=true then
  some (0,1)
 else
  if 0≤a250∧a250 < (a249.length:Int) then
   some ((gt a249 a250),0)
  else none
def pring_actor_bottom (a251:ring_actor):Int :=
 IntKind.i64.wrap (((a251).q.Base)+1)
noncomputable def pring_actor_slot (a252:ring_actor) (a253:Int):Option Int :=
 if ((a252).q.Cap)≠0 then
  some (IntKind.i64.wrap ((IntKind.i64.wrap (((a252).q.Base)+2))+(Int.tmod a253 ((a252).q.Cap))))
 else none
def slices_Clone_api_Mem_int64 (xs:List Int):Option (List Int):=if few xs.length then some xs else none
noncomputable def cell_Store (a254:List Int) (a255:Int) (a256:Int):Option ((List Int)×Int) :=
 if ((((cell_Check a254) != 0)||(decide (a255 < 0)))||(decide (a255≥(a254.length:Int))))=true then
  some ([],1)
 else
  if 0≤a255∧a255 < (a254.length:Int) then
   (slices_Clone_api_Mem_int64 a254).bind fun x257 =>
   if 0≤a255∧a255 < (x257.length:Int) then
    some (st x257 a255 a256,0)
   else none
  else none
noncomputable def cell_Cas_j1 (a258:Int) (a259:Int) (x260:List Int) (v261:List Int):Option ((List Int)×Bool×Int) :=
 some (v261,((gt x260 a258)==a259),0)
noncomputable def cell_Cas (a262:List Int) (a258:Int) (a259:Int) (a263:Int):Option ((List Int)×Bool×Int) :=
 if ((((cell_Check a262) != 0)||(decide (a258 < 0)))||(decide (a258≥(a262.length:Int))))=true then
  some ([],false,1)
 else
  if 0≤a258∧a258 < (a262.length:Int) then
   (slices_Clone_api_Mem_int64 a262).bind fun x260 =>
   if 0≤a258∧a258 < (x260.length:Int) then
    if ((gt x260 a258)==a259)=true then
     cell_Cas_j1 a258 a259 x260 (st x260 a258 a263)
    else
     cell_Cas_j1 a258 a259 x260 x260
   else none
  else none
noncomputable def ring_Step_j83 (a264:api_Hand) (v265:Int) (v266:Int) (v267:Int) (v268:Int) (v269:Bool) (v270:Int) (v271:List Int) (v272:Int):Option ((List Int)×api_Hand×Int) :=
 if (v272 != 0)=true then
  some ([],api_Hand.zero,v272)
 else
  some (v271,(api_Hand.mk a264.Kind v265 v266 v267 v268 v269 v270),0)
noncomputable def ring_Step_j89 (a273:List Int) (a264:api_Hand) (x274:Int) (v275:Int):Option ((List Int)×api_Hand×Int) :=
 ring_Step_j83 a264 (IntKind.i64.wrap (a264.Pc+1)) a264.V x274 a264.B a264.Won a264.State ([]++a273) v275
noncomputable def ring_Step_j88 (a273:List Int) (a264:api_Hand) (x274:Int) (v276:Int):Option ((List Int)×api_Hand×Int) :=
 if (!((decide (x274≥0))&&(decide (x274≤1099511627776))))=true then
  ring_Step_j89 a273 a264 x274 9
 else
  ring_Step_j89 a273 a264 x274 v276
noncomputable def ring_Step_j96 (a273:List Int) (a264:api_Hand) (x277:Int) (v278:Int) (v279:Int) (v280:Int):Option ((List Int)×api_Hand×Int) :=
 ring_Step_j83 a264 v279 a264.V a264.T x277 a264.Won v280 ([]++a273) v278
noncomputable def ring_Step_j95 (a273:List Int) (a281:api_Deque) (a264:api_Hand) (x277:Int) (v278:Int):Option ((List Int)×api_Hand×Int) :=
 if (decide ((IntKind.i64.wrap (x277 - a264.T))≥a281.Cap))=true then
  ring_Step_j96 a273 a264 x277 v278 a264.Pc 3
 else
  ring_Step_j96 a273 a264 x277 v278 2 a264.State
noncomputable def ring_Step_j94 (a273:List Int) (a281:api_Deque) (a264:api_Hand) (x277:Int) (v282:Int):Option ((List Int)×api_Hand×Int) :=
 if (!((decide (x277≥0))&&(decide (x277≤1099511627776))))=true then
  ring_Step_j95 a273 a281 a264 x277 9
 else
  ring_Step_j95 a273 a281 a264 x277 v282
noncomputable def ring_Step_j100 (a264:api_Hand) (v283:List Int) (v284:Int):Option ((List Int)×api_Hand×Int) :=
 ring_Step_j83 a264 (IntKind.i64.wrap (a264.Pc+1)) a264.V a264.T a264.B a264.Won a264.State v283 v284
noncomputable def ring_Step_j102 (a264:api_Hand) (v285:List Int) (v286:Int):Option ((List Int)×api_Hand×Int) :=
 ring_Step_j100 a264 v285 v286
noncomputable def ring_Step_j103 (a273:List Int) (a264:api_Hand) (x287:List Int) (x288:Int) (v289:Int):Option ((List Int)×api_Hand×Int) :=
 if (x288==0)=true then
  ring_Step_j102 a264 x287 v289
 else
  ring_Step_j102 a264 ([]++a273) v289
noncomputable def ring_Step_j97 (a273:List Int) (a281:api_Deque) (a264:api_Hand) (v290:Int):Option ((List Int)×api_Hand×Int) :=
 if (decide (a264.B≥0))=true then
  (pring_actor_slot (ring_actor.mk a264 ([]++a273) a281 v290) a264.B).bind fun x291 =>
  (cell_Store ([]++a273) x291 a264.V).bind fun(x287,x288) =>
  if (!(x288==0))=true then
   ring_Step_j103 a273 a264 x287 x288 9
  else
   ring_Step_j103 a273 a264 x287 x288 v290
 else
  ring_Step_j100 a264 ([]++a273) v290
noncomputable def ring_Step_j107 (a264:api_Hand) (v292:List Int) (v293:Int):Option ((List Int)×api_Hand×Int) :=
 ring_Step_j83 a264 a264.Pc a264.V a264.T a264.B a264.Won 1 v292 v293
noncomputable def ring_Step_j109 (a264:api_Hand) (v294:List Int) (v295:Int):Option ((List Int)×api_Hand×Int) :=
 ring_Step_j107 a264 v294 v295
noncomputable def ring_Step_j110 (a273:List Int) (a264:api_Hand) (x296:List Int) (x297:Int) (v298:Int):Option ((List Int)×api_Hand×Int) :=
 if (x297==0)=true then
  ring_Step_j109 a264 x296 v298
 else
  ring_Step_j109 a264 ([]++a273) v298
noncomputable def ring_Step_j104 (a273:List Int) (a281:api_Deque) (a264:api_Hand) (v299:Int):Option ((List Int)×api_Hand×Int) :=
 if (decide (a264.B≥0))=true then
  (cell_Store ([]++a273) (pring_actor_bottom (ring_actor.mk a264 ([]++a273) a281 v299)) (IntKind.i64.wrap (a264.B+1))).bind fun(x296,x297) =>
  if (!(x297==0))=true then
   ring_Step_j110 a273 a264 x296 x297 9
  else
   ring_Step_j110 a273 a264 x296 x297 v299
 else
  ring_Step_j107 a264 ([]++a273) v299
noncomputable def ring_Step_j116 (a273:List Int) (a264:api_Hand) (x300:Int) (v301:Int):Option ((List Int)×api_Hand×Int) :=
 ring_Step_j83 a264 (IntKind.i64.wrap (a264.Pc+1)) a264.V a264.T x300 a264.Won a264.State ([]++a273) v301
noncomputable def ring_Step_j115 (a273:List Int) (a264:api_Hand) (x300:Int) (v302:Int):Option ((List Int)×api_Hand×Int) :=
 if (!((decide (x300≥0))&&(decide (x300≤1099511627776))))=true then
  ring_Step_j116 a273 a264 x300 9
 else
  ring_Step_j116 a273 a264 x300 v302
noncomputable def ring_Step_j120 (a264:api_Hand) (v303:Int) (v304:List Int) (v305:Int):Option ((List Int)×api_Hand×Int) :=
 ring_Step_j83 a264 (IntKind.i64.wrap (a264.Pc+1)) a264.V a264.T v303 a264.Won a264.State v304 v305
noncomputable def ring_Step_j122 (a264:api_Hand) (v306:List Int) (v307:Int):Option ((List Int)×api_Hand×Int) :=
 ring_Step_j120 a264 (IntKind.i64.wrap (a264.B - 1)) v306 v307
noncomputable def ring_Step_j123 (a273:List Int) (a264:api_Hand) (x308:List Int) (x309:Int) (v310:Int):Option ((List Int)×api_Hand×Int) :=
 if (x309==0)=true then
  ring_Step_j122 a264 x308 v310
 else
  ring_Step_j122 a264 ([]++a273) v310
noncomputable def ring_Step_j117 (a273:List Int) (a281:api_Deque) (a264:api_Hand) (v311:Int):Option ((List Int)×api_Hand×Int) :=
 if (decide (a264.B≥0))=true then
  (cell_Store ([]++a273) (pring_actor_bottom (ring_actor.mk (api_Hand.mk a264.Kind a264.Pc a264.V a264.T (IntKind.i64.wrap (a264.B - 1)) a264.Won a264.State) ([]++a273) a281 v311)) (IntKind.i64.wrap (a264.B - 1))).bind fun(x308,x309) =>
  if (!(x309==0))=true then
   ring_Step_j123 a273 a264 x308 x309 9
  else
   ring_Step_j123 a273 a264 x308 x309 v311
 else
  ring_Step_j120 a264 a264.B ([]++a273) v311
noncomputable def ring_Step_j129 (a273:List Int) (a264:api_Hand) (x312:Int) (v313:Int):Option ((List Int)×api_Hand×Int) :=
 if (decide (x312 > a264.B))=true then
  ring_Step_j83 a264 3 a264.V x312 a264.B a264.Won a264.State ([]++a273) v313
 else
  ring_Step_j83 a264 4 a264.V x312 a264.B a264.Won a264.State ([]++a273) v313
noncomputable def ring_Step_j128 (a273:List Int) (a264:api_Hand) (x312:Int) (v314:Int):Option ((List Int)×api_Hand×Int) :=
 if (!((decide (x312≥0))&&(decide (x312≤1099511627776))))=true then
  ring_Step_j129 a273 a264 x312 9
 else
  ring_Step_j129 a273 a264 x312 v314
noncomputable def ring_Step_j133 (a264:api_Hand) (v315:List Int) (v316:Int):Option ((List Int)×api_Hand×Int) :=
 ring_Step_j83 a264 a264.Pc a264.V a264.T a264.B a264.Won 2 v315 v316
noncomputable def ring_Step_j135 (a264:api_Hand) (v317:List Int) (v318:Int):Option ((List Int)×api_Hand×Int) :=
 ring_Step_j133 a264 v317 v318
noncomputable def ring_Step_j136 (a273:List Int) (a264:api_Hand) (x319:List Int) (x320:Int) (v321:Int):Option ((List Int)×api_Hand×Int) :=
 if (x320==0)=true then
  ring_Step_j135 a264 x319 v321
 else
  ring_Step_j135 a264 ([]++a273) v321
noncomputable def ring_Step_j130 (a273:List Int) (a281:api_Deque) (a264:api_Hand) (v322:Int):Option ((List Int)×api_Hand×Int) :=
 if (decide (a264.T≥0))=true then
  (cell_Store ([]++a273) (pring_actor_bottom (ring_actor.mk a264 ([]++a273) a281 v322)) a264.T).bind fun(x319,x320) =>
  if (!(x320==0))=true then
   ring_Step_j136 a273 a264 x319 x320 9
  else
   ring_Step_j136 a273 a264 x319 x320 v322
 else
  ring_Step_j133 a264 ([]++a273) v322
noncomputable def ring_Step_j141 (a273:List Int) (a264:api_Hand) (v323:Int) (v324:Int) (v325:Int) (v326:Int):Option ((List Int)×api_Hand×Int) :=
 ring_Step_j83 a264 v325 v323 a264.T a264.B a264.Won v326 ([]++a273) v324
noncomputable def ring_Step_j140 (a273:List Int) (a264:api_Hand) (v323:Int) (v324:Int):Option ((List Int)×api_Hand×Int) :=
 if (decide (a264.B > a264.T))=true then
  ring_Step_j141 a273 a264 v323 v324 a264.Pc 1
 else
  ring_Step_j141 a273 a264 v323 v324 5 a264.State
noncomputable def ring_Step_j143 (a273:List Int) (a264:api_Hand) (x327:Int) (v328:Int):Option ((List Int)×api_Hand×Int) :=
 ring_Step_j140 a273 a264 x327 v328
noncomputable def ring_Step_j137 (a273:List Int) (a281:api_Deque) (a264:api_Hand) (v329:Int):Option ((List Int)×api_Hand×Int) :=
 if (decide (a264.B≥0))=true then
  (pring_actor_slot (ring_actor.mk a264 ([]++a273) a281 v329) a264.B).bind fun x330 =>
  (cell_Load ([]++a273) x330).bind fun(x327,x331) =>
  if (!(x331==0))=true then
   ring_Step_j143 a273 a264 x327 9
  else
   ring_Step_j143 a273 a264 x327 v329
 else
  ring_Step_j140 a273 a264 a264.V v329
noncomputable def ring_Step_j147 (a264:api_Hand) (v332:Bool) (v333:List Int) (v334:Int):Option ((List Int)×api_Hand×Int) :=
 ring_Step_j83 a264 (IntKind.i64.wrap (a264.Pc+1)) a264.V a264.T a264.B v332 a264.State v333 v334
noncomputable def ring_Step_j149 (a264:api_Hand) (v335:Bool) (v336:List Int) (v337:Int):Option ((List Int)×api_Hand×Int) :=
 ring_Step_j147 a264 v335 v336 v337
noncomputable def ring_Step_j150 (a273:List Int) (a264:api_Hand) (x338:List Int) (x339:Bool) (x340:Int) (v341:Int):Option ((List Int)×api_Hand×Int) :=
 if (x340==0)=true then
  ring_Step_j149 a264 x339 x338 v341
 else
  ring_Step_j149 a264 x339 ([]++a273) v341
noncomputable def ring_Step_j144 (a273:List Int) (a281:api_Deque) (a264:api_Hand) (v342:Int):Option ((List Int)×api_Hand×Int) :=
 if (decide (a264.T≥0))=true then
  (cell_Cas ([]++a273) (pring_actor_top (ring_actor.mk a264 ([]++a273) a281 v342)) a264.T (IntKind.i64.wrap (a264.T+1))).bind fun(x338,x339,x340) =>
  if (!(x340==0))=true then
   ring_Step_j150 a273 a264 x338 x339 x340 9
  else
   ring_Step_j150 a273 a264 x338 x339 x340 v342
 else
  ring_Step_j147 a264 false ([]++a273) v342
noncomputable def ring_Step_j154 (a264:api_Hand) (v343:List Int) (v344:Int):Option ((List Int)×api_Hand×Int) :=
 if a264.Won=true then
  ring_Step_j83 a264 a264.Pc a264.V a264.T a264.B a264.Won 1 v343 v344
 else
  ring_Step_j83 a264 a264.Pc a264.V a264.T a264.B a264.Won 2 v343 v344
noncomputable def ring_Step_j156 (a264:api_Hand) (v345:List Int) (v346:Int):Option ((List Int)×api_Hand×Int) :=
 ring_Step_j154 a264 v345 v346
noncomputable def ring_Step_j157 (a273:List Int) (a264:api_Hand) (x347:List Int) (x348:Int) (v349:Int):Option ((List Int)×api_Hand×Int) :=
 if (x348==0)=true then
  ring_Step_j156 a264 x347 v349
 else
  ring_Step_j156 a264 ([]++a273) v349
noncomputable def ring_Step_j151 (a273:List Int) (a281:api_Deque) (a264:api_Hand) (v350:Int):Option ((List Int)×api_Hand×Int) :=
 if (decide (a264.T≥0))=true then
  (cell_Store ([]++a273) (pring_actor_bottom (ring_actor.mk a264 ([]++a273) a281 v350)) (IntKind.i64.wrap (a264.T+1))).bind fun(x347,x348) =>
  if (!(x348==0))=true then
   ring_Step_j157 a273 a264 x347 x348 9
  else
   ring_Step_j157 a273 a264 x347 x348 v350
 else
  ring_Step_j154 a264 ([]++a273) v350
noncomputable def ring_Step_j164 (a273:List Int) (a264:api_Hand) (x351:Int) (v352:Int) (v353:Int) (v354:Int):Option ((List Int)×api_Hand×Int) :=
 ring_Step_j83 a264 v353 a264.V a264.T x351 a264.Won v354 ([]++a273) v352
noncomputable def ring_Step_j163 (a273:List Int) (a264:api_Hand) (x351:Int) (v352:Int):Option ((List Int)×api_Hand×Int) :=
 if (decide ((IntKind.i64.wrap (x351 - a264.T)) < 1))=true then
  ring_Step_j164 a273 a264 x351 v352 a264.Pc 2
 else
  ring_Step_j164 a273 a264 x351 v352 2 a264.State
noncomputable def ring_Step_j162 (a273:List Int) (a264:api_Hand) (x351:Int) (v355:Int):Option ((List Int)×api_Hand×Int) :=
 if (!((decide (x351≥(-1)))&&(decide (x351≤1099511627776))))=true then
  ring_Step_j163 a273 a264 x351 9
 else
  ring_Step_j163 a273 a264 x351 v355
noncomputable def ring_Step_j168 (a273:List Int) (a264:api_Hand) (v356:Int) (v357:Int):Option ((List Int)×api_Hand×Int) :=
 ring_Step_j83 a264 (IntKind.i64.wrap (a264.Pc+1)) v356 a264.T a264.B a264.Won a264.State ([]++a273) v357
noncomputable def ring_Step_j170 (a273:List Int) (a264:api_Hand) (x358:Int) (v359:Int):Option ((List Int)×api_Hand×Int) :=
 ring_Step_j168 a273 a264 x358 v359
noncomputable def ring_Step_j165 (a273:List Int) (a281:api_Deque) (a264:api_Hand) (v360:Int):Option ((List Int)×api_Hand×Int) :=
 if (decide (a264.T≥0))=true then
  (pring_actor_slot (ring_actor.mk a264 ([]++a273) a281 v360) a264.T).bind fun x361 =>
  (cell_Load ([]++a273) x361).bind fun(x358,x362) =>
  if (!(x362==0))=true then
   ring_Step_j170 a273 a264 x358 9
  else
   ring_Step_j170 a273 a264 x358 v360
 else
  ring_Step_j168 a273 a264 a264.V v360
noncomputable def ring_Step_j174 (a264:api_Hand) (v363:Bool) (v364:List Int) (v365:Int):Option ((List Int)×api_Hand×Int) :=
 if v363=true then
  ring_Step_j83 a264 a264.Pc a264.V a264.T a264.B a264.Won 1 v364 v365
 else
  ring_Step_j83 a264 a264.Pc a264.V a264.T a264.B a264.Won 4 v364 v365
noncomputable def ring_Step_j176 (a264:api_Hand) (v366:Bool) (v367:List Int) (v368:Int):Option ((List Int)×api_Hand×Int) :=
 ring_Step_j174 a264 v366 v367 v368
noncomputable def ring_Step_j177 (a273:List Int) (a264:api_Hand) (x369:List Int) (x370:Bool) (x371:Int) (v372:Int):Option ((List Int)×api_Hand×Int) :=
 if (x371==0)=true then
  ring_Step_j176 a264 x370 x369 v372
 else
  ring_Step_j176 a264 x370 ([]++a273) v372
noncomputable def ring_Step_j171 (a273:List Int) (a281:api_Deque) (a264:api_Hand) (v373:Int):Option ((List Int)×api_Hand×Int) :=
 if (decide (a264.T≥0))=true then
  (cell_Cas ([]++a273) (pring_actor_top (ring_actor.mk (api_Hand.mk a264.Kind a264.Pc a264.V a264.T a264.B a264.Won 4) ([]++a273) a281 v373)) a264.T (IntKind.i64.wrap (a264.T+1))).bind fun(x369,x370,x371) =>
  if (!(x371==0))=true then
   ring_Step_j177 a273 a264 x369 x370 x371 9
  else
   ring_Step_j177 a273 a264 x369 x370 x371 v373
 else
  ring_Step_j174 a264 false ([]++a273) v373
noncomputable def ring_Step (a273:List Int) (a281:api_Deque) (a264:api_Hand):Option ((List Int)×api_Hand×Int) :=
 if (((ring_Check a273 a281) != 0)||(!(ring_may a264)))=true then
  some ([],api_Hand.zero,1)
 else
  if (a264.State != 0)=true then
   some ([],api_Hand.zero,9)
  else
   if few ([]++a273).length then
    letO (ring_accesses a264.Kind) fun x374 =>
    if 0≤a264.Pc∧a264.Pc < (x374.length:Int) then
     if (gt x374 a264.Pc)=257 then
      (cell_Load ([]++a273) (pring_actor_top (ring_actor.mk a264 ([]++a273) a281 0))).bind fun(x274,x375) =>
      if (!(x375==0))=true then
       ring_Step_j88 a273 a264 x274 9
      else
       ring_Step_j88 a273 a264 x274 0
     else
      if (gt x374 a264.Pc)=258 then
       (cell_Load ([]++a273) (pring_actor_bottom (ring_actor.mk a264 ([]++a273) a281 0))).bind fun(x277,x376) =>
       if (!(x376==0))=true then
        ring_Step_j94 a273 a281 a264 x277 9
       else
        ring_Step_j94 a273 a281 a264 x277 0
      else
       if (gt x374 a264.Pc)=259 then
        if (!(decide (a264.B≥0)))=true then
         ring_Step_j97 a273 a281 a264 9
        else
         ring_Step_j97 a273 a281 a264 0
       else
        if (gt x374 a264.Pc)=260 then
         if (!(decide (a264.B≥0)))=true then
          ring_Step_j104 a273 a281 a264 9
         else
          ring_Step_j104 a273 a281 a264 0
        else
         if (gt x374 a264.Pc)=261 then
          (cell_Load ([]++a273) (pring_actor_bottom (ring_actor.mk a264 ([]++a273) a281 0))).bind fun(x300,x377) =>
          if (!(x377==0))=true then
           ring_Step_j115 a273 a264 x300 9
          else
           ring_Step_j115 a273 a264 x300 0
         else
          if (gt x374 a264.Pc)=262 then
           if (!(decide (a264.B≥0)))=true then
            ring_Step_j117 a273 a281 a264 9
           else
            ring_Step_j117 a273 a281 a264 0
          else
           if (gt x374 a264.Pc)=263 then
            (cell_Load ([]++a273) (pring_actor_top (ring_actor.mk a264 ([]++a273) a281 0))).bind fun(x312,x378) =>
            if (!(x378==0))=true then
             ring_Step_j128 a273 a264 x312 9
            else
             ring_Step_j128 a273 a264 x312 0
           else
            if (gt x374 a264.Pc)=264 then
             if (!(decide (a264.T≥0)))=true then
              ring_Step_j130 a273 a281 a264 9
             else
              ring_Step_j130 a273 a281 a264 0
            else
             if (gt x374 a264.Pc)=265 then
              if (!(decide (a264.B≥0)))=true then
               ring_Step_j137 a273 a281 a264 9
              else
               ring_Step_j137 a273 a281 a264 0
             else
              if (gt x374 a264.Pc)=266 then
               if (!(decide (a264.T≥0)))=true then
                ring_Step_j144 a273 a281 a264 9
               else
                ring_Step_j144 a273 a281 a264 0
              else
               if (gt x374 a264.Pc)=267 then
                if (!(decide (a264.T≥0)))=true then
                 ring_Step_j151 a273 a281 a264 9
                else
                 ring_Step_j151 a273 a281 a264 0
               else
                if (gt x374 a264.Pc)=268 then
                 (cell_Load ([]++a273) (pring_actor_bottom (ring_actor.mk a264 ([]++a273) a281 0))).bind fun(x351,x379) =>
                 if (!(x379==0))=true then
                  ring_Step_j162 a273 a264 x351 9
                 else
                  ring_Step_j162 a273 a264 x351 0
                else
                 if (gt x374 a264.Pc)=269 then
                  if (!(decide (a264.T≥0)))=true then
                   ring_Step_j165 a273 a281 a264 9
                  else
                   ring_Step_j165 a273 a281 a264 0
                 else
                  if (gt x374 a264.Pc)=270 then
                   if (!(decide (a264.T≥0)))=true then
                    ring_Step_j171 a273 a281 a264 9
                   else
                    ring_Step_j171 a273 a281 a264 0
                  else
                   none
    else none
   else none
noncomputable def crew_hand (a380:api_Hand):Option Bool :=
 if 0≤(3:Int)∧(3:Int)≤(3:Int)∧(3:Int)≤549755813888 then
  (ring_Step (List.replicate (Int.toNat 3) (0:Int)) (api_Deque.mk 0 1) a380).bind fun(x381,x382,x383) =>
  some ((api_Hand.beq a380 api_Hand.zero)||((x383 != 1)&&(a380.State==0)))
 else none
noncomputable def slot_Find (a384:api_Places) (a385:Int):Option (Int×Int) :=
 (slot_Check a384).bind fun x386 =>
 if ((x386 != 0)||(decide (a385 < 0)))=true then
  some (0,1)
 else
  if (decide ((IntKind.i64.wrap (BitVec.ofInt IntKind.i64.bits a385 &&& BitVec.ofInt IntKind.i64.bits 255).toNat)≥(a384.Gen.length:Int)))=true then
   some (0,5)
  else
   if 0≤(IntKind.i64.wrap (BitVec.ofInt IntKind.i64.bits a385 &&& BitVec.ofInt IntKind.i64.bits 255).toNat)∧(IntKind.i64.wrap (BitVec.ofInt IntKind.i64.bits a385 &&& BitVec.ofInt IntKind.i64.bits 255).toNat) < (a384.Gen.length:Int) then
    if (decide ((IntKind.i64.wrap (Int.tdiv a385 256)) > (gt a384.Gen (IntKind.i64.wrap (BitVec.ofInt IntKind.i64.bits a385 &&& BitVec.ofInt IntKind.i64.bits 255).toNat))))=true then
     some (0,5)
    else
     if 0≤(IntKind.i64.wrap (BitVec.ofInt IntKind.i64.bits a385 &&& BitVec.ofInt IntKind.i64.bits 255).toNat)∧(IntKind.i64.wrap (BitVec.ofInt IntKind.i64.bits a385 &&& BitVec.ofInt IntKind.i64.bits 255).toNat) < (a384.Gen.length:Int) then
      if (decide ((IntKind.i64.wrap (Int.tdiv a385 256)) < (gt a384.Gen (IntKind.i64.wrap (BitVec.ofInt IntKind.i64.bits a385 &&& BitVec.ofInt IntKind.i64.bits 255).toNat))))=true then
       some (0,8)
      else
       if 0≤(IntKind.i64.wrap (BitVec.ofInt IntKind.i64.bits a385 &&& BitVec.ofInt IntKind.i64.bits 255).toNat)∧(IntKind.i64.wrap (BitVec.ofInt IntKind.i64.bits a385 &&& BitVec.ofInt IntKind.i64.bits 255).toNat) < (a384.Live.length:Int) then
        if (!(gt a384.Live (IntKind.i64.wrap (BitVec.ofInt IntKind.i64.bits a385 &&& BitVec.ofInt IntKind.i64.bits 255).toNat)))=true then
         some (0,5)
        else
         some (IntKind.i64.wrap (BitVec.ofInt IntKind.i64.bits a385 &&& BitVec.ofInt IntKind.i64.bits 255).toNat,0)
       else none
     else none
   else none
noncomputable def crew_checker_holds (a387:crew_checker) (a388:Int) (a389:Int):Option Bool :=
 if (a388==(-1))=true then
  some true
 else
  (slot_Find a387.w.Ids a388).bind fun(x390,x391) =>
  if (x391==0)=true then
   if 0≤x390∧x390 < (a387.w.T.length:Int) then
    some (((gt a387.w.T x390).State)==a389)
   else none
  else
   some false
noncomputable def crew_checker_worker_j12 (a392:crew_checker) (a393:Int) (b394:Bool):Option Bool :=
 if b394=true then
  some false
 else
  (crew_checker_holds a392 ((gt a392.w.W a393).Kid) 1).bind fun x395 =>
  if (!x395)=true then
   some false
  else
   some (((mget (mput (mput (mput (mput [] 5 1) 7 2) 8 2) 9 3) ((gt a392.w.W a393).Do)).getD 0)==(gt a392.w.Idle.Is a393))
noncomputable def crew_checker_worker_j11 (a392:crew_checker) (a393:Int) (v396:Int):Option Bool :=
 if (decide (v396≥0))=true then
  some false
 else
  if ((!(crew_within ((gt a392.w.W a393).Left) 0 a392.c.Budget))||(!(crew_within ((gt a392.w.W a393).Spill) 0 a392.c.Cap)))=true then
   crew_checker_worker_j12 a392 a393 true
  else
   (crew_checker_holds a392 ((gt a392.w.W a393).Task) 2).bind fun x397 =>
   crew_checker_worker_j12 a392 a393 (!x397)
noncomputable def crew_checker_worker_s13 (a392:crew_checker) (a393:Int):(Int)→Option ((Int) ⊕ (Bool))
 | v398 =>
  if (decide (v398 < (((gt a392.w.W a393).Ask).length:Int)))=true then
   if 0≤v398∧v398 < (((gt a392.w.W a393).Ask).length:Int) then
    if (!(crew_within (gt ((gt a392.w.W a393).Ask) v398) 0 (IntKind.i64.wrap (a392.c.Workers - 1))))=true then
     inrO (
      crew_checker_worker_j11 a392 a393 v398)
    else
     nextO (IntKind.i64.wrap (v398+1))
   else none
  else
   inrO (
    crew_checker_worker_j11 a392 a393 (-1))
noncomputable def crew_checker_worker_j7 (a392:crew_checker) (a393:Int) (b399:Bool):Option Bool :=
 if ((b399||(!(crew_within ((gt a392.w.W a393).At) 0 a392.c.Workers)))||(decide ((((gt a392.w.W a393).Ask).length:Int) > 64)))=true then
  some false
 else
  whileO (crew_checker_worker_s13 a392 a393) 0
noncomputable def crew_checker_worker (a392:crew_checker) (a393:Int):Option Bool :=
 if 0≤a393∧a393 < (a392.w.W.length:Int) then
  if 0≤a393∧a393 < (a392.w.Idle.Is.length:Int) then
   if (!(crew_within ((gt a392.w.W a393).Do) 0 13))=true then
    crew_checker_worker_j7 a392 a393 true
   else
    (crew_hand ((gt a392.w.W a393).Hand)).bind fun x400 =>
    crew_checker_worker_j7 a392 a393 (!x400)
  else none
 else none
noncomputable def crew_Check_s8 (a401:api_World) (v402:Int):(Int×(List (Int×Bool)))→Option ((Int×(List (Int×Bool))) ⊕ ((Int×(List (Int×Bool))) ⊕ (Int)))
 | (v403,v404) =>
  if (decide (v403 < 2))=true then
   if 0≤v403∧v403 < (2:Int) then
    if ((mget v404 (if v403=0 then (gt a401.W v402).Task else (gt a401.W v402).Kid)).getD false)=true then
     inrO (
      inrO (
       some 1))
    else
     nextO (IntKind.i64.wrap (v403+1),mput v404 (if v403=0 then (gt a401.W v402).Task else (gt a401.W v402).Kid) ((if v403=0 then (gt a401.W v402).Task else (gt a401.W v402).Kid) != (-1)))
   else none
  else
   inrO (
    nextO (IntKind.i64.wrap (v402+1),v404))
noncomputable def crew_Check_s7 (a405:api_Config) (a401:api_World):(Int×(List (Int×Bool)))→Option ((Int×(List (Int×Bool))) ⊕ (Int))
 | (v402,v406) =>
  if (decide (v402 < (a401.W.length:Int)))=true then
   if 0≤v402∧v402 < (a401.W.length:Int) then
    (crew_checker_worker (crew_checker.mk a405 a401) v402).bind fun x407 =>
    if (!x407)=true then
     inrO (
      some 1)
    else
     whileO (crew_Check_s8 a401 v402) (0,v406)
   else none
  else
   inrO (
    some 0)
noncomputable def crew_Check_s4 (a405:api_Config) (a401:api_World):(Int)→Option ((Int) ⊕ (Int))
 | v408 =>
  if (decide (v408 < (a401.Ten.length:Int)))=true then
   (crew_checker_list (crew_checker.mk a405 a401) v408).bind fun x409 =>
   if (!x409)=true then
    inrO (
     some 1)
   else
    nextO (IntKind.i64.wrap (v408+1))
  else
   inrO (
    whileO (crew_Check_s7 a405 a401) (0,[]))
noncomputable def crew_Check_s2 (a405:api_Config) (a401:api_World):(Int)→Option ((Int) ⊕ (Int))
 | v410 =>
  if (decide (v410 < (a401.T.length:Int)))=true then
   (crew_checker_task (crew_checker.mk a405 a401) v410).bind fun x411 =>
   if (!x411)=true then
    inrO (
     some 1)
   else
    nextO (IntKind.i64.wrap (v410+1))
  else
   inrO (
    whileO (crew_Check_s4 a405 a401) 0)
noncomputable def crew_Check (a405:api_Config) (a401:api_World):Option Int :=
 (crew_checker_parts (crew_checker.mk a405 a401)).bind fun x412 =>
 if (!x412)=true then
  some 1
 else
  whileO (crew_Check_s2 a405 a401) 0
def slices_Clone_byte_byte (xs:List Int):Option (List Int):=if few xs.length then some xs else none
def slices_Clone_api_Task_api_Task (xs:List api_Task):Option (List api_Task):=if few xs.length then some xs else none
def slices_Clone_api_Tenant_api_Tenant (xs:List api_Tenant):Option (List api_Tenant):=if few xs.length then some xs else none
def slices_Clone_api_Timer_api_Timer (xs:List api_Timer):Option (List api_Timer):=if few xs.length then some xs else none
def slices_Clone_api_Fd_api_Fd (xs:List api_Fd):Option (List api_Fd):=if few xs.length then some xs else none
def slices_Clone_api_Sem_api_Sem (xs:List api_Sem):Option (List api_Sem):=if few xs.length then some xs else none
def slices_Clone_api_Join_api_Join (xs:List api_Join):Option (List api_Join):=if few xs.length then some xs else none
def slices_Clone_api_Worker_api_Worker (xs:List api_Worker):Option (List api_Worker):=if few xs.length then some xs else none
def slices_Clone_api_Event_api_Event (xs:List api_Event):Option (List api_Event):=if few xs.length then some xs else none
def slices_Clone_int64_int64 (xs:List Int):Option (List Int):=if few xs.length then some xs else none
def slices_Clone_bool_bool (xs:List Bool):Option (List Bool):=if few xs.length then some xs else none
noncomputable def crew_own_s3 (a413:api_World) (x414:List Int) (x415:List api_Task) (x416:List Int) (x417:List api_Tenant) (x418:List api_Timer) (x419:List api_Fd) (x420:List api_Join) (x421:List api_Worker) (x422:List api_Event) (x423:List Int) (x424:List Bool) (x425:List Int) (x426:List Int) (x427:List Int) (x428:List Int) (x429:List Int) (v430:List api_Sem):(Int×(List api_Worker))→Option ((Int×(List api_Worker)) ⊕ (api_World))
 | (v431,v432) =>
  if (decide (v431 < (x421.length:Int)))=true then
   if 0≤v431∧v431 < (v432.length:Int) then
    (slices_Clone_int_int ((gt v432 v431).Ask)).bind fun x433 =>
    if 0≤v431∧v431 < (v432.length:Int) then
     nextO (IntKind.i64.wrap (v431+1),st v432 v431 (api_Worker.mk ((gt v432 v431).Do) (api_Hand.mk ((gt v432 v431).Hand.Kind) ((gt v432 v431).Hand.Pc) ((gt v432 v431).Hand.V) ((gt v432 v431).Hand.T) ((gt v432 v431).Hand.B) ((gt v432 v431).Hand.Won) ((gt v432 v431).Hand.State)) ((gt v432 v431).At) x433 ((gt v432 v431).Task) ((gt v432 v431).Left) ((gt v432 v431).Kid) ((gt v432 v431).Spill)))
    else none
   else none
  else
   inrO (
    some (api_World.mk a413.Now (api_Dice.mk x414 a413.Dice.At) (api_Places.mk x423 x424) x415 x416 (api_Chains.mk x425 x426 x427) x417 x418 x419 v430 x420 (api_Idle.mk x428 x429) v432 a413.Down x422))
noncomputable def crew_own_s2 (a413:api_World) (x414:List Int) (x415:List api_Task) (x416:List Int) (x417:List api_Tenant) (x418:List api_Timer) (x419:List api_Fd) (x434:List api_Sem) (x420:List api_Join) (x421:List api_Worker) (x422:List api_Event) (x423:List Int) (x424:List Bool) (x425:List Int) (x426:List Int) (x427:List Int) (x428:List Int) (x429:List Int):(Int×(List api_Sem))→Option ((Int×(List api_Sem)) ⊕ (api_World))
 | (v435,v430) =>
  if (decide (v435 < (x434.length:Int)))=true then
   if 0≤v435∧v435 < (v430.length:Int) then
    (slices_Clone_int64_int64 ((gt v430 v435).Wait)).bind fun x436 =>
    if 0≤v435∧v435 < (v430.length:Int) then
     nextO (IntKind.i64.wrap (v435+1),st v430 v435 (api_Sem.mk ((gt v430 v435).Free) x436))
    else none
   else none
  else
   inrO (
    whileO (crew_own_s3 a413 x414 x415 x416 x417 x418 x419 x420 x421 x422 x423 x424 x425 x426 x427 x428 x429 v430) (0,x421))
noncomputable def crew_own (a413:api_World):Option api_World :=
 (slices_Clone_byte_byte a413.Dice.L).bind fun x414 =>
 (slices_Clone_api_Task_api_Task a413.T).bind fun x415 =>
 (slices_Clone_api_Mem_int64 a413.Mem).bind fun x416 =>
 (slices_Clone_api_Tenant_api_Tenant a413.Ten).bind fun x417 =>
 (slices_Clone_api_Timer_api_Timer a413.Heap).bind fun x418 =>
 (slices_Clone_api_Fd_api_Fd a413.Fds).bind fun x419 =>
 (slices_Clone_api_Sem_api_Sem a413.Sems).bind fun x434 =>
 (slices_Clone_api_Join_api_Join a413.Joins).bind fun x420 =>
 (slices_Clone_api_Worker_api_Worker a413.W).bind fun x421 =>
 (slices_Clone_api_Event_api_Event a413.Seen).bind fun x422 =>
 (slices_Clone_int64_int64 a413.Ids.Gen).bind fun x423 =>
 (slices_Clone_bool_bool a413.Ids.Live).bind fun x424 =>
 (slices_Clone_int_int a413.Lists.Next).bind fun x425 =>
 (slices_Clone_int_int a413.Lists.Head).bind fun x426 =>
 (slices_Clone_int_int a413.Lists.Tail).bind fun x427 =>
 (slices_Clone_int_int a413.Idle.Is).bind fun x428 =>
 (slices_Clone_int_int a413.Idle.Stack).bind fun x429 =>
 whileO (crew_own_s2 a413 x414 x415 x416 x417 x418 x419 x434 x420 x421 x422 x423 x424 x425 x426 x427 x428 x429) (0,x434)
noncomputable def lodge_change_1225_j1 (v437:List api_Tenant) (v438:Int):Option ((List api_Tenant)×Int) :=
 if (v438 != 0)=true then
  some ([],v438)
 else
  some (v437,0)
noncomputable def lodge_change_1225 (a439:List api_Tenant) (a440:Int):Option ((List api_Tenant)×Int) :=
 (lodge_Check a439).bind fun x441 =>
 if (x441 != 0)=true then
  some ([],x441)
 else
  if ((decide (a440 < 0))||(decide (a440≥(a439.length:Int))))=true then
   some ([],5)
  else
   (slices_Clone_api_Tenant_api_Tenant a439).bind fun x442 =>
   if 0≤a440∧a440 < (x442.length:Int) then
    if (((gt x442 a440).Live)==((gt x442 a440).Quota))=true then
     lodge_change_1225_j1 x442 10
    else
     lodge_change_1225_j1 (st x442 a440 (api_Tenant.mk ((gt x442 a440).Weight) ((gt x442 a440).Quota) (IntKind.i64.wrap (((gt x442 a440).Live)+1)) ((gt x442 a440).Tag) ((gt x442 a440).Ran))) 0
   else none
noncomputable def lodge_Admit (a443:List api_Tenant) (a444:Int):Option ((List api_Tenant)×Int) :=
 (lodge_change_1225 a443 a444).bind fun(x445,x446) =>
 some (x445,x446)
noncomputable def slot_own (a447:api_Places):Option api_Places :=
 (slices_Clone_int64_int64 a447.Gen).bind fun x448 =>
 (slices_Clone_bool_bool a447.Live).bind fun x449 =>
 some (api_Places.mk x448 x449)
noncomputable def slot_id (a450:api_Places) (a451:Int):Option Int :=
 if 0≤a451∧a451 < (a450.Gen.length:Int) then
  some (IntKind.i64.wrap ((IntKind.i64.wrap ((gt a450.Gen a451)*256))+a451))
 else none
noncomputable def slot_Take_j4 (a452:api_Places) (v453:Int) (v454:Bool):Option ((Int) ⊕ (Int×api_Places×Int)) :=
 if v454=true then
  (slot_own a452).bind fun x455 =>
  if 0≤v453∧v453 < (x455.Live.length:Int) then
   (slot_id a452 v453).bind fun x456 =>
   inrO (
    some (x456,(api_Places.mk x455.Gen (st x455.Live v453 true)),0))
  else none
 else
  nextO (IntKind.i64.wrap (v453+1))
noncomputable def slot_Take_s3 (a452:api_Places):(Int)→Option ((Int) ⊕ (Int×api_Places×Int))
 | v453 =>
  if (decide (v453 < (a452.Live.length:Int)))=true then
   if 0≤v453∧v453 < (a452.Live.length:Int) then
    if (!(gt a452.Live v453))=true then
     if 0≤v453∧v453 < (a452.Gen.length:Int) then
      slot_Take_j4 a452 v453 ((gt a452.Gen v453) != 1099511627776)
     else none
    else
     slot_Take_j4 a452 v453 false
   else none
  else
   inrO (
    some (0,api_Places.zero,7))
noncomputable def slot_Take (a452:api_Places):Option (Int×api_Places×Int) :=
 (slot_Check a452).bind fun x457 =>
 if (x457 != 0)=true then
  some (0,api_Places.zero,x457)
 else
  whileO (slot_Take_s3 a452) 0
noncomputable def life_New (a458:Int) (a459:Int) (a460:Int):Option (api_Task×Int) :=
 (life_Check (api_Task.mk a458 a459 a460 0 0 (A4_Int.mk (-1) (-1) (-1) (-1)) 1 0)).bind fun x461 =>
 if (x461 != 0)=true then
  some (api_Task.zero,x461)
 else
  some ((api_Task.mk a458 a459 a460 0 0 (A4_Int.mk (-1) (-1) (-1) (-1)) 1 0),0)
noncomputable def crew_Spawn_j2 (x462:api_World) (v463:Int) (v464:Int) (v465:List Int) (v466:List Bool) (v467:List api_Task) (v468:List api_Tenant) (v469:List api_Event):Option (Int×api_World×Int) :=
 if (v464 != 0)=true then
  some (0,api_World.zero,v464)
 else
  some (v463,(api_World.mk x462.Now x462.Dice (api_Places.mk v465 v466) v467 x462.Mem x462.Lists v468 x462.Heap x462.Fds x462.Sems x462.Joins x462.Idle x462.W x462.Down v469),0)
noncomputable def crew_Spawn_j3 (x462:api_World) (x470:List api_Tenant) (x471:Int) (x472:api_Places) (x473:api_Task) (v474:Int) (v475:List api_Event):Option (Int×api_World×Int) :=
 if (v474 != 0)=true then
  crew_Spawn_j2 x462 0 v474 x462.Ids.Gen x462.Ids.Live x462.T x462.Ten v475
 else
  if 0≤(Int.tmod x471 256)∧(Int.tmod x471 256) < (x462.T.length:Int) then
   crew_Spawn_j2 x462 x471 0 x472.Gen x472.Live (st x462.T (Int.tmod x471 256) x473) x470 v475
  else none
noncomputable def crew_Spawn (a476:api_Config) (a477:api_World) (a478:Int) (a479:Int):Option (Int×api_World×Int) :=
 (crew_Check a476 a477).bind fun x480 =>
 if (x480 != 0)=true then
  some (0,api_World.zero,x480)
 else
  (crew_own a477).bind fun x462 =>
  if x462.Down=true then
   crew_Spawn_j2 x462 0 11 x462.Ids.Gen x462.Ids.Live x462.T x462.Ten x462.Seen
  else
   if (!(crew_within a479 0 (IntKind.i64.wrap ((a476.Progs.length:Int) - 1))))=true then
    crew_Spawn_j2 x462 0 1 x462.Ids.Gen x462.Ids.Live x462.T x462.Ten x462.Seen
   else
    (lodge_Admit x462.Ten a478).bind fun(x470,x481) =>
    if (x481 != 0)=true then
     crew_Spawn_j2 x462 0 x481 x462.Ids.Gen x462.Ids.Live x462.T x462.Ten x462.Seen
    else
     (slot_Take x462.Ids).bind fun(x471,x472,x482) =>
     if (x482 != 0)=true then
      crew_Spawn_j2 x462 0 x482 x462.Ids.Gen x462.Ids.Live x462.T x462.Ten x462.Seen
     else
      (life_New x471 a478 a479).bind fun(x473,x483) =>
      if (x483 != 0)=true then
       crew_Spawn_j2 x462 0 x483 x462.Ids.Gen x462.Ids.Live x462.T x462.Ten x462.Seen
      else
       if ((x462.Seen.length:Int)==65536)=true then
        crew_Spawn_j3 x462 x470 x471 x472 x473 7 x462.Seen
       else
        if few (x462.Seen++[(api_Event.mk 1 x471 a479)]).length then
         crew_Spawn_j3 x462 x470 x471 x472 x473 0 (x462.Seen++[(api_Event.mk 1 x471 a479)])
        else none
noncomputable def w20_live :Option Bool :=
 letO (w20_plain 1) fun x484 =>
 (crew_Start x484).bind fun(x485,x486) =>
 letO (w20_plain 1) fun x487 =>
 (crew_Spawn x487 x485 0 0).bind fun(x488,x489,x490) =>
 letO (w20_plain 1) fun x491 =>
 (crew_Spawn x491 x489 0 0).bind fun(x492,x493,x494) =>
 if (x486==0)=true then
  if (x490==0)=true then
   if (x494==10)=true then
    if (x488==0)=true then
     if ((x489.T.length:Int)==3)=true then
      if 0≤(0:Int)∧(0:Int) < (x489.T.length:Int) then
       if (((gt x489.T 0).State)==1)=true then
        letO (w20_plain 1) fun x495 =>
        (crew_Check x495 x489).bind fun x496 =>
        some (x496==0)
       else
        some false
      else none
     else
      some false
    else
     some false
   else
    some false
  else
   some false
 else
  some false
noncomputable def r04_Few_s1 (a497:List (List api_Instr)):(Int)→Option ((Int) ⊕ (Bool))
 | v498 =>
  if (decide (v498 < (a497.length:Int)))=true then
   if 0≤v498∧v498 < (a497.length:Int) then
    if (decide (((gt a497 v498).length:Int) > 100))=true then
     inrO (
      some false)
    else
     nextO (IntKind.i64.wrap (v498+1))
   else none
  else
   inrO (
    some (decide ((a497.length:Int)≤100)))
noncomputable def r04_Few (a497:List (List api_Instr)):Option Bool :=
 whileO (r04_Few_s1 a497) 0
noncomputable def r19_FewConfig (a499:api_Config):Option Bool :=
 (r04_Few a499.Progs).bind fun x500 =>
 some (((x500&&(decide ((a499.Weights.length:Int)≤100)))&&(decide ((a499.Quotas.length:Int)≤100)))&&(decide ((a499.Sems.length:Int)≤100)))
noncomputable def r20_Few_s4 (a501:api_World):(Int)→Option ((Int) ⊕ (Bool))
 | v502 =>
  if (decide (v502 < (a501.W.length:Int)))=true then
   if 0≤v502∧v502 < (a501.W.length:Int) then
    if (decide ((((gt a501.W v502).Ask).length:Int) > 100))=true then
     inrO (
      some false)
    else
     nextO (IntKind.i64.wrap (v502+1))
   else none
  else
   inrO (
    some ((((((((((((((((decide ((a501.Dice.L.length:Int)≤2000))&&(decide ((a501.T.length:Int)≤60)))&&(decide ((a501.Mem.length:Int)≤400)))&&(decide ((a501.Lists.Next.length:Int)≤100)))&&(decide ((a501.Lists.Head.length:Int)≤100)))&&(decide ((a501.Ten.length:Int)≤40)))&&(decide ((a501.Heap.length:Int)≤100)))&&(decide ((a501.Fds.length:Int)≤40)))&&(decide ((a501.Sems.length:Int)≤20)))&&(decide ((a501.Joins.length:Int)≤100)))&&(decide ((a501.W.length:Int)≤20)))&&(decide ((a501.Idle.Is.length:Int)≤70)))&&(decide ((a501.Idle.Stack.length:Int)≤70)))&&(decide ((a501.Seen.length:Int)≤2000)))&&(decide ((a501.Ids.Gen.length:Int)≤300)))&&(decide ((a501.Ids.Live.length:Int)≤300))))
noncomputable def r20_Few_s2 (a501:api_World):(Int)→Option ((Int) ⊕ (Bool))
 | v503 =>
  if (decide (v503 < (a501.Sems.length:Int)))=true then
   if 0≤v503∧v503 < (a501.Sems.length:Int) then
    if (decide ((((gt a501.Sems v503).Wait).length:Int) > 300))=true then
     inrO (
      some false)
    else
     nextO (IntKind.i64.wrap (v503+1))
   else none
  else
   inrO (
    whileO (r20_Few_s4 a501) 0)
noncomputable def r20_Few (a501:api_World):Option Bool :=
 whileO (r20_Few_s2 a501) 0
def r19_in (a504:Int) (a505:Int) (a506:Int):Bool :=
 ((decide (a504≥a505))&&(decide (a504≤a506)))
def r14_in (a507:Int) (a508:Int) (a509:Int):Bool :=
 ((decide (a507≥a508))&&(decide (a507≤a509)))
noncomputable def r14_Check_s1 (a510:List api_Tenant):(Int)→Option ((Int) ⊕ (Int))
 | v511 =>
  if (decide (v511 < (a510.length:Int)))=true then
   if 0≤v511∧v511 < (a510.length:Int) then
    if ((((((!(r14_in ((gt a510 v511).Weight) 1 16))||(!(r14_in ((gt a510 v511).Quota) 0 256)))||(decide (((gt a510 v511).Live) < 0)))||(decide (((gt a510 v511).Live) > ((gt a510 v511).Quota))))||(!(r14_in ((gt a510 v511).Tag) 0 1152921504606846976)))||(!(r14_in ((gt a510 v511).Ran) 0 1099511627776)))=true then
     inrO (
      some 1)
    else
     nextO (IntKind.i64.wrap (v511+1))
   else none
  else
   inrO (
    some 0)
noncomputable def r14_Check (a510:List api_Tenant):Option Int :=
 if ((decide ((a510.length:Int) < 1))||(decide ((a510.length:Int) > 16)))=true then
  some 1
 else
  whileO (r14_Check_s1 a510) 0
noncomputable def r14_New_s2 (a512:List Int) (a513:List Int):((List api_Tenant)×Int)→Option (((List api_Tenant)×Int) ⊕ ((List api_Tenant)×Int))
 | (v514,v515) =>
  if (decide (v515 < (a512.length:Int)))=true then
   if 0≤v515∧v515 < (a512.length:Int) then
    if 0≤v515∧v515 < (a513.length:Int) then
     if few (v514++[(api_Tenant.mk (gt a512 v515) (gt a513 v515) 0 0 0)]).length then
      nextO (v514++[(api_Tenant.mk (gt a512 v515) (gt a513 v515) 0 0 0)],IntKind.i64.wrap (v515+1))
     else none
    else none
   else none
  else
   inrO (
    (r14_Check v514).bind fun x516 =>
    if (x516 != 0)=true then
     some ([],1)
    else
     some (v514,0))
noncomputable def r14_New (a512:List Int) (a513:List Int):Option ((List api_Tenant)×Int) :=
 if ((a512.length:Int) != (a513.length:Int))=true then
  some ([],1)
 else
  whileO (r14_New_s2 a512 a513) ([],0)
def r04_in (a517:Int) (a518:Int) (a519:Int):Bool :=
 ((decide (a517≥a518))&&(decide (a517≤a519)))
def r04_may (a520:api_Instr):Bool :=
 if (a520.Op==1)=true then
  ((r04_in a520.A 1 100)&&(a520.B==0))
 else
  if (a520.Op==2)=true then
   ((r04_in a520.A 0 15)&&(r04_in a520.B 0 3))
  else
   if ((a520.Op==3)||(a520.Op==9))=true then
    ((a520.A==0)&&(a520.B==0))
   else
    if (a520.Op==4)=true then
     ((r04_in a520.A 1 1000)&&(a520.B==0))
    else
     if (a520.Op==5)=true then
      ((r04_in a520.A 0 15)&&(a520.B==0))
     else
      if (a520.Op==6)=true then
       ((r04_in a520.A 0 3)&&(a520.B==0))
      else
       ((((a520.Op==7)||(a520.Op==8))&&(r04_in a520.A 0 7))&&(a520.B==0))
noncomputable def r04_Check_s1 (a521:List api_Instr):(Int)→Option ((Int) ⊕ (Int))
 | v522 =>
  if (decide (v522 < (a521.length:Int)))=true then
   if 0≤v522∧v522 < (a521.length:Int) then
    if (!(r04_may (gt a521 v522)))=true then
     inrO (
      some 1)
    else
     nextO (IntKind.i64.wrap (v522+1))
   else none
  else
   inrO (
    some 0)
noncomputable def r04_Check (a521:List api_Instr):Option Int :=
 if ((decide ((a521.length:Int) < 1))||(decide ((a521.length:Int) > 32)))=true then
  some 1
 else
  whileO (r04_Check_s1 a521) 0
noncomputable def r04_CheckAll_s4 (a523:List (List api_Instr)) (v524:Int):(Int)→Option ((Int) ⊕ ((Int) ⊕ (Int)))
 | v525 =>
  if (decide (v525 < ((gt a523 v524).length:Int)))=true then
   if 0≤v525∧v525 < ((gt a523 v524).length:Int) then
    if ((((gt (gt a523 v524) v525).Op)==2)&&(decide (((gt (gt a523 v524) v525).A)≥(a523.length:Int))))=true then
     inrO (
      inrO (
       some 1))
    else
     nextO (IntKind.i64.wrap (v525+1))
   else none
  else
   inrO (
    nextO (IntKind.i64.wrap (v524+1)))
noncomputable def r04_CheckAll_s3 (a523:List (List api_Instr)):(Int)→Option ((Int) ⊕ (Int))
 | v524 =>
  if (decide (v524 < (a523.length:Int)))=true then
   if 0≤v524∧v524 < (a523.length:Int) then
    (r04_Check (gt a523 v524)).bind fun x526 =>
    if (x526 != 0)=true then
     inrO (
      some 1)
    else
     whileO (r04_CheckAll_s4 a523 v524) 0
   else none
  else
   inrO (
    some 0)
noncomputable def r04_CheckAll (a523:List (List api_Instr)):Option Int :=
 if ((decide ((a523.length:Int) < 1))||(decide ((a523.length:Int) > 16)))=true then
  some 1
 else
  whileO (r04_CheckAll_s3 a523) 0
def r10_New (a527:Int):api_Sem×Int :=
 if ((decide (a527 < 0))||(decide (a527 > 1000)))=true then
  (api_Sem.zero,1)
 else
  ((api_Sem.mk a527 []),0)
noncomputable def r19_Config_s6 (a528:api_Config) (v529:Int):(Int)→Option ((Int) ⊕ ((Int) ⊕ (Int)))
 | v530 =>
  if (decide (v530 < ((gt a528.Progs v529).length:Int)))=true then
   if 0≤v530∧v530 < ((gt a528.Progs v529).length:Int) then
    if (((((gt (gt a528.Progs v529) v530).Op)==5)&&(decide (((gt (gt a528.Progs v529) v530).A)≥a528.Fds)))||(((((gt (gt a528.Progs v529) v530).Op)==7)||(((gt (gt a528.Progs v529) v530).Op)==8))&&(decide (((gt (gt a528.Progs v529) v530).A)≥(a528.Sems.length:Int)))))=true then
     inrO (
      inrO (
       some 1))
    else
     nextO (IntKind.i64.wrap (v530+1))
   else none
  else
   inrO (
    nextO (IntKind.i64.wrap (v529+1)))
noncomputable def r19_Config_s5 (a528:api_Config):(Int)→Option ((Int) ⊕ (Int))
 | v529 =>
  if (decide (v529 < (a528.Progs.length:Int)))=true then
   if 0≤v529∧v529 < (a528.Progs.length:Int) then
    whileO (r19_Config_s6 a528 v529) 0
   else none
  else
   inrO (
    some 0)
noncomputable def r19_Config_s2 (a528:api_Config):(Int)→Option ((Int) ⊕ (Int))
 | v531 =>
  if (decide (v531 < (a528.Sems.length:Int)))=true then
   if 0≤v531∧v531 < (a528.Sems.length:Int) then
    letO (r10_New (gt a528.Sems v531)) fun(x532,x533) =>
    if (x533 != 0)=true then
     inrO (
      some 1)
    else
     nextO (IntKind.i64.wrap (v531+1))
   else none
  else
   inrO (
    whileO (r19_Config_s5 a528) 0)
noncomputable def r19_Config (a528:api_Config):Option Int :=
 if (((((((!(r19_in a528.Workers 1 64))||(!(r19_in a528.Cap 1 1024)))||(decide ((IntKind.i64.wrap (a528.Workers*(IntKind.i64.wrap (a528.Cap+2)))) > 65536)))||(!(r19_in a528.Budget 1 100)))||(!(r19_in a528.Tasks 1 256)))||(!(r19_in a528.Fds 0 16)))||(decide ((a528.Sems.length:Int) > 8)))=true then
  some 1
 else
  (r14_New a528.Weights a528.Quotas).bind fun(x534,x535) =>
  if (x535 != 0)=true then
   some 1
  else
   (r04_CheckAll a528.Progs).bind fun x536 =>
   if (x536 != 0)=true then
    some 1
   else
    whileO (r19_Config_s2 a528) 0
noncomputable def r05_New_s1 (a537:Int):(Int×(List Int)×(List Bool))→Option ((Int×(List Int)×(List Bool)) ⊕ (api_Places×Int))
 | (v538,v539,v540) =>
  if (decide (v538 < a537))=true then
   if few (v539++[0]).length then
    if few (v540++[false]).length then
     nextO (IntKind.i64.wrap (v538+1),v539++[0],v540++[false])
    else none
   else none
  else
   inrO (
    some ((api_Places.mk v539 v540),0))
noncomputable def r05_New (a537:Int):Option (api_Places×Int) :=
 if ((decide (a537 < 1))||(decide (a537 > 256)))=true then
  some (api_Places.zero,1)
 else
  whileO (r05_New_s1 a537) (0,[],[])
noncomputable def r01_New_s1 (a541:Int):((List Int)×Int)→Option (((List Int)×Int) ⊕ ((List Int)×Int))
 | (v542,v543) =>
  if (decide (v543 < a541))=true then
   if few (v542++[0]).length then
    nextO (v542++[0],IntKind.i64.wrap (v543+1))
   else none
  else
   inrO (
    some (v542,0))
noncomputable def r01_New (a541:Int):Option ((List Int)×Int) :=
 if ((decide (a541 < 0))||(decide (a541 > 65536)))=true then
  some ([],1)
 else
  whileO (r01_New_s1 a541) ([],0)
noncomputable def r06_Of_j12 (v544:Int) (v545:List Int) (v546:List Int) (v547:Int) (v548:List Int) (v549:Int):Option ((Int×(List Int)×(List Int)×(List Int)) ⊕ (api_Chains)) :=
 if few (v545++[v547]).length then
  if few (v546++[v549]).length then
   nextO (IntKind.i64.wrap (v544+1),v548,v545++[v547],v546++[v549])
  else none
 else none
noncomputable def r06_Of_s11 (a550:List (List Int)) (v544:Int) (v545:List Int) (v546:List Int):(Int×Int×(List Int))→Option ((Int×Int×(List Int)) ⊕ ((Int×(List Int)×(List Int)×(List Int)) ⊕ (api_Chains)))
 | (v547,v551,v548) =>
  if (decide (v551≥0))=true then
   if 0≤v551∧v551 < ((gt a550 v544).length:Int) then
    if 0≤(gt (gt a550 v544) v551)∧(gt (gt a550 v544) v551) < (v548.length:Int) then
     if 0≤v551∧v551 < ((gt a550 v544).length:Int) then
      nextO ((gt (gt a550 v544) v551),IntKind.i64.wrap (v551 - 1),st v548 (gt (gt a550 v544) v551) v547)
     else none
    else none
   else none
  else
   inrO (
    if (decide (((gt a550 v544).length:Int) > 0))=true then
     if 0≤(IntKind.i64.wrap (((gt a550 v544).length:Int) - 1))∧(IntKind.i64.wrap (((gt a550 v544).length:Int) - 1)) < ((gt a550 v544).length:Int) then
      r06_Of_j12 v544 v545 v546 v547 v548 (gt (gt a550 v544) (IntKind.i64.wrap (((gt a550 v544).length:Int) - 1)))
     else none
    else
     r06_Of_j12 v544 v545 v546 v547 v548 (-1))
noncomputable def r06_Of_s9 (a550:List (List Int)):(Int×(List Int)×(List Int)×(List Int))→Option ((Int×(List Int)×(List Int)×(List Int)) ⊕ (api_Chains))
 | (v544,v552,v545,v546) =>
  if (decide (v544 < (a550.length:Int)))=true then
   if 0≤v544∧v544 < (a550.length:Int) then
    whileO (r06_Of_s11 a550 v544 v545 v546) (-1,IntKind.i64.wrap (((gt a550 v544).length:Int) - 1),v552)
   else none
  else
   inrO (
    some (api_Chains.mk v552 v545 v546))
noncomputable def r06_Of_s2 (a553:Int) (a550:List (List Int)):(Int×(List Int))→Option ((Int×(List Int)) ⊕ (api_Chains))
 | (v554,v555) =>
  if (decide (v554 < a553))=true then
   if few (v555++[-2]).length then
    nextO (IntKind.i64.wrap (v554+1),v555++[-2])
   else none
  else
   inrO (
    whileO (r06_Of_s9 a550) (0,v555,[],[]))
noncomputable def r06_Of (a553:Int) (a550:List (List Int)):Option api_Chains :=
 whileO (r06_Of_s2 a553 a550) (0,[])
noncomputable def r06_New (a556:Int) (a557:Int):Option (api_Chains×Int) :=
 if ((((decide (a556 < 0))||(decide (a556 > 1024)))||(decide (a557 < 1)))||(decide (a557 > 256)))=true then
  some (api_Chains.zero,1)
 else
  if 0≤a557∧a557≤a557∧a557≤549755813888 then
   (r06_Of a556 (List.replicate (Int.toNat a557) [])).bind fun x558 =>
   some (x558,0)
  else none
noncomputable def r09_New_s1 (a559:Int):((List api_Fd)×Int)→Option (((List api_Fd)×Int) ⊕ ((List api_Fd)×Int))
 | (v560,v561) =>
  if (decide (v561 < a559))=true then
   if few (v560++[(api_Fd.mk false false (-1))]).length then
    nextO (v560++[(api_Fd.mk false false (-1))],IntKind.i64.wrap (v561+1))
   else none
  else
   inrO (
    some (v560,0))
noncomputable def r09_New (a559:Int):Option ((List api_Fd)×Int) :=
 if ((decide (a559 < 0))||(decide (a559 > 16)))=true then
  some ([],1)
 else
  whileO (r09_New_s1 a559) ([],0)
noncomputable def r17_New (a562:Int):Option (api_Idle×Int) :=
 if ((decide (a562 < 1))||(decide (a562 > 64)))=true then
  some (api_Idle.zero,1)
 else
  if 0≤a562∧a562≤a562∧a562≤549755813888 then
   some ((api_Idle.mk (List.replicate (Int.toNat a562) (0:Int)) []),0)
  else none
def r20_Fresh :api_Worker :=
 (api_Worker.mk 0 api_Hand.zero 0 [] (-1) 0 (-1) 0)
noncomputable def r20_Start_s3 (a563:api_Config) (x564:api_Places) (x565:List Int) (x566:api_Chains) (x567:List api_Tenant) (x568:List api_Fd) (v569:List api_Sem) (x570:api_Idle):(Int×(List api_Worker))→Option ((Int×(List api_Worker)) ⊕ (api_World×Int))
 | (v571,v572) =>
  if (decide (v571 < a563.Workers))=true then
   letO (r20_Fresh) fun x573 =>
   if few (v572++[x573]).length then
    nextO (IntKind.i64.wrap (v571+1),v572++[x573])
   else none
  else
   inrO (
    some ((api_World.mk 0 api_Dice.zero x564 (List.replicate (Int.toNat a563.Tasks) api_Task.zero) x565 x566 x567 [] x568 v569 [] x570 v572 false []),0))
noncomputable def r20_Start_s2 (a563:api_Config) (x564:api_Places) (x565:List Int) (x566:api_Chains) (x567:List api_Tenant) (x568:List api_Fd):(Int×(List api_Sem))→Option ((Int×(List api_Sem)) ⊕ (api_World×Int))
 | (v574,v569) =>
  if (decide (v574 < (a563.Sems.length:Int)))=true then
   if 0≤v574∧v574 < (a563.Sems.length:Int) then
    if few (v569++[(api_Sem.mk (gt a563.Sems v574) [])]).length then
     nextO (IntKind.i64.wrap (v574+1),v569++[(api_Sem.mk (gt a563.Sems v574) [])])
    else none
   else none
  else
   inrO (
    (r17_New a563.Workers).bind fun(x570,x575) =>
    whileO (r20_Start_s3 a563 x564 x565 x566 x567 x568 v569 x570) (0,[]))
noncomputable def r20_Start (a563:api_Config):Option (api_World×Int) :=
 (r19_Config a563).bind fun x576 =>
 if (x576 != 0)=true then
  some (api_World.zero,1)
 else
  (r05_New a563.Tasks).bind fun(x564,x577) =>
  if 0≤a563.Tasks∧a563.Tasks≤a563.Tasks∧a563.Tasks≤549755813888 then
   (r01_New (IntKind.i64.wrap (a563.Workers*(IntKind.i64.wrap (a563.Cap+2))))).bind fun(x565,x578) =>
   (r06_New a563.Tasks (a563.Weights.length:Int)).bind fun(x566,x579) =>
   (r14_New a563.Weights a563.Quotas).bind fun(x567,x580) =>
   (r09_New a563.Fds).bind fun(x568,x581) =>
   whileO (r20_Start_s2 a563 x564 x565 x566 x567 x568) (0,[])
  else none
noncomputable def r01_Same_s1 (a582:List Int) (a583:List Int):(Int)→Option ((Int) ⊕ (Bool))
 | v584 =>
  if (decide (v584 < (a582.length:Int)))=true then
   if 0≤v584∧v584 < (a582.length:Int) then
    if 0≤v584∧v584 < (a583.length:Int) then
     if ((gt a582 v584) != (gt a583 v584))=true then
      inrO (
       some false)
     else
      nextO (IntKind.i64.wrap (v584+1))
    else none
   else none
  else
   inrO (
    some true)
noncomputable def r01_Same (a582:List Int) (a583:List Int):Option Bool :=
 if ((a582.length:Int) != (a583.length:Int))=true then
  some false
 else
  whileO (r01_Same_s1 a582 a583) 0
noncomputable def r10_Same (a585:api_Sem) (a586:api_Sem):Option Bool :=
 if (a585.Free==a586.Free)=true then
  (r01_Same a585.Wait a586.Wait).bind fun x587 =>
  some x587
 else
  some false
noncomputable def r06_SameInts_s1 (a588:List Int) (a589:List Int):(Int)→Option ((Int) ⊕ (Bool))
 | v590 =>
  if (decide (v590 < (a588.length:Int)))=true then
   if 0≤v590∧v590 < (a588.length:Int) then
    if 0≤v590∧v590 < (a589.length:Int) then
     if ((gt a588 v590) != (gt a589 v590))=true then
      inrO (
       some false)
     else
      nextO (IntKind.i64.wrap (v590+1))
    else none
   else none
  else
   inrO (
    some true)
noncomputable def r06_SameInts (a588:List Int) (a589:List Int):Option Bool :=
 if ((a588.length:Int) != (a589.length:Int))=true then
  some false
 else
  whileO (r06_SameInts_s1 a588 a589) 0
noncomputable def r20_sameWorker_j1 (a591:api_Worker) (a592:api_Worker) (b593:Bool):Option Bool :=
 some ((((b593&&(a591.Task==a592.Task))&&(a591.Left==a592.Left))&&(a591.Kid==a592.Kid))&&(a591.Spill==a592.Spill))
noncomputable def r20_sameWorker (a591:api_Worker) (a592:api_Worker):Option Bool :=
 if (((a591.Do==a592.Do)&&(api_Hand.beq a591.Hand a592.Hand))&&(a591.At==a592.At))=true then
  (r06_SameInts a591.Ask a592.Ask).bind fun x594 =>
  r20_sameWorker_j1 a591 a592 x594
 else
  r20_sameWorker_j1 a591 a592 false
def r03_Same (a595:api_Dice) (a596:api_Dice):Bool :=
 (((strOfNums a595.L).toList==(strOfNums a596.L).toList)&&(a595.At==a596.At))
noncomputable def r05_Same_s1 (a597:api_Places) (a598:api_Places):(Int)→Option ((Int) ⊕ (Bool))
 | v599 =>
  if (decide (v599 < (a597.Live.length:Int)))=true then
   if 0≤v599∧v599 < (a597.Live.length:Int) then
    if 0≤v599∧v599 < (a598.Live.length:Int) then
     if (!((gt a597.Live v599)==(gt a598.Live v599)))=true then
      inrO (
       some false)
     else
      nextO (IntKind.i64.wrap (v599+1))
    else none
   else none
  else
   inrO (
    some true)
noncomputable def r05_Same (a597:api_Places) (a598:api_Places):Option Bool :=
 (r01_Same a597.Gen a598.Gen).bind fun x600 =>
 if ((!x600)||((a597.Live.length:Int) != (a598.Live.length:Int)))=true then
  some false
 else
  whileO (r05_Same_s1 a597 a598) 0
noncomputable def r18_SameTasks_s1 (a601:List api_Task) (a602:List api_Task):(Int)→Option ((Int) ⊕ (Bool))
 | v603 =>
  if (decide (v603 < (a601.length:Int)))=true then
   if 0≤v603∧v603 < (a601.length:Int) then
    if 0≤v603∧v603 < (a602.length:Int) then
     if (!(api_Task.beq (gt a601 v603) (gt a602 v603)))=true then
      inrO (
       some false)
     else
      nextO (IntKind.i64.wrap (v603+1))
    else none
   else none
  else
   inrO (
    some true)
noncomputable def r18_SameTasks (a601:List api_Task) (a602:List api_Task):Option Bool :=
 if ((a601.length:Int) != (a602.length:Int))=true then
  some false
 else
  whileO (r18_SameTasks_s1 a601 a602) 0
noncomputable def r06_Same_j1 (a604:api_Chains) (a605:api_Chains) (b606:Bool):Option Bool :=
 if b606=true then
  (r06_SameInts a604.Tail a605.Tail).bind fun x607 =>
  some x607
 else
  some false
noncomputable def r06_Same (a604:api_Chains) (a605:api_Chains):Option Bool :=
 (r06_SameInts a604.Next a605.Next).bind fun x608 =>
 if x608=true then
  (r06_SameInts a604.Head a605.Head).bind fun x609 =>
  r06_Same_j1 a604 a605 x609
 else
  r06_Same_j1 a604 a605 false
noncomputable def r14_Same_s1 (a610:List api_Tenant) (a611:List api_Tenant):(Int)→Option ((Int) ⊕ (Bool))
 | v612 =>
  if (decide (v612 < (a610.length:Int)))=true then
   if 0≤v612∧v612 < (a610.length:Int) then
    if 0≤v612∧v612 < (a611.length:Int) then
     if (!(api_Tenant.beq (gt a610 v612) (gt a611 v612)))=true then
      inrO (
       some false)
     else
      nextO (IntKind.i64.wrap (v612+1))
    else none
   else none
  else
   inrO (
    some true)
noncomputable def r14_Same (a610:List api_Tenant) (a611:List api_Tenant):Option Bool :=
 if ((a610.length:Int) != (a611.length:Int))=true then
  some false
 else
  whileO (r14_Same_s1 a610 a611) 0
def r08_Less (a613:api_Timer) (a614:api_Timer):Bool :=
 ((decide (a613.At < a614.At))||((a613.At==a614.At)&&(decide (a613.Id < a614.Id))))
noncomputable def r08_with_s3 (a615:List api_Timer) (a616:api_Timer):((List api_Timer)×Int)→Option (((List api_Timer)×Int) ⊕ (List api_Timer))
 | (v617,v618) =>
  if (decide (v618 < (a615.length:Int)))=true then
   if 0≤v618∧v618 < (a615.length:Int) then
    if (r08_Less a616 (gt a615 v618))=true then
     if few (v617++[(gt a615 v618)]).length then
      nextO (v617++[(gt a615 v618)],IntKind.i64.wrap (v618+1))
     else none
    else
     nextO (v617,IntKind.i64.wrap (v618+1))
   else none
  else
   inrO (
    some v617)
noncomputable def r08_with_s2 (a615:List api_Timer) (a616:api_Timer):((List api_Timer)×Int)→Option (((List api_Timer)×Int) ⊕ (List api_Timer))
 | (v619,v620) =>
  if (decide (v620 < (a615.length:Int)))=true then
   if 0≤v620∧v620 < (a615.length:Int) then
    if (!(r08_Less a616 (gt a615 v620)))=true then
     if few (v619++[(gt a615 v620)]).length then
      nextO (v619++[(gt a615 v620)],IntKind.i64.wrap (v620+1))
     else none
    else
     nextO (v619,IntKind.i64.wrap (v620+1))
   else none
  else
   inrO (
    if few (v619++[a616]).length then
     whileO (r08_with_s3 a615 a616) (v619++[a616],0)
    else none)
noncomputable def r08_with (a615:List api_Timer) (a616:api_Timer):Option (List api_Timer) :=
 whileO (r08_with_s2 a615 a616) ([],0)
noncomputable def r08_Order_s1 (a621:List api_Timer):((List api_Timer)×Int)→Option (((List api_Timer)×Int) ⊕ (List api_Timer))
 | (v622,v623) =>
  if (decide (v623 < (a621.length:Int)))=true then
   if 0≤v623∧v623 < (a621.length:Int) then
    (r08_with v622 (gt a621 v623)).bind fun x624 =>
    nextO (x624,IntKind.i64.wrap (v623+1))
   else none
  else
   inrO (
    some v622)
noncomputable def r08_Order (a621:List api_Timer):Option (List api_Timer) :=
 whileO (r08_Order_s1 a621) ([],0)
noncomputable def r08_SameList_s1 (a625:List api_Timer) (a626:List api_Timer):(Int)→Option ((Int) ⊕ (Bool))
 | v627 =>
  if (decide (v627 < (a625.length:Int)))=true then
   if 0≤v627∧v627 < (a625.length:Int) then
    if 0≤v627∧v627 < (a626.length:Int) then
     if (!(api_Timer.beq (gt a625 v627) (gt a626 v627)))=true then
      inrO (
       some false)
     else
      nextO (IntKind.i64.wrap (v627+1))
    else none
   else none
  else
   inrO (
    some true)
noncomputable def r08_SameList (a625:List api_Timer) (a626:List api_Timer):Option Bool :=
 if ((a625.length:Int) != (a626.length:Int))=true then
  some false
 else
  whileO (r08_SameList_s1 a625 a626) 0
noncomputable def r08_Same (a628:List api_Timer) (a629:List api_Timer):Option Bool :=
 (r08_Order a628).bind fun x630 =>
 (r08_Order a629).bind fun x631 =>
 (r08_SameList x630 x631).bind fun x632 =>
 some x632
noncomputable def r09_Same_s1 (a633:List api_Fd) (a634:List api_Fd):(Int)→Option ((Int) ⊕ (Bool))
 | v635 =>
  if (decide (v635 < (a633.length:Int)))=true then
   if 0≤v635∧v635 < (a633.length:Int) then
    if 0≤v635∧v635 < (a634.length:Int) then
     if (!(api_Fd.beq (gt a633 v635) (gt a634 v635)))=true then
      inrO (
       some false)
     else
      nextO (IntKind.i64.wrap (v635+1))
    else none
   else none
  else
   inrO (
    some true)
noncomputable def r09_Same (a633:List api_Fd) (a634:List api_Fd):Option Bool :=
 if ((a633.length:Int) != (a634.length:Int))=true then
  some false
 else
  whileO (r09_Same_s1 a633 a634) 0
noncomputable def r11_Same_s1 (a636:List api_Join) (a637:List api_Join):(Int)→Option ((Int) ⊕ (Bool))
 | v638 =>
  if (decide (v638 < (a636.length:Int)))=true then
   if 0≤v638∧v638 < (a636.length:Int) then
    if 0≤v638∧v638 < (a637.length:Int) then
     if (!(api_Join.beq (gt a636 v638) (gt a637 v638)))=true then
      inrO (
       some false)
     else
      nextO (IntKind.i64.wrap (v638+1))
    else none
   else none
  else
   inrO (
    some true)
noncomputable def r11_Same (a636:List api_Join) (a637:List api_Join):Option Bool :=
 if ((a636.length:Int) != (a637.length:Int))=true then
  some false
 else
  whileO (r11_Same_s1 a636 a637) 0
noncomputable def r17_Same (a639:api_Idle) (a640:api_Idle):Option Bool :=
 (r06_SameInts a639.Is a640.Is).bind fun x641 =>
 if x641=true then
  (r06_SameInts a639.Stack a640.Stack).bind fun x642 =>
  some x642
 else
  some false
noncomputable def r18_Same_s1 (a643:List api_Event) (a644:List api_Event):(Int)→Option ((Int) ⊕ (Bool))
 | v645 =>
  if (decide (v645 < (a643.length:Int)))=true then
   if 0≤v645∧v645 < (a643.length:Int) then
    if 0≤v645∧v645 < (a644.length:Int) then
     if (!(api_Event.beq (gt a643 v645) (gt a644 v645)))=true then
      inrO (
       some false)
     else
      nextO (IntKind.i64.wrap (v645+1))
    else none
   else none
  else
   inrO (
    some true)
noncomputable def r18_Same (a643:List api_Event) (a644:List api_Event):Option Bool :=
 if ((a643.length:Int) != (a644.length:Int))=true then
  some false
 else
  whileO (r18_Same_s1 a643 a644) 0
noncomputable def r20_Same_j13 (a646:api_World) (a647:api_World) (b648:Bool):Option Bool :=
 if (b648&&(a646.Down==a647.Down))=true then
  (r18_Same a646.Seen a647.Seen).bind fun x649 =>
  some x649
 else
  some false
noncomputable def r20_Same_j12 (a646:api_World) (a647:api_World) (b650:Bool):Option Bool :=
 if b650=true then
  (r17_Same a646.Idle a647.Idle).bind fun x651 =>
  r20_Same_j13 a646 a647 x651
 else
  r20_Same_j13 a646 a647 false
noncomputable def r20_Same_j11 (a646:api_World) (a647:api_World) (b652:Bool):Option Bool :=
 if b652=true then
  (r11_Same a646.Joins a647.Joins).bind fun x653 =>
  r20_Same_j12 a646 a647 x653
 else
  r20_Same_j12 a646 a647 false
noncomputable def r20_Same_j10 (a646:api_World) (a647:api_World) (b654:Bool):Option Bool :=
 if b654=true then
  (r09_Same a646.Fds a647.Fds).bind fun x655 =>
  r20_Same_j11 a646 a647 x655
 else
  r20_Same_j11 a646 a647 false
noncomputable def r20_Same_j9 (a646:api_World) (a647:api_World) (b656:Bool):Option Bool :=
 if b656=true then
  (r08_Same a646.Heap a647.Heap).bind fun x657 =>
  r20_Same_j10 a646 a647 x657
 else
  r20_Same_j10 a646 a647 false
noncomputable def r20_Same_j8 (a646:api_World) (a647:api_World) (b658:Bool):Option Bool :=
 if b658=true then
  (r14_Same a646.Ten a647.Ten).bind fun x659 =>
  r20_Same_j9 a646 a647 x659
 else
  r20_Same_j9 a646 a647 false
noncomputable def r20_Same_j7 (a646:api_World) (a647:api_World) (b660:Bool):Option Bool :=
 if b660=true then
  (r06_Same a646.Lists a647.Lists).bind fun x661 =>
  r20_Same_j8 a646 a647 x661
 else
  r20_Same_j8 a646 a647 false
noncomputable def r20_Same_j6 (a646:api_World) (a647:api_World) (b662:Bool):Option Bool :=
 if b662=true then
  (r01_Same a646.Mem a647.Mem).bind fun x663 =>
  r20_Same_j7 a646 a647 x663
 else
  r20_Same_j7 a646 a647 false
noncomputable def r20_Same_j5 (a646:api_World) (a647:api_World) (b664:Bool):Option Bool :=
 if b664=true then
  (r18_SameTasks a646.T a647.T).bind fun x665 =>
  r20_Same_j6 a646 a647 x665
 else
  r20_Same_j6 a646 a647 false
noncomputable def r20_Same_s4 (a646:api_World) (a647:api_World):(Int)→Option ((Int) ⊕ (Bool))
 | v666 =>
  if (decide (v666 < (a646.W.length:Int)))=true then
   if 0≤v666∧v666 < (a646.W.length:Int) then
    if 0≤v666∧v666 < (a647.W.length:Int) then
     (r20_sameWorker (gt a646.W v666) (gt a647.W v666)).bind fun x667 =>
     if (!x667)=true then
      inrO (
       some false)
     else
      nextO (IntKind.i64.wrap (v666+1))
    else none
   else none
  else
   inrO (
    if ((a646.Now==a647.Now)&&(r03_Same a646.Dice a647.Dice))=true then
     (r05_Same a646.Ids a647.Ids).bind fun x668 =>
     r20_Same_j5 a646 a647 x668
    else
     r20_Same_j5 a646 a647 false)
noncomputable def r20_Same_s2 (a646:api_World) (a647:api_World):(Int)→Option ((Int) ⊕ (Bool))
 | v669 =>
  if (decide (v669 < (a646.Sems.length:Int)))=true then
   if 0≤v669∧v669 < (a646.Sems.length:Int) then
    if 0≤v669∧v669 < (a647.Sems.length:Int) then
     (r10_Same (gt a646.Sems v669) (gt a647.Sems v669)).bind fun x670 =>
     if (!x670)=true then
      inrO (
       some false)
     else
      nextO (IntKind.i64.wrap (v669+1))
    else none
   else none
  else
   inrO (
    whileO (r20_Same_s4 a646 a647) 0)
noncomputable def r20_Same (a646:api_World) (a647:api_World):Option Bool :=
 if (((a646.Sems.length:Int) != (a647.Sems.length:Int))||((a646.W.length:Int) != (a647.W.length:Int)))=true then
  some false
 else
  whileO (r20_Same_s2 a646 a647) 0
def r03_Check (a671:api_Dice):Int :=
 if ((decide (a671.At < 0))||(decide (a671.At > (a671.L.length:Int))))=true then
  1
 else
  0
noncomputable def r05_Check_s1 (a672:api_Places):(Int)→Option ((Int) ⊕ (Int))
 | v673 =>
  if (decide (v673 < (a672.Gen.length:Int)))=true then
   if 0≤v673∧v673 < (a672.Gen.length:Int) then
    if ((decide ((gt a672.Gen v673) < 0))||(decide ((gt a672.Gen v673) > 1099511627776)))=true then
     inrO (
      some 1)
    else
     if 0≤v673∧v673 < (a672.Live.length:Int) then
      if ((gt a672.Live v673)&&((gt a672.Gen v673)==1099511627776))=true then
       inrO (
        some 1)
      else
       nextO (IntKind.i64.wrap (v673+1))
     else none
   else none
  else
   inrO (
    some 0)
noncomputable def r05_Check (a672:api_Places):Option Int :=
 if (((decide ((a672.Gen.length:Int) < 1))||(decide ((a672.Gen.length:Int) > 256)))||((a672.Live.length:Int) != (a672.Gen.length:Int)))=true then
  some 1
 else
  whileO (r05_Check_s1 a672) 0
def r12_state (a674:Int):Bool :=
 ((decide (a674≥1))&&(decide (a674≤7)))
noncomputable def r12_Check_s1 (a675:api_Task):(Int)→Option ((Int) ⊕ (Int))
 | v676 =>
  if (decide (v676 < 4))=true then
   if 0≤v676∧v676 < (4:Int) then
    if (decide ((if v676=0 then a675.Keeps.a0 else (if v676=1 then a675.Keeps.a1 else (if v676=2 then a675.Keeps.a2 else a675.Keeps.a3))) < (-1)))=true then
     inrO (
      some 1)
    else
     nextO (IntKind.i64.wrap (v676+1))
   else none
  else
   inrO (
    some 0)
noncomputable def r12_Check (a675:api_Task):Option Int :=
 if ((((((((((((decide (a675.Id < 0))||(decide (a675.Tenant < 0)))||(decide (a675.Tenant > 15)))||(decide (a675.Prog < 0)))||(decide (a675.Prog > 15)))||(decide (a675.Pc < 0)))||(decide (a675.Pc > 32)))||(decide (a675.Unit < 0)))||(decide (a675.Unit > 99)))||(!(r12_state a675.State)))||(decide (a675.Ran < 0)))||(decide (a675.Ran > 1099511627776)))=true then
  some 1
 else
  whileO (r12_Check_s1 a675) 0
noncomputable def r13_Fits_j1 (a677:api_Task) (a678:List api_Instr) (b679:Bool):Option Bool :=
 if (b679||(decide (a677.Pc > (a678.length:Int))))=true then
  some false
 else
  if (a677.Unit==0)=true then
   some true
  else
   if (decide (a677.Pc < (a678.length:Int)))=true then
    if 0≤a677.Pc∧a677.Pc < (a678.length:Int) then
     if (((gt a678 a677.Pc).Op)==1)=true then
      if 0≤a677.Pc∧a677.Pc < (a678.length:Int) then
       some (decide (a677.Unit < ((gt a678 a677.Pc).A)))
      else none
     else
      some false
    else none
   else
    some false
noncomputable def r13_Fits (a677:api_Task) (a678:List api_Instr):Option Bool :=
 (r12_Check a677).bind fun x680 =>
 if (x680 != 0)=true then
  r13_Fits_j1 a677 a678 true
 else
  (r04_Check a678).bind fun x681 =>
  r13_Fits_j1 a677 a678 (x681 != 0)
noncomputable def r20_tasks_s1 (a682:api_Config) (a683:api_World):(Int)→Option ((Int) ⊕ (Bool))
 | v684 =>
  if (decide (v684 < (a683.T.length:Int)))=true then
   if 0≤v684∧v684 < (a683.T.length:Int) then
    if 0≤v684∧v684 < (a683.Ids.Live.length:Int) then
     if (!(gt a683.Ids.Live v684))=true then
      if (!(api_Task.beq (gt a683.T v684) api_Task.zero))=true then
       inrO (
        some false)
      else
       nextO (IntKind.i64.wrap (v684+1))
     else
      (r12_Check (gt a683.T v684)).bind fun x685 =>
      if (x685 != 0)=true then
       inrO (
        some false)
      else
       if (((gt a683.T v684).State)==7)=true then
        inrO (
         some false)
       else
        if 0≤v684∧v684 < (a683.Ids.Gen.length:Int) then
         if (((gt a683.T v684).Id) != (IntKind.i64.wrap ((IntKind.i64.wrap (256*(gt a683.Ids.Gen v684)))+v684)))=true then
          inrO (
           some false)
         else
          if (decide (((gt a683.T v684).Tenant)≥(a682.Weights.length:Int)))=true then
           inrO (
            some false)
          else
           if (decide (((gt a683.T v684).Prog)≥(a682.Progs.length:Int)))=true then
            inrO (
             some false)
           else
            if 0≤((gt a683.T v684).Prog)∧((gt a683.T v684).Prog) < (a682.Progs.length:Int) then
             (r13_Fits (gt a683.T v684) (gt a682.Progs ((gt a683.T v684).Prog))).bind fun x686 =>
             if (!x686)=true then
              inrO (
               some false)
             else
              nextO (IntKind.i64.wrap (v684+1))
            else none
        else none
    else none
   else none
  else
   inrO (
    some true)
noncomputable def r20_tasks (a682:api_Config) (a683:api_World):Option Bool :=
 (r05_Check a683.Ids).bind fun x687 =>
 if (((x687 != 0)||((a683.Ids.Gen.length:Int) != a682.Tasks))||((a683.T.length:Int) != a682.Tasks))=true then
  some false
 else
  whileO (r20_tasks_s1 a682 a683) 0
noncomputable def r06_Lists_s14 (a688:api_Chains) (v689:List (List Int)) (v690:Int):((List Bool)×Int×(List Int)×Int)→Option (((List Bool)×Int×(List Int)×Int) ⊕ (((List Bool)×(List (List Int))×Int) ⊕ ((List (List Int))×Bool)))
 | (v691,v692,v693,v694) =>
  if (v692 != (-1))=true then
   if ((decide (v692 < 0))||(decide (v692≥(a688.Next.length:Int))))=true then
    inrO (
     inrO (
      some ([],false)))
   else
    if 0≤v692∧v692 < (v691.length:Int) then
     if (gt v691 v692)=true then
      inrO (
       inrO (
        some ([],false)))
     else
      if 0≤v692∧v692 < (v691.length:Int) then
       if few (v693++[v692]).length then
        if 0≤v692∧v692 < (a688.Next.length:Int) then
         nextO (st v691 v692 true,(gt a688.Next v692),v693++[v692],v692)
        else none
       else none
      else none
    else none
  else
   inrO (
    if 0≤v690∧v690 < (a688.Tail.length:Int) then
     if ((gt a688.Tail v690) != v694)=true then
      inrO (
       some ([],false))
     else
      if few (v689++[v693]).length then
       nextO (v691,v689++[v693],IntKind.i64.wrap (v690+1))
      else none
    else none)
noncomputable def r06_Lists_s15 (a688:api_Chains) (v695:List Bool) (v689:List (List Int)):(Int)→Option ((Int) ⊕ ((List (List Int))×Bool))
 | v696 =>
  if (decide (v696 < (v695.length:Int)))=true then
   if 0≤v696∧v696 < (v695.length:Int) then
    if (!(gt v695 v696))=true then
     if 0≤v696∧v696 < (a688.Next.length:Int) then
      if ((gt a688.Next v696) != (-2))=true then
       inrO (
        some ([],false))
      else
       nextO (IntKind.i64.wrap (v696+1))
     else none
    else
     nextO (IntKind.i64.wrap (v696+1))
   else none
  else
   inrO (
    some (v689,true))
noncomputable def r06_Lists_s12 (a688:api_Chains):((List Bool)×(List (List Int))×Int)→Option (((List Bool)×(List (List Int))×Int) ⊕ ((List (List Int))×Bool))
 | (v695,v689,v690) =>
  if (decide (v690 < (a688.Head.length:Int)))=true then
   if 0≤v690∧v690 < (a688.Head.length:Int) then
    whileO (r06_Lists_s14 a688 v689 v690) (v695,(gt a688.Head v690),[],-1)
   else none
  else
   inrO (
    whileO (r06_Lists_s15 a688 v695 v689) 0)
noncomputable def r06_Lists (a688:api_Chains):Option ((List (List Int))×Bool) :=
 if ((((decide ((a688.Next.length:Int) > 1024))||(decide ((a688.Head.length:Int) < 1)))||(decide ((a688.Head.length:Int) > 256)))||((a688.Tail.length:Int) != (a688.Head.length:Int)))=true then
  some ([],false)
 else
  if 0≤(a688.Next.length:Int)∧(a688.Next.length:Int)≤(a688.Next.length:Int)∧(a688.Next.length:Int)≤549755813888 then
   whileO (r06_Lists_s12 a688) (List.replicate (Int.toNat (a688.Next.length:Int)) false,[],0)
  else none
noncomputable def r20_lists_j13 (a697:api_World) (x698:List (List Int)) (v699:Int) (v700:Int) (b701:Bool):Option ((Int) ⊕ ((Int) ⊕ (Bool))) :=
 if b701=true then
  inrO (
   inrO (
    some false))
 else
  if 0≤(gt (gt x698 v699) v700)∧(gt (gt x698 v699) v700) < (a697.T.length:Int) then
   if (((gt a697.T (gt (gt x698 v699) v700)).Tenant) != v699)=true then
    inrO (
     inrO (
      some false))
   else
    nextO (IntKind.i64.wrap (v700+1))
  else none
noncomputable def r20_lists_s12 (a697:api_World) (x698:List (List Int)) (v699:Int):(Int)→Option ((Int) ⊕ ((Int) ⊕ (Bool)))
 | v700 =>
  if (decide (v700 < ((gt x698 v699).length:Int)))=true then
   if 0≤v700∧v700 < ((gt x698 v699).length:Int) then
    if 0≤(gt (gt x698 v699) v700)∧(gt (gt x698 v699) v700) < (a697.Ids.Live.length:Int) then
     if (!(gt a697.Ids.Live (gt (gt x698 v699) v700)))=true then
      r20_lists_j13 a697 x698 v699 v700 true
     else
      if 0≤(gt (gt x698 v699) v700)∧(gt (gt x698 v699) v700) < (a697.T.length:Int) then
       r20_lists_j13 a697 x698 v699 v700 (((gt a697.T (gt (gt x698 v699) v700)).State) != 1)
      else none
    else none
   else none
  else
   inrO (
    nextO (IntKind.i64.wrap (v699+1)))
noncomputable def r20_lists_s9 (a697:api_World) (x698:List (List Int)):(Int)→Option ((Int) ⊕ (Bool))
 | v699 =>
  if (decide (v699 < (x698.length:Int)))=true then
   if 0≤v699∧v699 < (x698.length:Int) then
    whileO (r20_lists_s12 a697 x698 v699) 0
   else none
  else
   inrO (
    some true)
noncomputable def r20_lists (a702:api_Config) (a697:api_World):Option Bool :=
 (r06_Lists a697.Lists).bind fun(x698,x703) =>
 if (((!x703)||((a697.Lists.Next.length:Int) != a702.Tasks))||((x698.length:Int) != (a702.Weights.length:Int)))=true then
  some false
 else
  whileO (r20_lists_s9 a697 x698) 0
def r08_may (a704:api_Timer):Bool :=
 (((decide (a704.At≥0))&&(decide (a704.At≤1125899906842624)))&&(decide (a704.Id≥0)))
noncomputable def r08_Check_s5 (a705:List api_Timer) (v706:Int):(Int)→Option ((Int) ⊕ ((Int) ⊕ (Int)))
 | v707 =>
  if (decide (v707 < ((sub a705 0 v706).length:Int)))=true then
   if 0≤v707∧v707 < ((sub a705 0 v706).length:Int) then
    if (((gt (sub a705 0 v706) v707).Id)==((gt a705 v706).Id))=true then
     inrO (
      inrO (
       some 1))
    else
     nextO (IntKind.i64.wrap (v707+1))
   else none
  else
   inrO (
    nextO (IntKind.i64.wrap (v706+1)))
noncomputable def r08_Check_s6 (a705:List api_Timer) (v706:Int):(Int)→Option ((Int) ⊕ ((Int) ⊕ (Int)))
 | v708 =>
  if (decide (v708 < ((sub a705 0 v706).length:Int)))=true then
   if 0≤v708∧v708 < ((sub a705 0 v706).length:Int) then
    if (((gt (sub a705 0 v706) v708).Id)==((gt a705 v706).Id))=true then
     inrO (
      inrO (
       some 1))
    else
     nextO (IntKind.i64.wrap (v708+1))
   else none
  else
   inrO (
    nextO (IntKind.i64.wrap (v706+1)))
noncomputable def r08_Check_s4 (a705:List api_Timer):(Int)→Option ((Int) ⊕ (Int))
 | v706 =>
  if (decide (v706 < (a705.length:Int)))=true then
   if 0≤v706∧v706 < (a705.length:Int) then
    if (!(r08_may (gt a705 v706)))=true then
     inrO (
      some 1)
    else
     if (decide (v706 > 0))=true then
      if 0≤(IntKind.i64.wrap (Int.tdiv (IntKind.i64.wrap (v706 - 1)) 4))∧(IntKind.i64.wrap (Int.tdiv (IntKind.i64.wrap (v706 - 1)) 4)) < (a705.length:Int) then
       if (r08_Less (gt a705 v706) (gt a705 (IntKind.i64.wrap (Int.tdiv (IntKind.i64.wrap (v706 - 1)) 4))))=true then
        inrO (
         some 1)
       else
        if 0≤v706∧v706≤(a705.length:Int) then
         whileO (r08_Check_s5 a705 v706) 0
        else none
      else none
     else
      if 0≤v706∧v706≤(a705.length:Int) then
       whileO (r08_Check_s6 a705 v706) 0
      else none
   else none
  else
   inrO (
    some 0)
noncomputable def r08_Check (a705:List api_Timer):Option Int :=
 if (decide ((a705.length:Int) > 256))=true then
  some 1
 else
  whileO (r08_Check_s4 a705) 0
noncomputable def r09_Check_s4 (a709:List api_Fd) (v710:Int):(Int)→Option ((Int) ⊕ ((Int) ⊕ (Int)))
 | v711 =>
  if (decide (v711 < ((sub a709 0 v710).length:Int)))=true then
   if 0≤v711∧v711 < ((sub a709 0 v710).length:Int) then
    if ((decide (((gt a709 v710).Who)≥0))&&(((gt (sub a709 0 v710) v711).Who)==((gt a709 v710).Who)))=true then
     inrO (
      inrO (
       some 1))
    else
     nextO (IntKind.i64.wrap (v711+1))
   else none
  else
   inrO (
    nextO (IntKind.i64.wrap (v710+1)))
noncomputable def r09_Check_s3 (a709:List api_Fd):(Int)→Option ((Int) ⊕ (Int))
 | v710 =>
  if (decide (v710 < (a709.length:Int)))=true then
   if 0≤v710∧v710 < (a709.length:Int) then
    if (((decide (((gt a709 v710).Who) < (-1)))||((!((gt a709 v710).Open))&&(((gt a709 v710).Ready)||(((gt a709 v710).Who) != (-1)))))||(((gt a709 v710).Ready)&&(((gt a709 v710).Who) != (-1))))=true then
     inrO (
      some 1)
    else
     if 0≤v710∧v710≤(a709.length:Int) then
      whileO (r09_Check_s4 a709 v710) 0
     else none
   else none
  else
   inrO (
    some 0)
noncomputable def r09_Check (a709:List api_Fd):Option Int :=
 if (decide ((a709.length:Int) > 16))=true then
  some 1
 else
  whileO (r09_Check_s3 a709) 0
noncomputable def r11_on_s1 (a712:List api_Join) (a713:Int):(Int)→Option ((Int) ⊕ (Int))
 | v714 =>
  if (decide (v714 < (a712.length:Int)))=true then
   if 0≤v714∧v714 < (a712.length:Int) then
    if (((gt a712 v714).Who)==a713)=true then
     inrO (
      some ((gt a712 v714).On))
    else
     nextO (IntKind.i64.wrap (v714+1))
   else none
  else
   inrO (
    some (-1))
noncomputable def r11_on (a712:List api_Join) (a713:Int):Option Int :=
 whileO (r11_on_s1 a712 a713) 0
noncomputable def r11_Way_s1 (a715:List api_Join):(Int×(List Int)×Int)→Option ((Int×(List Int)×Int) ⊕ (List Int))
 | (v716,v717,v718) =>
  if (decide (v718 < (IntKind.i64.wrap ((a715.length:Int)+1))))=true then
   (r11_on a715 v716).bind fun x719 =>
   if (decide (x719 < 0))=true then
    inrO (
     some v717)
   else
    if few (v717++[x719]).length then
     nextO (x719,v717++[x719],IntKind.i64.wrap (v718+1))
    else none
  else
   inrO (
    some v717)
noncomputable def r11_Way (a715:List api_Join) (a720:Int):Option (List Int) :=
 whileO (r11_Way_s1 a715) (a720,[],0)
noncomputable def r10_Has_s1 (a721:List Int) (a722:Int):(Int)→Option ((Int) ⊕ (Bool))
 | v723 =>
  if (decide (v723 < (a721.length:Int)))=true then
   if 0≤v723∧v723 < (a721.length:Int) then
    if ((gt a721 v723)==a722)=true then
     inrO (
      some true)
    else
     nextO (IntKind.i64.wrap (v723+1))
   else none
  else
   inrO (
    some false)
noncomputable def r10_Has (a721:List Int) (a722:Int):Option Bool :=
 whileO (r10_Has_s1 a721 a722) 0
noncomputable def r11_Check_s3 (a724:List api_Join):(Int)→Option ((Int) ⊕ (Int))
 | v725 =>
  if (decide (v725 < (a724.length:Int)))=true then
   if 0≤v725∧v725 < (a724.length:Int) then
    (r11_Way a724 ((gt a724 v725).Who)).bind fun x726 =>
    (r10_Has x726 ((gt a724 v725).Who)).bind fun x727 =>
    if x727=true then
     inrO (
      some 1)
    else
     nextO (IntKind.i64.wrap (v725+1))
   else none
  else
   inrO (
    some 0)
noncomputable def r11_Check_s2 (a724:List api_Join):(Int)→Option ((Int) ⊕ (Int))
 | v728 =>
  if (decide (v728 < (a724.length:Int)))=true then
   if 0≤v728∧v728 < (a724.length:Int) then
    if (decide (((gt a724 v728).On) < 0))=true then
     inrO (
      some 1)
    else
     if (decide (((gt a724 v728).Who) < 0))=true then
      inrO (
       some 1)
     else
      if 0≤v728∧v728≤(a724.length:Int) then
       (r11_on (sub a724 0 v728) ((gt a724 v728).Who)).bind fun x729 =>
       if (decide (x729≥0))=true then
        inrO (
         some 1)
       else
        nextO (IntKind.i64.wrap (v728+1))
      else none
   else none
  else
   inrO (
    whileO (r11_Check_s3 a724) 0)
noncomputable def r11_Check (a724:List api_Join):Option Int :=
 if (decide ((a724.length:Int) > 256))=true then
  some 1
 else
  whileO (r11_Check_s2 a724) 0
noncomputable def r17_many_s1 (a730:List Int) (a731:Int):(Int×Int)→Option ((Int×Int) ⊕ (Int))
 | (v732,v733) =>
  if (decide (v733 < (a730.length:Int)))=true then
   if 0≤v733∧v733 < (a730.length:Int) then
    if ((gt a730 v733)==a731)=true then
     nextO (IntKind.i64.wrap (v732+1),IntKind.i64.wrap (v733+1))
    else
     nextO (v732,IntKind.i64.wrap (v733+1))
   else none
  else
   inrO (
    some v732)
noncomputable def r17_many (a730:List Int) (a731:Int):Option Int :=
 whileO (r17_many_s1 a730 a731) (0,0)
noncomputable def r17_Fits (a734:List Int):Option Bool :=
 (r17_many a734 1).bind fun x735 =>
 (r17_many a734 3).bind fun x736 =>
 some (decide ((IntKind.i64.wrap (2*x735))≤(IntKind.i64.wrap ((IntKind.i64.wrap ((a734.length:Int) - x736))+1))))
noncomputable def r17_Check_s1 (a737:api_Idle):(Int)→Option ((Int) ⊕ (Int))
 | v738 =>
  if (decide (v738 < (a737.Is.length:Int)))=true then
   if 0≤v738∧v738 < (a737.Is.length:Int) then
    if ((decide ((gt a737.Is v738) < 0))||(decide ((gt a737.Is v738) > 3)))=true then
     inrO (
      some 1)
    else
     if (decide ((gt a737.Is v738)≥2))=true then
      (r17_many a737.Stack v738).bind fun x739 =>
      if (x739 != 1)=true then
       inrO (
        some 1)
      else
       nextO (IntKind.i64.wrap (v738+1))
     else
      nextO (IntKind.i64.wrap (v738+1))
   else none
  else
   inrO (
    some 0)
noncomputable def r17_Check (a737:api_Idle):Option Int :=
 if (decide ((a737.Is.length:Int) < 1))=true then
  some 1
 else
  if (decide ((a737.Is.length:Int) > 64))=true then
   some 1
  else
   (r17_Fits a737.Is).bind fun x740 =>
   if (!x740)=true then
    some 1
   else
    (r17_many a737.Is 2).bind fun x741 =>
    (r17_many a737.Is 3).bind fun x742 =>
    if ((a737.Stack.length:Int) != (IntKind.i64.wrap (x741+x742)))=true then
     some 1
    else
     whileO (r17_Check_s1 a737) 0
noncomputable def r10_Check_s1 (a743:api_Sem):(Int)→Option ((Int) ⊕ (Int))
 | v744 =>
  if (decide (v744 < (a743.Wait.length:Int)))=true then
   if 0≤v744∧v744 < (a743.Wait.length:Int) then
    if (decide ((gt a743.Wait v744) < 0))=true then
     inrO (
      some 1)
    else
     if 0≤v744∧v744≤(a743.Wait.length:Int) then
      (r10_Has (sub a743.Wait 0 v744) (gt a743.Wait v744)).bind fun x745 =>
      if x745=true then
       inrO (
        some 1)
      else
       nextO (IntKind.i64.wrap (v744+1))
     else none
   else none
  else
   inrO (
    some 0)
noncomputable def r10_Check (a743:api_Sem):Option Int :=
 if ((((decide (a743.Free < 0))||(decide (a743.Free > 1000)))||(decide ((a743.Wait.length:Int) > 256)))||((decide (a743.Free > 0))&&(decide ((a743.Wait.length:Int) > 0))))=true then
  some 1
 else
  whileO (r10_Check_s1 a743) 0
def r20_in (a746:Int) (a747:Int) (a748:Int):Bool :=
 ((decide (a746≥a747))&&(decide (a746≤a748)))
def r07_pcs (a749:Int):Int :=
 if ((a749==1)||(a749==3))=true then
  4
 else
  if (a749==2)=true then
   7
  else
   0
def r07_count (a750:Int) (a751:Int):Bool :=
 ((decide (a750≥a751))&&(decide (a750≤1099511627776)))
def r07_May (a752:api_Hand):Bool :=
 if (decide (a752.Pc≥0))=true then
  if (decide (a752.Pc < (r07_pcs a752.Kind)))=true then
   if (r07_count a752.T (-1))=true then
    if (r07_count a752.B (-1))=true then
     if (decide (a752.State≥0))=true then
      decide (a752.State≤4)
     else
      false
    else
     false
   else
    false
  else
   false
 else
  false
noncomputable def r05_Find (a753:api_Places) (a754:Int):Option (Int×Int) :=
 (r05_Check a753).bind fun x755 =>
 if ((x755 != 0)||(decide (a754 < 0)))=true then
  some (0,1)
 else
  if (decide ((Int.tmod a754 256)≥(a753.Gen.length:Int)))=true then
   some (0,5)
  else
   if 0≤(Int.tmod a754 256)∧(Int.tmod a754 256) < (a753.Gen.length:Int) then
    if (decide ((IntKind.i64.wrap (Int.tdiv a754 256)) > (gt a753.Gen (Int.tmod a754 256))))=true then
     some (0,5)
    else
     if 0≤(Int.tmod a754 256)∧(Int.tmod a754 256) < (a753.Gen.length:Int) then
      if (decide ((IntKind.i64.wrap (Int.tdiv a754 256)) < (gt a753.Gen (Int.tmod a754 256))))=true then
       some (0,8)
      else
       if 0≤(Int.tmod a754 256)∧(Int.tmod a754 256) < (a753.Live.length:Int) then
        if (!(gt a753.Live (Int.tmod a754 256)))=true then
         some (0,5)
        else
         some (Int.tmod a754 256,0)
       else none
     else none
   else none
noncomputable def r20_holds (a756:api_World) (a757:Int) (a758:Int):Option Bool :=
 if (a757==(-1))=true then
  some true
 else
  (r05_Find a756.Ids a757).bind fun(x759,x760) =>
  if (x760==0)=true then
   if 0≤x759∧x759 < (a756.T.length:Int) then
    some (((gt a756.T x759).State)==a758)
   else none
  else
   some false
noncomputable def r20_worker_j5 (a761:api_World) (a762:Int) (b763:Bool):Option Bool :=
 some (((b763&&(((gt a761.Idle.Is a762)==3)==(((gt a761.W a762).Do)==9)))&&(((gt a761.Idle.Is a762)==2)==((((gt a761.W a762).Do)==7)||(((gt a761.W a762).Do)==8))))&&(((gt a761.Idle.Is a762)==1)==(((gt a761.W a762).Do)==5)))
noncomputable def r20_worker_s4 (a761:api_World) (a762:Int):(Int)→Option ((Int) ⊕ (Bool))
 | v764 =>
  if (decide (v764 < (a761.W.length:Int)))=true then
   if 0≤v764∧v764 < (a761.W.length:Int) then
    if (((decide (((gt a761.W a762).Task)≥0))&&(((v764 != a762)&&(((gt a761.W v764).Task)==((gt a761.W a762).Task)))||(((gt a761.W v764).Kid)==((gt a761.W a762).Task))))||(((decide (((gt a761.W a762).Kid)≥0))&&(v764 != a762))&&(((gt a761.W v764).Kid)==((gt a761.W a762).Kid))))=true then
     inrO (
      some false)
    else
     nextO (IntKind.i64.wrap (v764+1))
   else none
  else
   inrO (
    (r20_holds a761 ((gt a761.W a762).Task) 2).bind fun x765 =>
    if x765=true then
     (r20_holds a761 ((gt a761.W a762).Kid) 1).bind fun x766 =>
     r20_worker_j5 a761 a762 x766
    else
     r20_worker_j5 a761 a762 false)
noncomputable def r20_worker_s2 (a767:api_Config) (a761:api_World) (a762:Int):(Int)→Option ((Int) ⊕ (Bool))
 | v768 =>
  if (decide (v768 < (((gt a761.W a762).Ask).length:Int)))=true then
   if 0≤v768∧v768 < (((gt a761.W a762).Ask).length:Int) then
    if (!(r20_in (gt ((gt a761.W a762).Ask) v768) 0 (IntKind.i64.wrap (a767.Workers - 1))))=true then
     inrO (
      some false)
    else
     nextO (IntKind.i64.wrap (v768+1))
   else none
  else
   inrO (
    whileO (r20_worker_s4 a761 a762) 0)
noncomputable def r20_worker (a767:api_Config) (a761:api_World) (a762:Int):Option Bool :=
 if 0≤a762∧a762 < (a761.W.length:Int) then
  if 0≤a762∧a762 < (a761.Idle.Is.length:Int) then
   if ((((((!(r20_in ((gt a761.W a762).Do) 0 13))||((!(api_Hand.beq ((gt a761.W a762).Hand) api_Hand.zero))&&((!(r07_May ((gt a761.W a762).Hand)))||(((gt a761.W a762).Hand.State) != 0))))||(!(r20_in ((gt a761.W a762).At) 0 a767.Workers)))||(decide ((((gt a761.W a762).Ask).length:Int) > 64)))||(!(r20_in ((gt a761.W a762).Left) 0 a767.Budget)))||(!(r20_in ((gt a761.W a762).Spill) 0 a767.Cap)))=true then
    some false
   else
    whileO (r20_worker_s2 a767 a761 a762) 0
  else none
 else none
noncomputable def r20_Check_s9 (a769:api_Config) (a770:api_World):(Int)→Option ((Int) ⊕ (Int))
 | v771 =>
  if (decide (v771 < (a770.W.length:Int)))=true then
   (r20_worker a769 a770 v771).bind fun x772 =>
   if (!x772)=true then
    inrO (
     some 1)
   else
    nextO (IntKind.i64.wrap (v771+1))
  else
   inrO (
    some 0)
noncomputable def r20_Check_s8 (a769:api_Config) (a770:api_World):(Int)→Option ((Int) ⊕ (Int))
 | v773 =>
  if (decide (v773 < (a770.Sems.length:Int)))=true then
   if 0≤v773∧v773 < (a770.Sems.length:Int) then
    (r10_Check (gt a770.Sems v773)).bind fun x774 =>
    if (x774 != 0)=true then
     inrO (
      some 1)
    else
     nextO (IntKind.i64.wrap (v773+1))
   else none
  else
   inrO (
    whileO (r20_Check_s9 a769 a770) 0)
noncomputable def r20_Check_j6 (a769:api_Config) (a770:api_World) (b775:Bool):Option Int :=
 if ((b775||((a770.Idle.Is.length:Int) != a769.Workers))||((a770.W.length:Int) != a769.Workers))=true then
  some 1
 else
  whileO (r20_Check_s8 a769 a770) 0
noncomputable def r20_Check_j5 (a769:api_Config) (a770:api_World) (b776:Bool):Option Int :=
 if b776=true then
  r20_Check_j6 a769 a770 true
 else
  (r17_Check a770.Idle).bind fun x777 =>
  r20_Check_j6 a769 a770 (x777 != 0)
noncomputable def r20_Check_j4 (a769:api_Config) (a770:api_World) (b778:Bool):Option Int :=
 if ((b778||((a770.Fds.length:Int) != a769.Fds))||((a770.Sems.length:Int) != (a769.Sems.length:Int)))=true then
  r20_Check_j5 a769 a770 true
 else
  (r11_Check a770.Joins).bind fun x779 =>
  r20_Check_j5 a769 a770 (x779 != 0)
noncomputable def r20_Check_j3 (a769:api_Config) (a770:api_World) (b780:Bool):Option Int :=
 if b780=true then
  r20_Check_j4 a769 a770 true
 else
  (r09_Check a770.Fds).bind fun x781 =>
  r20_Check_j4 a769 a770 (x781 != 0)
noncomputable def r20_Check_j2 (a769:api_Config) (a770:api_World) (b782:Bool):Option Int :=
 if (b782||((a770.Ten.length:Int) != (a769.Weights.length:Int)))=true then
  r20_Check_j3 a769 a770 true
 else
  (r08_Check a770.Heap).bind fun x783 =>
  r20_Check_j3 a769 a770 (x783 != 0)
noncomputable def r20_Check_j1 (a769:api_Config) (a770:api_World) (b784:Bool):Option Int :=
 if b784=true then
  some 1
 else
  (r20_lists a769 a770).bind fun x785 =>
  if (!x785)=true then
   some 1
  else
   if ((a770.Mem.length:Int) != (IntKind.i64.wrap (a769.Workers*(IntKind.i64.wrap (a769.Cap+2)))))=true then
    r20_Check_j2 a769 a770 true
   else
    (r14_Check a770.Ten).bind fun x786 =>
    r20_Check_j2 a769 a770 (x786 != 0)
noncomputable def r20_Check (a769:api_Config) (a770:api_World):Option Int :=
 (r19_Config a769).bind fun x787 =>
 if (((((x787 != 0)||(decide (a770.Now < 0)))||(decide (a770.Now > 1125899906842624)))||((r03_Check a770.Dice) != 0))||(decide ((a770.Seen.length:Int) > 65536)))=true then
  r20_Check_j1 a769 a770 true
 else
  (r20_tasks a769 a770).bind fun x788 =>
  r20_Check_j1 a769 a770 (!x788)
def bytes_Equal (a789:List Int) (a790:List Int):Bool :=
 ((strOfNums a789).toList==(strOfNums a790).toList)
def dice_Same (a791:api_Dice) (a792:api_Dice):Bool :=
 ((a791.At==a792.At)&&(bytes_Equal a791.L a792.L))
noncomputable def slices_Equal_int64_int64_s1 (a793:List Int) (a794:List Int):(Int)→Option ((Int) ⊕ (Bool))
 | v795 =>
  if (decide (v795 < (a793.length:Int)))=true then
   if 0≤v795∧v795 < (a793.length:Int) then
    if 0≤v795∧v795 < (a794.length:Int) then
     if ((gt a793 v795) != (gt a794 v795))=true then
      inrO (
       some false)
     else
      nextO (IntKind.i64.wrap (v795+1))
    else none
   else none
  else
   inrO (
    some true)
noncomputable def slices_Equal_int64_int64 (a793:List Int) (a794:List Int):Option Bool :=
 if ((a793.length:Int) != (a794.length:Int))=true then
  some false
 else
  whileO (slices_Equal_int64_int64_s1 a793 a794) 0
noncomputable def slices_Equal_bool_bool_s1 (a796:List Bool) (a797:List Bool):(Int)→Option ((Int) ⊕ (Bool))
 | v798 =>
  if (decide (v798 < (a796.length:Int)))=true then
   if 0≤v798∧v798 < (a796.length:Int) then
    if 0≤v798∧v798 < (a797.length:Int) then
     if (!((gt a796 v798)==(gt a797 v798)))=true then
      inrO (
       some false)
     else
      nextO (IntKind.i64.wrap (v798+1))
    else none
   else none
  else
   inrO (
    some true)
noncomputable def slices_Equal_bool_bool (a796:List Bool) (a797:List Bool):Option Bool :=
 if ((a796.length:Int) != (a797.length:Int))=true then
  some false
 else
  whileO (slices_Equal_bool_bool_s1 a796 a797) 0
noncomputable def slot_Same (a799:api_Places) (a800:api_Places):Option Bool :=
 (slices_Equal_int64_int64 a799.Gen a800.Gen).bind fun x801 =>
 if x801=true then
  (slices_Equal_bool_bool a799.Live a800.Live).bind fun x802 =>
  some x802
 else
  some false
noncomputable def slices_Equal_api_Task_api_Task_s1 (a803:List api_Task) (a804:List api_Task):(Int)→Option ((Int) ⊕ (Bool))
 | v805 =>
  if (decide (v805 < (a803.length:Int)))=true then
   if 0≤v805∧v805 < (a803.length:Int) then
    if 0≤v805∧v805 < (a804.length:Int) then
     if (!(api_Task.beq (gt a803 v805) (gt a804 v805)))=true then
      inrO (
       some false)
     else
      nextO (IntKind.i64.wrap (v805+1))
    else none
   else none
  else
   inrO (
    some true)
noncomputable def slices_Equal_api_Task_api_Task (a803:List api_Task) (a804:List api_Task):Option Bool :=
 if ((a803.length:Int) != (a804.length:Int))=true then
  some false
 else
  whileO (slices_Equal_api_Task_api_Task_s1 a803 a804) 0
noncomputable def slices_Equal_api_Mem_int64_s1 (a806:List Int) (a807:List Int):(Int)→Option ((Int) ⊕ (Bool))
 | v808 =>
  if (decide (v808 < (a806.length:Int)))=true then
   if 0≤v808∧v808 < (a806.length:Int) then
    if 0≤v808∧v808 < (a807.length:Int) then
     if ((gt a806 v808) != (gt a807 v808))=true then
      inrO (
       some false)
     else
      nextO (IntKind.i64.wrap (v808+1))
    else none
   else none
  else
   inrO (
    some true)
noncomputable def slices_Equal_api_Mem_int64 (a806:List Int) (a807:List Int):Option Bool :=
 if ((a806.length:Int) != (a807.length:Int))=true then
  some false
 else
  whileO (slices_Equal_api_Mem_int64_s1 a806 a807) 0
noncomputable def cell_Same (a809:List Int) (a810:List Int):Option Bool :=
 (slices_Equal_api_Mem_int64 a809 a810).bind fun x811 =>
 some x811
noncomputable def slices_Equal_int_int_s1 (a812:List Int) (a813:List Int):(Int)→Option ((Int) ⊕ (Bool))
 | v814 =>
  if (decide (v814 < (a812.length:Int)))=true then
   if 0≤v814∧v814 < (a812.length:Int) then
    if 0≤v814∧v814 < (a813.length:Int) then
     if ((gt a812 v814) != (gt a813 v814))=true then
      inrO (
       some false)
     else
      nextO (IntKind.i64.wrap (v814+1))
    else none
   else none
  else
   inrO (
    some true)
noncomputable def slices_Equal_int_int (a812:List Int) (a813:List Int):Option Bool :=
 if ((a812.length:Int) != (a813.length:Int))=true then
  some false
 else
  whileO (slices_Equal_int_int_s1 a812 a813) 0
noncomputable def chain_Same_j1 (a815:api_Chains) (a816:api_Chains) (b817:Bool):Option Bool :=
 if b817=true then
  (slices_Equal_int_int a815.Tail a816.Tail).bind fun x818 =>
  some x818
 else
  some false
noncomputable def chain_Same (a815:api_Chains) (a816:api_Chains):Option Bool :=
 (slices_Equal_int_int a815.Next a816.Next).bind fun x819 =>
 if x819=true then
  (slices_Equal_int_int a815.Head a816.Head).bind fun x820 =>
  chain_Same_j1 a815 a816 x820
 else
  chain_Same_j1 a815 a816 false
noncomputable def slices_Equal_api_Tenant_api_Tenant_s1 (a821:List api_Tenant) (a822:List api_Tenant):(Int)→Option ((Int) ⊕ (Bool))
 | v823 =>
  if (decide (v823 < (a821.length:Int)))=true then
   if 0≤v823∧v823 < (a821.length:Int) then
    if 0≤v823∧v823 < (a822.length:Int) then
     if (!(api_Tenant.beq (gt a821 v823) (gt a822 v823)))=true then
      inrO (
       some false)
     else
      nextO (IntKind.i64.wrap (v823+1))
    else none
   else none
  else
   inrO (
    some true)
noncomputable def slices_Equal_api_Tenant_api_Tenant (a821:List api_Tenant) (a822:List api_Tenant):Option Bool :=
 if ((a821.length:Int) != (a822.length:Int))=true then
  some false
 else
  whileO (slices_Equal_api_Tenant_api_Tenant_s1 a821 a822) 0
noncomputable def lodge_Same (a824:List api_Tenant) (a825:List api_Tenant):Option Bool :=
 (slices_Equal_api_Tenant_api_Tenant a824 a825).bind fun x826 =>
 some x826
noncomputable def slices_Equal_api_Timer_api_Timer_s1 (a827:List api_Timer) (a828:List api_Timer):(Int)→Option ((Int) ⊕ (Bool))
 | v829 =>
  if (decide (v829 < (a827.length:Int)))=true then
   if 0≤v829∧v829 < (a827.length:Int) then
    if 0≤v829∧v829 < (a828.length:Int) then
     if (!(api_Timer.beq (gt a827 v829) (gt a828 v829)))=true then
      inrO (
       some false)
     else
      nextO (IntKind.i64.wrap (v829+1))
    else none
   else none
  else
   inrO (
    some true)
noncomputable def slices_Equal_api_Timer_api_Timer (a827:List api_Timer) (a828:List api_Timer):Option Bool :=
 if ((a827.length:Int) != (a828.length:Int))=true then
  some false
 else
  whileO (slices_Equal_api_Timer_api_Timer_s1 a827 a828) 0
noncomputable def heap_Same_s16 (a830:List api_Timer) (s831:List api_Timer):(Int×(List api_Timer))→Option ((Int×(List api_Timer)) ⊕ (Bool))
 | (v832,v833) =>
  if (decide (v832 < (a830.length:Int)))=true then
   if 0≤v832∧v832 < (a830.length:Int) then
    if few (v833++[(gt a830 v832)]).length then
     nextO (IntKind.i64.wrap (v832+1),v833++[(gt a830 v832)])
    else none
   else none
  else
   inrO (
    (sortO heap_order v833).bind fun s834 =>
    (slices_Equal_api_Timer_api_Timer s831 s834).bind fun x835 =>
    some x835)
noncomputable def heap_Same_s8 (a836:List api_Timer) (a830:List api_Timer):(Int×(List api_Timer))→Option ((Int×(List api_Timer)) ⊕ (Bool))
 | (v837,v838) =>
  if (decide (v837 < (a836.length:Int)))=true then
   if 0≤v837∧v837 < (a836.length:Int) then
    if few (v838++[(gt a836 v837)]).length then
     nextO (IntKind.i64.wrap (v837+1),v838++[(gt a836 v837)])
    else none
   else none
  else
   inrO (
    (sortO heap_order v838).bind fun s831 =>
    whileO (heap_Same_s16 a830 s831) (0,[]))
noncomputable def heap_Same (a836:List api_Timer) (a830:List api_Timer):Option Bool :=
 whileO (heap_Same_s8 a836 a830) (0,[])
noncomputable def slices_Equal_api_Fd_api_Fd_s1 (a839:List api_Fd) (a840:List api_Fd):(Int)→Option ((Int) ⊕ (Bool))
 | v841 =>
  if (decide (v841 < (a839.length:Int)))=true then
   if 0≤v841∧v841 < (a839.length:Int) then
    if 0≤v841∧v841 < (a840.length:Int) then
     if (!(api_Fd.beq (gt a839 v841) (gt a840 v841)))=true then
      inrO (
       some false)
     else
      nextO (IntKind.i64.wrap (v841+1))
    else none
   else none
  else
   inrO (
    some true)
noncomputable def slices_Equal_api_Fd_api_Fd (a839:List api_Fd) (a840:List api_Fd):Option Bool :=
 if ((a839.length:Int) != (a840.length:Int))=true then
  some false
 else
  whileO (slices_Equal_api_Fd_api_Fd_s1 a839 a840) 0
noncomputable def poll_Same (a842:List api_Fd) (a843:List api_Fd):Option Bool :=
 (slices_Equal_api_Fd_api_Fd a842 a843).bind fun x844 =>
 some x844
noncomputable def sema_Same (a845:api_Sem) (a846:api_Sem):Option Bool :=
 if (a845.Free==a846.Free)=true then
  (slices_Equal_int64_int64 a845.Wait a846.Wait).bind fun x847 =>
  some x847
 else
  some false
noncomputable def slices_EqualFunc_api_Sem_api_Sem_api_Sem_api_Sem_Same73_s1 (a848:List api_Sem) (a849:List api_Sem):(Int)→Option ((Int) ⊕ (Bool))
 | v850 =>
  if (decide (v850 < (a848.length:Int)))=true then
   if 0≤v850∧v850 < (a848.length:Int) then
    if 0≤v850∧v850 < (a849.length:Int) then
     (sema_Same (gt a848 v850) (gt a849 v850)).bind fun x851 =>
     if (!x851)=true then
      inrO (
       some false)
     else
      nextO (IntKind.i64.wrap (v850+1))
    else none
   else none
  else
   inrO (
    some true)
noncomputable def slices_EqualFunc_api_Sem_api_Sem_api_Sem_api_Sem_Same73 (a848:List api_Sem) (a849:List api_Sem):Option Bool :=
 if ((a848.length:Int) != (a849.length:Int))=true then
  some false
 else
  whileO (slices_EqualFunc_api_Sem_api_Sem_api_Sem_api_Sem_Same73_s1 a848 a849) 0
noncomputable def slices_Equal_api_Join_api_Join_s1 (a852:List api_Join) (a853:List api_Join):(Int)→Option ((Int) ⊕ (Bool))
 | v854 =>
  if (decide (v854 < (a852.length:Int)))=true then
   if 0≤v854∧v854 < (a852.length:Int) then
    if 0≤v854∧v854 < (a853.length:Int) then
     if (!(api_Join.beq (gt a852 v854) (gt a853 v854)))=true then
      inrO (
       some false)
     else
      nextO (IntKind.i64.wrap (v854+1))
    else none
   else none
  else
   inrO (
    some true)
noncomputable def slices_Equal_api_Join_api_Join (a852:List api_Join) (a853:List api_Join):Option Bool :=
 if ((a852.length:Int) != (a853.length:Int))=true then
  some false
 else
  whileO (slices_Equal_api_Join_api_Join_s1 a852 a853) 0
noncomputable def joins_Same (a855:List api_Join) (a856:List api_Join):Option Bool :=
 (slices_Equal_api_Join_api_Join a855 a856).bind fun x857 =>
 some x857
noncomputable def idle_Same (a858:api_Idle) (a859:api_Idle):Option Bool :=
 (slices_Equal_int_int a858.Is a859.Is).bind fun x860 =>
 if x860=true then
  (slices_Equal_int_int a858.Stack a859.Stack).bind fun x861 =>
  some x861
 else
  some false
noncomputable def crew_sameWorker (a862:api_Worker) (a863:api_Worker):Option Bool :=
 (slices_Equal_int_int a862.Ask a863.Ask).bind fun x864 =>
 if (!x864)=true then
  some false
 else
  some (((((((a862.Do==a863.Do)&&(api_Hand.beq a862.Hand a863.Hand))&&(a862.At==a863.At))&&(a862.Task==a863.Task))&&(a862.Left==a863.Left))&&(a862.Kid==a863.Kid))&&(a862.Spill==a863.Spill))
noncomputable def slices_EqualFunc_api_Worker_api_Worker_api_Worker_api_Worker_sameWorker77_s1 (a865:List api_Worker) (a866:List api_Worker):(Int)→Option ((Int) ⊕ (Bool))
 | v867 =>
  if (decide (v867 < (a865.length:Int)))=true then
   if 0≤v867∧v867 < (a865.length:Int) then
    if 0≤v867∧v867 < (a866.length:Int) then
     (crew_sameWorker (gt a865 v867) (gt a866 v867)).bind fun x868 =>
     if (!x868)=true then
      inrO (
       some false)
     else
      nextO (IntKind.i64.wrap (v867+1))
    else none
   else none
  else
   inrO (
    some true)
noncomputable def slices_EqualFunc_api_Worker_api_Worker_api_Worker_api_Worker_sameWorker77 (a865:List api_Worker) (a866:List api_Worker):Option Bool :=
 if ((a865.length:Int) != (a866.length:Int))=true then
  some false
 else
  whileO (slices_EqualFunc_api_Worker_api_Worker_api_Worker_api_Worker_sameWorker77_s1 a865 a866) 0
noncomputable def slices_Equal_api_Event_api_Event_s1 (a869:List api_Event) (a870:List api_Event):(Int)→Option ((Int) ⊕ (Bool))
 | v871 =>
  if (decide (v871 < (a869.length:Int)))=true then
   if 0≤v871∧v871 < (a869.length:Int) then
    if 0≤v871∧v871 < (a870.length:Int) then
     if (!(api_Event.beq (gt a869 v871) (gt a870 v871)))=true then
      inrO (
       some false)
     else
      nextO (IntKind.i64.wrap (v871+1))
    else none
   else none
  else
   inrO (
    some true)
noncomputable def slices_Equal_api_Event_api_Event (a869:List api_Event) (a870:List api_Event):Option Bool :=
 if ((a869.length:Int) != (a870.length:Int))=true then
  some false
 else
  whileO (slices_Equal_api_Event_api_Event_s1 a869 a870) 0
noncomputable def crew_Same_j10 (a872:api_World) (a873:api_World) (b874:Bool):Option Bool :=
 if b874=true then
  some false
 else
  (idle_Same a872.Idle a873.Idle).bind fun x875 =>
  if (!x875)=true then
   some false
  else
   (slices_EqualFunc_api_Worker_api_Worker_api_Worker_api_Worker_sameWorker77 a872.W a873.W).bind fun x876 =>
   if x876=true then
    (slices_Equal_api_Event_api_Event a872.Seen a873.Seen).bind fun x877 =>
    some x877
   else
    some false
noncomputable def crew_Same_j9 (a872:api_World) (a873:api_World) (b878:Bool):Option Bool :=
 if b878=true then
  some false
 else
  (poll_Same a872.Fds a873.Fds).bind fun x879 =>
  if (!x879)=true then
   some false
  else
   (slices_EqualFunc_api_Sem_api_Sem_api_Sem_api_Sem_Same73 a872.Sems a873.Sems).bind fun x880 =>
   if (!x880)=true then
    crew_Same_j10 a872 a873 true
   else
    (joins_Same a872.Joins a873.Joins).bind fun x881 =>
    crew_Same_j10 a872 a873 (!x881)
noncomputable def crew_Same_j8 (a872:api_World) (a873:api_World) (b882:Bool):Option Bool :=
 if b882=true then
  crew_Same_j9 a872 a873 true
 else
  (heap_Same a872.Heap a873.Heap).bind fun x883 =>
  crew_Same_j9 a872 a873 (!x883)
noncomputable def crew_Same_j7 (a872:api_World) (a873:api_World) (b884:Bool):Option Bool :=
 if b884=true then
  crew_Same_j8 a872 a873 true
 else
  (lodge_Same a872.Ten a873.Ten).bind fun x885 =>
  crew_Same_j8 a872 a873 (!x885)
noncomputable def crew_Same_j6 (a872:api_World) (a873:api_World) (b886:Bool):Option Bool :=
 if b886=true then
  some false
 else
  (slices_Equal_api_Task_api_Task a872.T a873.T).bind fun x887 =>
  if (!x887)=true then
   some false
  else
   (cell_Same a872.Mem a873.Mem).bind fun x888 =>
   if (!x888)=true then
    crew_Same_j7 a872 a873 true
   else
    (chain_Same a872.Lists a873.Lists).bind fun x889 =>
    crew_Same_j7 a872 a873 (!x889)
noncomputable def crew_Same (a872:api_World) (a873:api_World):Option Bool :=
 if (((a872.Now != a873.Now)||(!(a872.Down==a873.Down)))||(!(dice_Same a872.Dice a873.Dice)))=true then
  crew_Same_j6 a872 a873 true
 else
  (slot_Same a872.Ids a873.Ids).bind fun x890 =>
  crew_Same_j6 a872 a873 (!x890)
noncomputable def w20_CrewTells_j1 (a891:api_Config) (a892:api_World) (a893:api_World) (x894:Bool) (b895:Bool):Option Bool :=
 if b895=true then
  some x894
 else
  (r20_Few a893).bind fun x896 =>
  if (!x896)=true then
   some x894
  else
   (crew_Start a891).bind fun(x897,x898) =>
   (r20_Start a891).bind fun(x899,x900) =>
   if x894=true then
    (r20_Same x897 x899).bind fun x901 =>
    if x901=true then
     if (x898==x900)=true then
      (crew_Check a891 a892).bind fun x902 =>
      (r20_Check a891 a892).bind fun x903 =>
      if (x902==x903)=true then
       (crew_Same a892 a893).bind fun x904 =>
       (r20_Same a892 a893).bind fun x905 =>
       some (x904==x905)
      else
       some false
     else
      some false
    else
     some false
   else
    some false
noncomputable def w20_CrewTells (a891:api_Config) (a892:api_World) (a893:api_World):Option Bool :=
 (w20_live).bind fun x894 =>
 (r19_FewConfig a891).bind fun x906 =>
 if (!x906)=true then
  w20_CrewTells_j1 a891 a892 a893 x894 true
 else
  (r20_Few a892).bind fun x907 =>
  w20_CrewTells_j1 a891 a892 a893 x894 (!x907)
end Go.Proofs.YtmlcinmdkhmjhaaGreat
