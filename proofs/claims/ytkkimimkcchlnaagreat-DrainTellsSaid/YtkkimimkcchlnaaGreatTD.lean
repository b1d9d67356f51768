/- Helper lemmas for the claim's theorem: an abstract machine over the model, proved sound; no condition beyond each lemma's own. -/
import Derived.Test.YtkkimimkcchlnaaGreatAmL
set_option linter.unusedVariables false
set_option linter.unusedSimpArgs false
set_option linter.unnecessarySimpa false
set_option linter.unusedSectionVars false
namespace Go.Proofs.YtkkimimkcchlnaaGreat
open Go Go.AM
set_option linter.unusedVariables false
@[ext] structure api_Instr where
 Op:Int
 A:Int
 B:Int
 deriving Inhabited
def api_Instr.cells (x:api_Instr):List V:=[I x.Op,I x.A,I x.B]
def api_Instr.zero:api_Instr:=⟨0,0,0⟩
def api_Instr.beq (x y:api_Instr):Bool:=((x.Op==y.Op)&&((x.A==y.A)&&((x.B==y.B)&&true)))
@[ext] structure api_Config where
 Workers:Int
 Cap:Int
 Budget:Int
 Weights:List Int
 Quotas:List Int
 Progs:List (List api_Instr)
 Tasks:Int
 Fds:Int
 Sems:List Int
 deriving Inhabited
def api_Config.cells (x:api_Config):List V:=[I x.Workers,I x.Cap,I x.Budget,V.sl 1 (rws (fun n=>[I n]) x.Weights),V.sl 1 (rws (fun n=>[I n]) x.Quotas),V.sl 1 (rws (fun l=>[V.sl 3 (rws api_Instr.cells l)]) x.Progs),I x.Tasks,I x.Fds,V.sl 1 (rws (fun n=>[I n]) x.Sems)]
def api_Config.zero:api_Config:=⟨0,0,0,[],[],[],0,0,[]⟩
@[ext] structure api_Dice where
 L:List Int
 At:Int
 deriving Inhabited
def api_Dice.cells (x:api_Dice):List V:=[V.sl 1 (rws (fun n=>[V.int .u8 n]) x.L),I x.At]
def api_Dice.zero:api_Dice:=⟨[],0⟩
@[ext] structure api_Places where
 Gen:List Int
 Live:List Bool
 deriving Inhabited
def api_Places.cells (x:api_Places):List V:=[V.sl 1 (rws (fun n=>[I n]) x.Gen),V.sl 1 (rws (fun b=>[V.bool b]) x.Live)]
def api_Places.zero:api_Places:=⟨[],[]⟩
@[ext] structure A4_Int where
 a0:Int
 a1:Int
 a2:Int
 a3:Int
 deriving Inhabited
def A4_Int.cells (x:A4_Int):List V:=[I x.a0,I x.a1,I x.a2,I x.a3]
def A4_Int.zero:A4_Int:=⟨0,0,0,0⟩
def A4_Int.beq (x y:A4_Int):Bool:=((x.a0==y.a0)&&((x.a1==y.a1)&&((x.a2==y.a2)&&((x.a3==y.a3)&&true))))
@[ext] structure api_Task where
 Id:Int
 Tenant:Int
 Prog:Int
 Pc:Int
 Unit:Int
 Keeps:A4_Int
 State:Int
 Ran:Int
 deriving Inhabited
def api_Task.cells (x:api_Task):List V:=[I x.Id,I x.Tenant,I x.Prog,I x.Pc,I x.Unit,I x.Keeps.a0,I x.Keeps.a1,I x.Keeps.a2,I x.Keeps.a3,I x.State,I x.Ran]
def api_Task.zero:api_Task:=⟨0,0,0,0,0,⟨0,0,0,0⟩,0,0⟩
def api_Task.beq (x y:api_Task):Bool:=((x.Id==y.Id)&&((x.Tenant==y.Tenant)&&((x.Prog==y.Prog)&&((x.Pc==y.Pc)&&((x.Unit==y.Unit)&&(((x.Keeps.a0==y.Keeps.a0)&&((x.Keeps.a1==y.Keeps.a1)&&((x.Keeps.a2==y.Keeps.a2)&&((x.Keeps.a3==y.Keeps.a3)&&true))))&&((x.State==y.State)&&((x.Ran==y.Ran)&&true))))))))
@[ext] structure api_Chains where
 Next:List Int
 Head:List Int
 Tail:List Int
 deriving Inhabited
def api_Chains.cells (x:api_Chains):List V:=[V.sl 1 (rws (fun n=>[I n]) x.Next),V.sl 1 (rws (fun n=>[I n]) x.Head),V.sl 1 (rws (fun n=>[I n]) x.Tail)]
def api_Chains.zero:api_Chains:=⟨[],[],[]⟩
@[ext] structure api_Tenant where
 Weight:Int
 Quota:Int
 Live:Int
 Tag:Int
 Ran:Int
 deriving Inhabited
def api_Tenant.cells (x:api_Tenant):List V:=[I x.Weight,I x.Quota,I x.Live,I x.Tag,I x.Ran]
def api_Tenant.zero:api_Tenant:=⟨0,0,0,0,0⟩
def api_Tenant.beq (x y:api_Tenant):Bool:=((x.Weight==y.Weight)&&((x.Quota==y.Quota)&&((x.Live==y.Live)&&((x.Tag==y.Tag)&&((x.Ran==y.Ran)&&true)))))
@[ext] structure api_Timer where
 At:Int
 Id:Int
 deriving Inhabited
def api_Timer.cells (x:api_Timer):List V:=[I x.At,I x.Id]
def api_Timer.zero:api_Timer:=⟨0,0⟩
def api_Timer.beq (x y:api_Timer):Bool:=((x.At==y.At)&&((x.Id==y.Id)&&true))
@[ext] structure api_Fd where
 Open:Bool
 Ready:Bool
 Who:Int
 deriving Inhabited
def api_Fd.cells (x:api_Fd):List V:=[V.bool x.Open,V.bool x.Ready,I x.Who]
def api_Fd.zero:api_Fd:=⟨false,false,0⟩
def api_Fd.beq (x y:api_Fd):Bool:=((x.Open==y.Open)&&((x.Ready==y.Ready)&&((x.Who==y.Who)&&true)))
@[ext] structure api_Sem where
 Free:Int
 Wait:List Int
 deriving Inhabited
def api_Sem.cells (x:api_Sem):List V:=[I x.Free,V.sl 1 (rws (fun n=>[I n]) x.Wait)]
def api_Sem.zero:api_Sem:=⟨0,[]⟩
@[ext] structure api_Join where
 On:Int
 Who:Int
 deriving Inhabited
def api_Join.cells (x:api_Join):List V:=[I x.On,I x.Who]
def api_Join.zero:api_Join:=⟨0,0⟩
def api_Join.beq (x y:api_Join):Bool:=((x.On==y.On)&&((x.Who==y.Who)&&true))
@[ext] structure api_Idle where
 Is:List Int
 Stack:List Int
 deriving Inhabited
def api_Idle.cells (x:api_Idle):List V:=[V.sl 1 (rws (fun n=>[I n]) x.Is),V.sl 1 (rws (fun n=>[I n]) x.Stack)]
def api_Idle.zero:api_Idle:=⟨[],[]⟩
@[ext] structure api_Hand where
 Kind:Int
 Pc:Int
 V:Int
 T:Int
 B:Int
 Won:Bool
 State:Int
 deriving Inhabited
def api_Hand.cells (x:api_Hand):List Go.AM.V:=[Go.AM.I x.Kind,Go.AM.I x.Pc,Go.AM.I x.V,Go.AM.I x.T,Go.AM.I x.B,Go.AM.V.bool x.Won,Go.AM.I x.State]
def api_Hand.zero:api_Hand:=⟨0,0,0,0,0,false,0⟩
def api_Hand.beq (x y:api_Hand):Bool:=((x.Kind==y.Kind)&&((x.Pc==y.Pc)&&((x.V==y.V)&&((x.T==y.T)&&((x.B==y.B)&&((x.Won==y.Won)&&((x.State==y.State)&&true)))))))
@[ext] structure api_Worker where
 Do:Int
 Hand:api_Hand
 At:Int
 Ask:List Int
 Task:Int
 Left:Int
 Kid:Int
 Spill:Int
 deriving Inhabited
def api_Worker.cells (x:api_Worker):List V:=[I x.Do,I x.Hand.Kind,I x.Hand.Pc,I x.Hand.V,I x.Hand.T,I x.Hand.B,V.bool x.Hand.Won,I x.Hand.State,I x.At,V.sl 1 (rws (fun n=>[I n]) x.Ask),I x.Task,I x.Left,I x.Kid,I x.Spill]
def api_Worker.zero:api_Worker:=⟨0,⟨0,0,0,0,0,false,0⟩,0,[],0,0,0,0⟩
@[ext] structure api_Event where
 Kind:Int
 Id:Int
 A:Int
 deriving Inhabited
def api_Event.cells (x:api_Event):List V:=[I x.Kind,I x.Id,I x.A]
def api_Event.zero:api_Event:=⟨0,0,0⟩
def api_Event.beq (x y:api_Event):Bool:=((x.Kind==y.Kind)&&((x.Id==y.Id)&&((x.A==y.A)&&true)))
@[ext] structure api_World where
 Now:Int
 Dice:api_Dice
 Ids:api_Places
 T:List api_Task
 Mem:List Int
 Lists:api_Chains
 Ten:List api_Tenant
 Heap:List api_Timer
 Fds:List api_Fd
 Sems:List api_Sem
 Joins:List api_Join
 Idle:api_Idle
 W:List api_Worker
 Down:Bool
 Seen:List api_Event
 deriving Inhabited
def api_World.cells (x:api_World):List V:=[I x.Now,V.sl 1 (rws (fun n=>[V.int .u8 n]) x.Dice.L),I x.Dice.At,V.sl 1 (rws (fun n=>[I n]) x.Ids.Gen),V.sl 1 (rws (fun b=>[V.bool b]) x.Ids.Live),V.sl 11 (rws api_Task.cells x.T),V.sl 1 (rws (fun n=>[I n]) x.Mem),V.sl 1 (rws (fun n=>[I n]) x.Lists.Next),V.sl 1 (rws (fun n=>[I n]) x.Lists.Head),V.sl 1 (rws (fun n=>[I n]) x.Lists.Tail),V.sl 5 (rws api_Tenant.cells x.Ten),V.sl 2 (rws api_Timer.cells x.Heap),V.sl 3 (rws api_Fd.cells x.Fds),V.sl 2 (rws api_Sem.cells x.Sems),V.sl 2 (rws api_Join.cells x.Joins),V.sl 1 (rws (fun n=>[I n]) x.Idle.Is),V.sl 1 (rws (fun n=>[I n]) x.Idle.Stack),V.sl 14 (rws api_Worker.cells x.W),V.bool x.Down,V.sl 3 (rws api_Event.cells x.Seen)]
def api_World.zero:api_World:=⟨0,⟨[],0⟩,⟨[],[]⟩,[],[],⟨[],[],[]⟩,[],[],[],[],[],⟨[],[]⟩,[],false,[]⟩
def code_within (a0:Int) (a1:Int):Bool :=
 ((decide (a0≥0))&&(decide (a0 < a1)))
def code_odd_j2 (v2:Bool) (v3:Bool):Bool :=
 ((!v2)||(!v3))
def code_odd_j4 (a4:api_Instr) (v5:Bool):Bool :=
 if v5=true then
  code_odd_j2 (code_within a4.A 8) (a4.B==0)
 else
  true
def code_odd_j3 (a4:api_Instr) (v6:Bool):Bool :=
 if v6=true then
  code_odd_j2 (a4.A==0) (a4.B==0)
 else
  if (a4.Op==4)=true then
   code_odd_j2 (code_within (IntKind.i64.wrap (a4.A - 1)) 1000) (a4.B==0)
  else
   if (a4.Op==5)=true then
    code_odd_j2 (code_within a4.A 16) (a4.B==0)
   else
    if (a4.Op==6)=true then
     code_odd_j2 (code_within a4.A 4) (a4.B==0)
    else
     if (a4.Op==7)=true then
      code_odd_j4 a4 (a4.Op==7)
     else
      code_odd_j4 a4 (a4.Op==8)
def code_odd (a4:api_Instr):Bool :=
 if (a4.Op==1)=true then
  code_odd_j2 (code_within (IntKind.i64.wrap (a4.A - 1)) 100) (a4.B==0)
 else
  if (a4.Op==2)=true then
   code_odd_j2 (code_within a4.A 16) (code_within a4.B 4)
  else
   if (a4.Op==3)=true then
    code_odd_j3 a4 (a4.Op==3)
   else
    code_odd_j3 a4 (a4.Op==9)
noncomputable def slices_IndexFunc_api_Instr_api_Instr_odd103_s1 (a7:List api_Instr):(Int)→Option ((Int) ⊕ (Int))
 | v8 =>
  if (decide (v8 < (a7.length:Int)))=true then
   if 0≤v8∧v8 < (a7.length:Int) then
    if (code_odd (gt a7 v8))=true then
     inrO (
      some v8)
    else
     nextO (IntKind.i64.wrap (v8+1))
   else none
  else
   inrO (
    some (-1))
noncomputable def slices_IndexFunc_api_Instr_api_Instr_odd103 (a7:List api_Instr):Option Int :=
 whileO (slices_IndexFunc_api_Instr_api_Instr_odd103_s1 a7) 0
noncomputable def slices_ContainsFunc_api_Instr_api_Instr_odd103 (a9:List api_Instr):Option Bool :=
 (slices_IndexFunc_api_Instr_api_Instr_odd103 a9).bind fun x10 =>
 some (decide (x10≥0))
noncomputable def code_Check (a11:List api_Instr):Option Int :=
 if ((decide ((a11.length:Int) < 1))||(decide ((a11.length:Int) > 32)))=true then
  some 1
 else
  (slices_ContainsFunc_api_Instr_api_Instr_odd103 a11).bind fun x12 =>
  if x12=true then
   some 1
  else
   some 0
noncomputable def code_CheckAll_j13 (v13:Int) (v14:Int):Option ((Int) ⊕ (Int)) :=
 if (decide (v14≥0))=true then
  inrO (
   some 1)
 else
  nextO (IntKind.i64.wrap (v13+1))
noncomputable def code_CheckAll_s14 (a15:List (List api_Instr)) (v13:Int):(Int)→Option ((Int) ⊕ ((Int) ⊕ (Int)))
 | v16 =>
  if (decide (v16 < ((gt a15 v13).length:Int)))=true then
   if 0≤v16∧v16 < ((gt a15 v13).length:Int) then
    if ((((gt (gt a15 v13) v16).Op)==2)&&(decide (((gt (gt a15 v13) v16).A)≥(a15.length:Int))))=true then
     inrO (
      code_CheckAll_j13 v13 v16)
    else
     nextO (IntKind.i64.wrap (v16+1))
   else none
  else
   inrO (
    code_CheckAll_j13 v13 (-1))
noncomputable def code_CheckAll_s9 (a15:List (List api_Instr)):(Int)→Option ((Int) ⊕ (Int))
 | v13 =>
  if (decide (v13 < (a15.length:Int)))=true then
   if 0≤v13∧v13 < (a15.length:Int) then
    (code_Check (gt a15 v13)).bind fun x17 =>
    if (x17 != 0)=true then
     inrO (
      some 1)
    else
     whileO (code_CheckAll_s14 a15 v13) 0
   else none
  else
   inrO (
    some 0)
noncomputable def code_CheckAll (a15:List (List api_Instr)):Option Int :=
 if ((decide ((a15.length:Int) < 1))||(decide ((a15.length:Int) > 16)))=true then
  some 1
 else
  whileO (code_CheckAll_s9 a15) 0
def code_reached_1 (a18:api_Instr):Bool :=
 (a18.Op==9)
noncomputable def slices_IndexFunc_api_Instr_api_Instr_1102_s1 (a19:List api_Instr):(Int)→Option ((Int) ⊕ (Int))
 | v20 =>
  if (decide (v20 < (a19.length:Int)))=true then
   if 0≤v20∧v20 < (a19.length:Int) then
    if (code_reached_1 (gt a19 v20))=true then
     inrO (
      some v20)
    else
     nextO (IntKind.i64.wrap (v20+1))
   else none
  else
   inrO (
    some (-1))
noncomputable def slices_IndexFunc_api_Instr_api_Instr_1102 (a19:List api_Instr):Option Int :=
 whileO (slices_IndexFunc_api_Instr_api_Instr_1102_s1 a19) 0
noncomputable def code_reached (a21:List api_Instr):Option (List api_Instr) :=
 (slices_IndexFunc_api_Instr_api_Instr_1102 a21).bind fun x22 =>
 if (decide (x22≥0))=true then
  if 0≤(IntKind.i64.wrap (x22+1))∧(IntKind.i64.wrap (x22+1))≤(a21.length:Int) then
   some (sub a21 0 (IntKind.i64.wrap (x22+1)))
  else none
 else
  some a21
noncomputable def code_Tasks_1_b_s2 (a23:Int) (l24:List (List api_Instr)) (r25:Int→(List (List api_Instr))→(List (Int×Int))→(List (Int×Bool))→Option (Int×Int×(List (Int×Int))×(List (Int×Bool)))) (x26:List api_Instr):(Int×Int×(List (Int×Int))×(List (Int×Bool)))→Option ((Int×Int×(List (Int×Int))×(List (Int×Bool))) ⊕ (Int×Int×(List (Int×Int))×(List (Int×Bool))))
 | (v27,v28,v29,v30) =>
  if (decide (v28 < (x26.length:Int)))=true then
   if 0≤v28∧v28 < (x26.length:Int) then
    if (((gt x26 v28).Op) != 2)=true then
     nextO (v27,IntKind.i64.wrap (v28+1),v29,v30)
    else
     (r25 ((gt x26 v28).A) l24 v29 v30).bind fun(x31,x32,m33,m34) =>
     if (x32 != 0)=true then
      inrO (
       some (0,x32,m33,m34))
     else
      nextO ((if 1099511627777 < (IntKind.i64.wrap (v27+x31)) then 1099511627777 else IntKind.i64.wrap (v27+x31)),IntKind.i64.wrap (v28+1),m33,m34)
   else none
  else
   inrO (
    some (v27,0,mput v29 a23 v27,mdel v30 a23))
noncomputable def code_Tasks_1_b (r25:Int→(List (List api_Instr))→(List (Int×Int))→(List (Int×Bool))→Option (Int×Int×(List (Int×Int))×(List (Int×Bool)))) (a23:Int) (l24:List (List api_Instr)) (m35:List (Int×Int)) (m36:List (Int×Bool)):Option (Int×Int×(List (Int×Int))×(List (Int×Bool))) :=
 if ((mget m36 a23).getD false)=true then
  some (0,9,m35,m36)
 else
  if ((mget m35 a23).isSome)=true then
   some (((mget m35 a23).getD 0),0,m35,m36)
  else
   if 0≤a23∧a23 < (l24.length:Int) then
    (code_reached (gt l24 a23)).bind fun x26 =>
    whileO (code_Tasks_1_b_s2 a23 l24 r25 x26) (1,0,m35,mput m36 a23 true)
   else none
noncomputable def code_Tasks_1:Nat→Int→(List (List api_Instr))→(List (Int×Int))→(List (Int×Bool))→Option (Int×Int×(List (Int×Int))×(List (Int×Bool)))
 | 0=>fun _ _ _ _=>none
 | n+1=>code_Tasks_1_b (code_Tasks_1 n)
noncomputable def code_Tasks (a37:List (List api_Instr)) (a38:Int):Option (Int×Int) :=
 (code_CheckAll a37).bind fun x39 =>
 if ((x39 != 0)||(!(code_within a38 (a37.length:Int))))=true then
  some (0,1)
 else
  (code_Tasks_1 1000 a38 a37 [] []).bind fun(x40,x41,m42,m43) =>
  if (x41 != 0)=true then
   some (0,x41)
  else
   if (decide (x40 > 1099511627776))=true then
    some (0,4)
   else
    some (x40,0)
noncomputable def code_Units_s1 (x44:List api_Instr):(Int×Int)→Option ((Int×Int) ⊕ (Int×Int))
 | (v45,v46) =>
  if (decide (v46 < (x44.length:Int)))=true then
   if 0≤v46∧v46 < (x44.length:Int) then
    if (((gt x44 v46).Op)==1)=true then
     nextO (IntKind.i64.wrap ((IntKind.i64.wrap (v45+(IntKind.i64.wrap (((gt x44 v46).A) - 1))))+1),IntKind.i64.wrap (v46+1))
    else
     nextO (IntKind.i64.wrap (v45+1),IntKind.i64.wrap (v46+1))
   else none
  else
   inrO (
    some (v45,0))
noncomputable def code_Units (a47:List api_Instr):Option (Int×Int) :=
 (code_Check a47).bind fun x48 =>
 if (x48 != 0)=true then
  some (0,x48)
 else
  (code_reached a47).bind fun x44 =>
  whileO (code_Units_s1 x44) (0,0)
noncomputable def drain_measure_full_b_j2 (a49:Int) (x50:Int) (v51:Int) (v52:List (Int×Int)):Option (Int×(List (Int×Int))) :=
 some ((if 1099511627777 < (IntKind.i64.wrap ((IntKind.i64.wrap (x50+1))+v51)) then 1099511627777 else IntKind.i64.wrap ((IntKind.i64.wrap (x50+1))+v51)),mput v52 a49 (if 1099511627777 < (IntKind.i64.wrap ((IntKind.i64.wrap (x50+1))+v51)) then 1099511627777 else IntKind.i64.wrap ((IntKind.i64.wrap (x50+1))+v51)))
noncomputable def drain_measure_full_b_s3 (a53:List (List api_Instr)) (a49:Int) (r54:(List (List api_Instr))→Int→(List (Int×Int))→Option (Int×(List (Int×Int)))) (x50:Int):(Int×Int×(List (Int×Int)))→Option ((Int×Int×(List (Int×Int))) ⊕ (Int×(List (Int×Int))))
 | (v55,v56,v57) =>
  if (decide (v56 < ((gt a53 a49).length:Int)))=true then
   if 0≤v56∧v56 < ((gt a53 a49).length:Int) then
    if (((gt (gt a53 a49) v56).Op)==9)=true then
     inrO (
      drain_measure_full_b_j2 a49 x50 v55 v57)
    else
     if (((gt (gt a53 a49) v56).Op)==2)=true then
      (r54 a53 ((gt (gt a53 a49) v56).A) v57).bind fun(x58,m59) =>
      nextO ((if 1099511627777 < (IntKind.i64.wrap (v55+x58)) then 1099511627777 else IntKind.i64.wrap (v55+x58)),IntKind.i64.wrap (v56+1),m59)
     else
      nextO (v55,IntKind.i64.wrap (v56+1),v57)
   else none
  else
   inrO (
    drain_measure_full_b_j2 a49 x50 v55 v57)
noncomputable def drain_measure_full_b (r54:(List (List api_Instr))→Int→(List (Int×Int))→Option (Int×(List (Int×Int)))) (a53:List (List api_Instr)) (a49:Int) (m60:List (Int×Int)):Option (Int×(List (Int×Int))) :=
 if ((mget m60 a49).isSome)=true then
  some (((mget m60 a49).getD 0),m60)
 else
  if 0≤a49∧a49 < (a53.length:Int) then
   (code_Units (gt a53 a49)).bind fun(x50,x61) =>
   if (x61 != 0)=true then
    some (1099511627777,m60)
   else
    if 0≤a49∧a49 < (a53.length:Int) then
     whileO (drain_measure_full_b_s3 a53 a49 r54 x50) (0,0,m60)
    else none
  else none
noncomputable def drain_measure_full:Nat→(List (List api_Instr))→Int→(List (Int×Int))→Option (Int×(List (Int×Int)))
 | 0=>fun _ _ _=>none
 | n+1=>drain_measure_full_b (drain_measure_full n)
noncomputable def drain_Full_j1 (a62:List (List api_Instr)) (a63:Int) (v64:Int) (v65:List (Int×Int)):Option (Int×Int) :=
 if (v64 != 0)=true then
  some (0,v64)
 else
  (drain_measure_full 1000 a62 a63 v65).bind fun(x66,m67) =>
  some (x66,0)
noncomputable def drain_Full (a62:List (List api_Instr)) (a63:Int):Option (Int×Int) :=
 (code_Tasks a62 a63).bind fun(x68,x69) =>
 if (x69 != 0)=true then
  drain_Full_j1 a62 a63 x69 []
 else
  (drain_measure_full 1000 a62 a63 []).bind fun(x70,m71) =>
  if (decide (x70 > 1099511627776))=true then
   drain_Full_j1 a62 a63 4 m71
  else
   drain_Full_j1 a62 a63 0 m71
def life_Waits (a72:Int):Bool :=
 ((decide (a72≥3))&&(decide (a72≤6)))
noncomputable def drain_Rest_s1 (a73:api_World):(Int)→Option ((Int) ⊕ (Bool))
 | v74 =>
  if (decide (v74 < (a73.Ids.Live.length:Int)))=true then
   if 0≤v74∧v74 < (a73.Ids.Live.length:Int) then
    if (gt a73.Ids.Live v74)=true then
     if (decide (v74≥(a73.T.length:Int)))=true then
      inrO (
       some false)
     else
      if 0≤v74∧v74 < (a73.T.length:Int) then
       if (!(life_Waits ((gt a73.T v74).State)))=true then
        inrO (
         some false)
       else
        nextO (IntKind.i64.wrap (v74+1))
      else none
    else
     nextO (IntKind.i64.wrap (v74+1))
   else none
  else
   inrO (
    some true)
noncomputable def drain_Rest (a73:api_World):Option Bool :=
 whileO (drain_Rest_s1 a73) 0
noncomputable def w24_live :Option Bool :=
 (drain_Full [[(api_Instr.mk 9 0 0)]] 0).bind fun(x75,x76) =>
 if ((x76==0)&&(x75==2))=true then
  (drain_Rest api_World.zero).bind fun x77 =>
  some x77
 else
  some false
noncomputable def r04_Few_s1 (a78:List (List api_Instr)):(Int)→Option ((Int) ⊕ (Bool))
 | v79 =>
  if (decide (v79 < (a78.length:Int)))=true then
   if 0≤v79∧v79 < (a78.length:Int) then
    if (decide (((gt a78 v79).length:Int) > 100))=true then
     inrO (
      some false)
    else
     nextO (IntKind.i64.wrap (v79+1))
   else none
  else
   inrO (
    some (decide ((a78.length:Int)≤100)))
noncomputable def r04_Few (a78:List (List api_Instr)):Option Bool :=
 whileO (r04_Few_s1 a78) 0
noncomputable def r19_FewConfig (a80:api_Config):Option Bool :=
 (r04_Few a80.Progs).bind fun x81 =>
 some (((x81&&(decide ((a80.Weights.length:Int)≤100)))&&(decide ((a80.Quotas.length:Int)≤100)))&&(decide ((a80.Sems.length:Int)≤100)))
noncomputable def r20_Few_s4 (a82:api_World):(Int)→Option ((Int) ⊕ (Bool))
 | v83 =>
  if (decide (v83 < (a82.W.length:Int)))=true then
   if 0≤v83∧v83 < (a82.W.length:Int) then
    if (decide ((((gt a82.W v83).Ask).length:Int) > 100))=true then
     inrO (
      some false)
    else
     nextO (IntKind.i64.wrap (v83+1))
   else none
  else
   inrO (
    some ((((((((((((((((decide ((a82.Dice.L.length:Int)≤2000))&&(decide ((a82.T.length:Int)≤60)))&&(decide ((a82.Mem.length:Int)≤400)))&&(decide ((a82.Lists.Next.length:Int)≤100)))&&(decide ((a82.Lists.Head.length:Int)≤100)))&&(decide ((a82.Ten.length:Int)≤40)))&&(decide ((a82.Heap.length:Int)≤100)))&&(decide ((a82.Fds.length:Int)≤40)))&&(decide ((a82.Sems.length:Int)≤20)))&&(decide ((a82.Joins.length:Int)≤100)))&&(decide ((a82.W.length:Int)≤20)))&&(decide ((a82.Idle.Is.length:Int)≤70)))&&(decide ((a82.Idle.Stack.length:Int)≤70)))&&(decide ((a82.Seen.length:Int)≤2000)))&&(decide ((a82.Ids.Gen.length:Int)≤300)))&&(decide ((a82.Ids.Live.length:Int)≤300))))
noncomputable def r20_Few_s2 (a82:api_World):(Int)→Option ((Int) ⊕ (Bool))
 | v84 =>
  if (decide (v84 < (a82.Sems.length:Int)))=true then
   if 0≤v84∧v84 < (a82.Sems.length:Int) then
    if (decide ((((gt a82.Sems v84).Wait).length:Int) > 300))=true then
     inrO (
      some false)
    else
     nextO (IntKind.i64.wrap (v84+1))
   else none
  else
   inrO (
    whileO (r20_Few_s4 a82) 0)
noncomputable def r20_Few (a82:api_World):Option Bool :=
 whileO (r20_Few_s2 a82) 0
def r04_in (a85:Int) (a86:Int) (a87:Int):Bool :=
 ((decide (a85≥a86))&&(decide (a85≤a87)))
def r04_may (a88:api_Instr):Bool :=
 if (a88.Op==1)=true then
  ((r04_in a88.A 1 100)&&(a88.B==0))
 else
  if (a88.Op==2)=true then
   ((r04_in a88.A 0 15)&&(r04_in a88.B 0 3))
  else
   if ((a88.Op==3)||(a88.Op==9))=true then
    ((a88.A==0)&&(a88.B==0))
   else
    if (a88.Op==4)=true then
     ((r04_in a88.A 1 1000)&&(a88.B==0))
    else
     if (a88.Op==5)=true then
      ((r04_in a88.A 0 15)&&(a88.B==0))
     else
      if (a88.Op==6)=true then
       ((r04_in a88.A 0 3)&&(a88.B==0))
      else
       ((((a88.Op==7)||(a88.Op==8))&&(r04_in a88.A 0 7))&&(a88.B==0))
noncomputable def r04_Check_s1 (a89:List api_Instr):(Int)→Option ((Int) ⊕ (Int))
 | v90 =>
  if (decide (v90 < (a89.length:Int)))=true then
   if 0≤v90∧v90 < (a89.length:Int) then
    if (!(r04_may (gt a89 v90)))=true then
     inrO (
      some 1)
    else
     nextO (IntKind.i64.wrap (v90+1))
   else none
  else
   inrO (
    some 0)
noncomputable def r04_Check (a89:List api_Instr):Option Int :=
 if ((decide ((a89.length:Int) < 1))||(decide ((a89.length:Int) > 32)))=true then
  some 1
 else
  whileO (r04_Check_s1 a89) 0
noncomputable def r04_CheckAll_s4 (a91:List (List api_Instr)) (v92:Int):(Int)→Option ((Int) ⊕ ((Int) ⊕ (Int)))
 | v93 =>
  if (decide (v93 < ((gt a91 v92).length:Int)))=true then
   if 0≤v93∧v93 < ((gt a91 v92).length:Int) then
    if ((((gt (gt a91 v92) v93).Op)==2)&&(decide (((gt (gt a91 v92) v93).A)≥(a91.length:Int))))=true then
     inrO (
      inrO (
       some 1))
    else
     nextO (IntKind.i64.wrap (v93+1))
   else none
  else
   inrO (
    nextO (IntKind.i64.wrap (v92+1)))
noncomputable def r04_CheckAll_s3 (a91:List (List api_Instr)):(Int)→Option ((Int) ⊕ (Int))
 | v92 =>
  if (decide (v92 < (a91.length:Int)))=true then
   if 0≤v92∧v92 < (a91.length:Int) then
    (r04_Check (gt a91 v92)).bind fun x94 =>
    if (x94 != 0)=true then
     inrO (
      some 1)
    else
     whileO (r04_CheckAll_s4 a91 v92) 0
   else none
  else
   inrO (
    some 0)
noncomputable def r04_CheckAll (a91:List (List api_Instr)):Option Int :=
 if ((decide ((a91.length:Int) < 1))||(decide ((a91.length:Int) > 16)))=true then
  some 1
 else
  whileO (r04_CheckAll_s3 a91) 0
noncomputable def r04_Run_s1 (a95:List api_Instr):(Int)→Option ((Int) ⊕ (List api_Instr))
 | v96 =>
  if (decide (v96 < (a95.length:Int)))=true then
   if 0≤v96∧v96 < (a95.length:Int) then
    if (((gt a95 v96).Op)==9)=true then
     if 0≤(IntKind.i64.wrap (v96+1))∧(IntKind.i64.wrap (v96+1))≤(a95.length:Int) then
      inrO (
       some (sub a95 0 (IntKind.i64.wrap (v96+1))))
     else none
    else
     nextO (IntKind.i64.wrap (v96+1))
   else none
  else
   inrO (
    some a95)
noncomputable def r04_Run (a95:List api_Instr):Option (List api_Instr) :=
 whileO (r04_Run_s1 a95) 0
noncomputable def r04_table_s24 (v97:List Int) (v98:Int) (x99:List api_Instr):(Int×Int)→Option ((Int×Int) ⊕ (((List Int)×Int) ⊕ (((List Int)×Int) ⊕ (List Int))))
 | (v100,v101) =>
  if (decide (v101 < (x99.length:Int)))=true then
   if 0≤v101∧v101 < (x99.length:Int) then
    if ((((gt x99 v101).Op)==2)&&(decide (v100 > 0)))=true then
     if 0≤((gt x99 v101).A)∧((gt x99 v101).A) < (v97.length:Int) then
      if ((gt v97 ((gt x99 v101).A))==0)=true then
       nextO (0,IntKind.i64.wrap (v101+1))
      else
       if 0≤((gt x99 v101).A)∧((gt x99 v101).A) < (v97.length:Int) then
        nextO ((if 2199023255552 < (IntKind.i64.wrap (v100+(gt v97 ((gt x99 v101).A)))) then 2199023255552 else IntKind.i64.wrap (v100+(gt v97 ((gt x99 v101).A)))),IntKind.i64.wrap (v101+1))
       else none
     else none
    else
     nextO (v100,IntKind.i64.wrap (v101+1))
   else none
  else
   inrO (
    if 0≤v98∧v98 < (v97.length:Int) then
     nextO (st v97 v98 v100,IntKind.i64.wrap (v98+1))
    else none)
noncomputable def r04_table_s22 (a102:List (List api_Instr)) (v103:Int):((List Int)×Int)→Option (((List Int)×Int) ⊕ (((List Int)×Int) ⊕ (List Int)))
 | (v97,v98) =>
  if (decide (v98 < (a102.length:Int)))=true then
   if 0≤v98∧v98 < (a102.length:Int) then
    (r04_Run (gt a102 v98)).bind fun x99 =>
    whileO (r04_table_s24 v97 v98 x99) (1,0)
   else none
  else
   inrO (
    nextO (v97,IntKind.i64.wrap (v103+1)))
noncomputable def r04_table_s17 (a102:List (List api_Instr)):((List Int)×Int)→Option (((List Int)×Int) ⊕ (List Int))
 | (v104,v103) =>
  if (decide (v103 < (a102.length:Int)))=true then
   whileO (r04_table_s22 a102 v103) (v104,0)
  else
   inrO (
    some v104)
noncomputable def r04_table_s2 (a102:List (List api_Instr)):((List Int)×Int)→Option (((List Int)×Int) ⊕ (List Int))
 | (v105,v106) =>
  if (decide (v106 < (a102.length:Int)))=true then
   if few (v105++[0]).length then
    nextO (v105++[0],IntKind.i64.wrap (v106+1))
   else none
  else
   inrO (
    whileO (r04_table_s17 a102) (v105,0))
noncomputable def r04_table (a102:List (List api_Instr)):Option (List Int) :=
 whileO (r04_table_s2 a102) ([],0)
noncomputable def r04_Tasks (a107:List (List api_Instr)) (a108:Int):Option (Int×Int) :=
 (r04_CheckAll a107).bind fun x109 =>
 if (((x109 != 0)||(decide (a108 < 0)))||(decide (a108≥(a107.length:Int))))=true then
  some (0,1)
 else
  (r04_table a107).bind fun x110 =>
  if 0≤a108∧a108 < (x110.length:Int) then
   if ((gt x110 a108)==0)=true then
    some (0,9)
   else
    if (decide ((gt x110 a108) > 1099511627776))=true then
     some (0,4)
    else
     some ((gt x110 a108),0)
  else none
noncomputable def r04_Units_s1 (x111:List api_Instr):(Int×Int)→Option ((Int×Int) ⊕ (Int×Int))
 | (v112,v113) =>
  if (decide (v113 < (x111.length:Int)))=true then
   if 0≤v113∧v113 < (x111.length:Int) then
    if (((gt x111 v113).Op)==1)=true then
     nextO (IntKind.i64.wrap (v112+((gt x111 v113).A)),IntKind.i64.wrap (v113+1))
    else
     nextO (IntKind.i64.wrap (v112+1),IntKind.i64.wrap (v113+1))
   else none
  else
   inrO (
    some (v112,0))
noncomputable def r04_Units (a114:List api_Instr):Option (Int×Int) :=
 (r04_Check a114).bind fun x115 =>
 if (x115 != 0)=true then
  some (0,1)
 else
  (r04_Run a114).bind fun x111 =>
  whileO (r04_Units_s1 x111) (0,0)
noncomputable def r24_sum_s1 (a116:List Int) (x117:List api_Instr):(Int×Int)→Option ((Int×Int) ⊕ (Int))
 | (v118,v119) =>
  if (decide (v119 < (x117.length:Int)))=true then
   if 0≤v119∧v119 < (x117.length:Int) then
    if (((gt x117 v119).Op)==2)=true then
     if 0≤((gt x117 v119).A)∧((gt x117 v119).A) < (a116.length:Int) then
      if ((gt a116 ((gt x117 v119).A))==0)=true then
       inrO (
        some 0)
      else
       if 0≤((gt x117 v119).A)∧((gt x117 v119).A) < (a116.length:Int) then
        nextO ((if 2199023255552 < (IntKind.i64.wrap (v118+(gt a116 ((gt x117 v119).A)))) then 2199023255552 else IntKind.i64.wrap (v118+(gt a116 ((gt x117 v119).A)))),IntKind.i64.wrap (v119+1))
       else none
     else none
    else
     nextO (v118,IntKind.i64.wrap (v119+1))
   else none
  else
   inrO (
    some v118)
noncomputable def r24_sum (a120:List (List api_Instr)) (a116:List Int) (a121:List api_Instr):Option Int :=
 (r04_Units a121).bind fun(x122,x123) =>
 if (x123 != 0)=true then
  some 0
 else
  (r04_Run a121).bind fun x117 =>
  whileO (r24_sum_s1 a116 x117) (IntKind.i64.wrap (x122+1),0)
noncomputable def r24_table_s4 (a124:List (List api_Instr)) (v125:Int):((List Int)×Int)→Option (((List Int)×Int) ⊕ (((List Int)×Int) ⊕ (List Int)))
 | (v126,v127) =>
  if (decide (v127 < (a124.length:Int)))=true then
   if 0≤v127∧v127 < (a124.length:Int) then
    (r24_sum a124 v126 (gt a124 v127)).bind fun x128 =>
    if 0≤v127∧v127 < (v126.length:Int) then
     nextO (st v126 v127 x128,IntKind.i64.wrap (v127+1))
    else none
   else none
  else
   inrO (
    nextO (v126,IntKind.i64.wrap (v125+1)))
noncomputable def r24_table_s3 (a124:List (List api_Instr)):((List Int)×Int)→Option (((List Int)×Int) ⊕ (List Int))
 | (v129,v125) =>
  if (decide (v125 < (a124.length:Int)))=true then
   whileO (r24_table_s4 a124 v125) (v129,0)
  else
   inrO (
    some v129)
noncomputable def r24_table (a124:List (List api_Instr)):Option (List Int) :=
 if 0≤(a124.length:Int)∧(a124.length:Int)≤(a124.length:Int)∧(a124.length:Int)≤549755813888 then
  whileO (r24_table_s3 a124) (List.replicate (Int.toNat (a124.length:Int)) (0:Int),0)
 else none
noncomputable def r24_Full (a130:List (List api_Instr)) (a131:Int):Option (Int×Int) :=
 (r04_Tasks a130 a131).bind fun(x132,x133) =>
 if (x133 != 0)=true then
  some (0,x133)
 else
  (r24_table a130).bind fun x134 =>
  if 0≤a131∧a131 < (x134.length:Int) then
   if (decide ((gt x134 a131) > 1099511627776))=true then
    some (0,4)
   else
    some ((gt x134 a131),0)
  else none
@[ext] structure crew_checker where
 c:api_Config
 w:api_World
 deriving Inhabited
def crew_checker.cells (x:crew_checker):List V:=[I x.c.Workers,I x.c.Cap,I x.c.Budget,V.sl 1 (rws (fun n=>[I n]) x.c.Weights),V.sl 1 (rws (fun n=>[I n]) x.c.Quotas),V.sl 1 (rws (fun l=>[V.sl 3 (rws api_Instr.cells l)]) x.c.Progs),I x.c.Tasks,I x.c.Fds,V.sl 1 (rws (fun n=>[I n]) x.c.Sems),I x.w.Now,V.sl 1 (rws (fun n=>[V.int .u8 n]) x.w.Dice.L),I x.w.Dice.At,V.sl 1 (rws (fun n=>[I n]) x.w.Ids.Gen),V.sl 1 (rws (fun b=>[V.bool b]) x.w.Ids.Live),V.sl 11 (rws api_Task.cells x.w.T),V.sl 1 (rws (fun n=>[I n]) x.w.Mem),V.sl 1 (rws (fun n=>[I n]) x.w.Lists.Next),V.sl 1 (rws (fun n=>[I n]) x.w.Lists.Head),V.sl 1 (rws (fun n=>[I n]) x.w.Lists.Tail),V.sl 5 (rws api_Tenant.cells x.w.Ten),V.sl 2 (rws api_Timer.cells x.w.Heap),V.sl 3 (rws api_Fd.cells x.w.Fds),V.sl 2 (rws api_Sem.cells x.w.Sems),V.sl 2 (rws api_Join.cells x.w.Joins),V.sl 1 (rws (fun n=>[I n]) x.w.Idle.Is),V.sl 1 (rws (fun n=>[I n]) x.w.Idle.Stack),V.sl 14 (rws api_Worker.cells x.w.W),V.bool x.w.Down,V.sl 3 (rws api_Event.cells x.w.Seen)]
def crew_checker.zero:crew_checker:=⟨⟨0,0,0,[],[],[],0,0,[]⟩,⟨0,⟨[],0⟩,⟨[],[]⟩,[],[],⟨[],[],[]⟩,[],[],[],[],[],⟨[],[]⟩,[],false,[]⟩⟩
def entry_within (a135:Int) (a136:Int) (a137:Int):Bool :=
 ((decide (a135≥a136))&&(decide (a135≤a137)))
def lodge_within_int (a138:Int) (a139:Int) (a140:Int):Bool :=
 ((decide (a138≥a139))&&(decide (a138≤a140)))
def lodge_within_int64 (a141:Int) (a142:Int) (a143:Int):Bool :=
 ((decide (a141≥a142))&&(decide (a141≤a143)))
def lodge_odd (a144:api_Tenant):Bool :=
 (((((!(lodge_within_int a144.Weight 1 16))||(!(lodge_within_int a144.Quota 0 256)))||(!(lodge_within_int a144.Live 0 a144.Quota)))||(!(lodge_within_int64 a144.Tag 0 1152921504606846976)))||(!(lodge_within_int64 a144.Ran 0 1099511627776)))
noncomputable def slices_IndexFunc_api_Tenant_api_Tenant_odd114_s1 (a145:List api_Tenant):(Int)→Option ((Int) ⊕ (Int))
 | v146 =>
  if (decide (v146 < (a145.length:Int)))=true then
   if 0≤v146∧v146 < (a145.length:Int) then
    if (lodge_odd (gt a145 v146))=true then
     inrO (
      some v146)
    else
     nextO (IntKind.i64.wrap (v146+1))
   else none
  else
   inrO (
    some (-1))
noncomputable def slices_IndexFunc_api_Tenant_api_Tenant_odd114 (a145:List api_Tenant):Option Int :=
 whileO (slices_IndexFunc_api_Tenant_api_Tenant_odd114_s1 a145) 0
noncomputable def slices_ContainsFunc_api_Tenant_api_Tenant_odd114 (a147:List api_Tenant):Option Bool :=
 (slices_IndexFunc_api_Tenant_api_Tenant_odd114 a147).bind fun x148 =>
 some (decide (x148≥0))
noncomputable def lodge_Check (a149:List api_Tenant):Option Int :=
 if ((decide ((a149.length:Int) < 1))||(decide ((a149.length:Int) > 16)))=true then
  some 1
 else
  (slices_ContainsFunc_api_Tenant_api_Tenant_odd114 a149).bind fun x150 =>
  if x150=true then
   some 1
  else
   some 0
noncomputable def lodge_New_s2 (a151:List Int) (a152:List Int):((List api_Tenant)×Int)→Option (((List api_Tenant)×Int) ⊕ ((List api_Tenant)×Int))
 | (v153,v154) =>
  if (decide (v154 < ((List.replicate (Int.toNat (a151.length:Int)) api_Tenant.zero).length:Int)))=true then
   if 0≤v154∧v154 < (a151.length:Int) then
    if 0≤v154∧v154 < (a152.length:Int) then
     if 0≤v154∧v154 < (v153.length:Int) then
      nextO (st v153 v154 (api_Tenant.mk (gt a151 v154) (gt a152 v154) 0 0 0),IntKind.i64.wrap (v154+1))
     else none
    else none
   else none
  else
   inrO (
    (lodge_Check v153).bind fun x155 =>
    if (x155 != 0)=true then
     some ([],x155)
    else
     some (v153,0))
noncomputable def lodge_New (a151:List Int) (a152:List Int):Option ((List api_Tenant)×Int) :=
 if (((a151.length:Int) != (a152.length:Int))||(decide ((a151.length:Int) > 16)))=true then
  some ([],1)
 else
  if 0≤(a151.length:Int)∧(a151.length:Int)≤(a151.length:Int)∧(a151.length:Int)≤549755813888 then
   whileO (lodge_New_s2 a151 a152) (List.replicate (Int.toNat (a151.length:Int)) api_Tenant.zero,0)
  else none
def sema_New (a156:Int):api_Sem×Int :=
 if ((decide (a156 < 0))||(decide (a156 > 1000)))=true then
  (api_Sem.zero,1)
 else
  ((api_Sem.mk a156 []),0)
def entry_Config_1 (a157:Int):Bool :=
 letO (sema_New a157) fun(x158,x159) =>
 (x159 != 0)
noncomputable def slices_IndexFunc_int_int_1107_s1 (a160:List Int):(Int)→Option ((Int) ⊕ (Int))
 | v161 =>
  if (decide (v161 < (a160.length:Int)))=true then
   if 0≤v161∧v161 < (a160.length:Int) then
    if (entry_Config_1 (gt a160 v161))=true then
     inrO (
      some v161)
    else
     nextO (IntKind.i64.wrap (v161+1))
   else none
  else
   inrO (
    some (-1))
noncomputable def slices_IndexFunc_int_int_1107 (a160:List Int):Option Int :=
 whileO (slices_IndexFunc_int_int_1107_s1 a160) 0
noncomputable def slices_ContainsFunc_int_int_1107 (a162:List Int):Option Bool :=
 (slices_IndexFunc_int_int_1107 a162).bind fun x163 =>
 some (decide (x163≥0))
noncomputable def entry_Config_j196 (v164:Int):Option Int :=
 if (decide (v164≥0))=true then
  some 1
 else
  some 0
noncomputable def entry_Config_j293 (v165:Int) (v166:Int):Option ((Int) ⊕ (Int)) :=
 if (decide (v166≥0))=true then
  inrO (
   entry_Config_j196 v165)
 else
  nextO (IntKind.i64.wrap (v165+1))
noncomputable def entry_Config_j300 (v165:Int) (v167:Int) (v168:Bool):Option ((Int) ⊕ ((Int) ⊕ (Int))) :=
 if v168=true then
  inrO (
   entry_Config_j293 v165 v167)
 else
  nextO (IntKind.i64.wrap (v167+1))
noncomputable def entry_Config_j301 (a169:api_Config) (v165:Int) (v167:Int) (v170:Bool):Option ((Int) ⊕ ((Int) ⊕ (Int))) :=
 if v170=true then
  entry_Config_j300 v165 v167 (decide (((gt (gt a169.Progs v165) v167).A)≥(a169.Sems.length:Int)))
 else
  entry_Config_j300 v165 v167 false
noncomputable def entry_Config_s298 (a169:api_Config) (v165:Int):(Int)→Option ((Int) ⊕ ((Int) ⊕ (Int)))
 | v167 =>
  if (decide (v167 < ((gt a169.Progs v165).length:Int)))=true then
   if 0≤v167∧v167 < ((gt a169.Progs v165).length:Int) then
    if (((gt (gt a169.Progs v165) v167).Op)==5)=true then
     entry_Config_j300 v165 v167 (decide (((gt (gt a169.Progs v165) v167).A)≥a169.Fds))
    else
     if (((gt (gt a169.Progs v165) v167).Op)==7)=true then
      entry_Config_j301 a169 v165 v167 (((gt (gt a169.Progs v165) v167).Op)==7)
     else
      entry_Config_j301 a169 v165 v167 (((gt (gt a169.Progs v165) v167).Op)==8)
   else none
  else
   inrO (
    entry_Config_j293 v165 (-1))
noncomputable def entry_Config_s261 (a169:api_Config):(Int)→Option ((Int) ⊕ (Int))
 | v165 =>
  if (decide (v165 < (a169.Progs.length:Int)))=true then
   if 0≤v165∧v165 < (a169.Progs.length:Int) then
    whileO (entry_Config_s298 a169 v165) 0
   else none
  else
   inrO (
    entry_Config_j196 (-1))
noncomputable def entry_Config (a169:api_Config):Option Int :=
 if (((!(((((entry_within a169.Workers 1 64)&&(entry_within a169.Cap 1 1024))&&(entry_within a169.Budget 1 100))&&(entry_within a169.Tasks 1 256))&&(entry_within a169.Fds 0 16)))||(decide ((IntKind.i64.wrap (a169.Workers*(IntKind.i64.wrap (a169.Cap+2)))) > 65536)))||(decide ((a169.Sems.length:Int) > 8)))=true then
  some 1
 else
  (code_CheckAll a169.Progs).bind fun x171 =>
  if (x171 != 0)=true then
   some 1
  else
   (lodge_New a169.Weights a169.Quotas).bind fun(x172,x173) =>
   if (x173 != 0)=true then
    some 1
   else
    (slices_ContainsFunc_int_int_1107 a169.Sems).bind fun x174 =>
    if x174=true then
     some 1
    else
     whileO (entry_Config_s261 a169) 0
def dice_Check (a175:api_Dice):Int :=
 if ((decide (a175.At < 0))||(decide (a175.At > (a175.L.length:Int))))=true then
  1
 else
  0
noncomputable def slot_Check_j4 (a176:api_Places) (v177:Int) (v178:Int):Option ((Int) ⊕ (Int)) :=
 if ((decide ((gt a176.Gen v177) < 0))||(decide ((gt a176.Gen v177) > v178)))=true then
  inrO (
   some 1)
 else
  nextO (IntKind.i64.wrap (v177+1))
noncomputable def slot_Check_s3 (a176:api_Places):(Int)→Option ((Int) ⊕ (Int))
 | v177 =>
  if (decide (v177 < (a176.Gen.length:Int)))=true then
   if 0≤v177∧v177 < (a176.Gen.length:Int) then
    if 0≤v177∧v177 < (a176.Live.length:Int) then
     if (gt a176.Live v177)=true then
      slot_Check_j4 a176 v177 1099511627775
     else
      slot_Check_j4 a176 v177 1099511627776
    else none
   else none
  else
   inrO (
    some 0)
noncomputable def slot_Check (a176:api_Places):Option Int :=
 if (((decide ((a176.Gen.length:Int) < 1))||(decide ((a176.Gen.length:Int) > 256)))||((a176.Live.length:Int) != (a176.Gen.length:Int)))=true then
  some 1
 else
  whileO (slot_Check_s3 a176) 0
noncomputable def chain_Check_j19 (a179:api_Chains) (v180:Int) (v181:List Bool) (v182:Int) (v183:Int):Option ((Int×(List Bool)) ⊕ (Int)) :=
 if (v183 != (-1))=true then
  inrO (
   some 1)
 else
  if 0≤v180∧v180 < (a179.Tail.length:Int) then
   if ((gt a179.Tail v180) != v182)=true then
    inrO (
     some 1)
   else
    nextO (IntKind.i64.wrap (v180+1),v181)
  else none
noncomputable def chain_Check_s20 (a179:api_Chains) (v180:Int):(Int×Int×Int×(List Bool)×Int×Int)→Option ((Int×Int×Int×(List Bool)×Int×Int) ⊕ ((Int×(List Bool)) ⊕ (Int)))
 | (v184,v185,v186,v187,v188,v189) =>
  if (decide (v186 < (IntKind.i64.wrap ((a179.Next.length:Int)+1))))=true then
   if ((decide (v185 < 0))||(decide (v185≥(a179.Next.length:Int))))=true then
    inrO (
     chain_Check_j19 a179 v180 v187 v188 v189)
   else
    if 0≤v185∧v185 < (v187.length:Int) then
     if (gt v187 v185)=true then
      inrO (
       inrO (
        some 1))
     else
      if 0≤v185∧v185 < (v187.length:Int) then
       if 0≤v185∧v185 < (a179.Next.length:Int) then
        if 0≤v185∧v185 < (a179.Next.length:Int) then
         nextO (v185,(gt a179.Next v185),IntKind.i64.wrap (v186+1),st v187 v185 true,v185,(gt a179.Next v185))
        else none
       else none
      else none
    else none
  else
   inrO (
    chain_Check_j19 a179 v180 v187 v188 v189)
noncomputable def chain_Check_s21 (a179:api_Chains) (v190:List Bool):(Int)→Option ((Int) ⊕ (Int))
 | v191 =>
  if (decide (v191 < (v190.length:Int)))=true then
   if 0≤v191∧v191 < (v190.length:Int) then
    if (!(gt v190 v191))=true then
     if 0≤v191∧v191 < (a179.Next.length:Int) then
      if ((gt a179.Next v191) != (-2))=true then
       inrO (
        some 1)
      else
       nextO (IntKind.i64.wrap (v191+1))
     else none
    else
     nextO (IntKind.i64.wrap (v191+1))
   else none
  else
   inrO (
    some 0)
noncomputable def chain_Check_s17 (a179:api_Chains):(Int×(List Bool))→Option ((Int×(List Bool)) ⊕ (Int))
 | (v180,v190) =>
  if (decide (v180 < (a179.Head.length:Int)))=true then
   if 0≤v180∧v180 < (a179.Head.length:Int) then
    if 0≤v180∧v180 < (a179.Head.length:Int) then
     whileO (chain_Check_s20 a179 v180) (-1,(gt a179.Head v180),0,v190,-1,(gt a179.Head v180))
    else none
   else none
  else
   inrO (
    whileO (chain_Check_s21 a179 v190) 0)
noncomputable def chain_Check (a179:api_Chains):Option Int :=
 if ((((decide ((a179.Next.length:Int) > 1024))||(decide ((a179.Head.length:Int) < 1)))||(decide ((a179.Head.length:Int) > 256)))||((a179.Tail.length:Int) != (a179.Head.length:Int)))=true then
  some 1
 else
  if 0≤(a179.Next.length:Int)∧(a179.Next.length:Int)≤(a179.Next.length:Int)∧(a179.Next.length:Int)≤549755813888 then
   whileO (chain_Check_s17 a179) (0,List.replicate (Int.toNat (a179.Next.length:Int)) false)
  else none
def heap_may (a192:api_Timer):Bool :=
 (((decide (a192.At≥0))&&(decide (a192.At≤1125899906842624)))&&(decide (a192.Id≥0)))
def cmp_isNaN_int64 (a193:Int):Bool :=
 (a193 != a193)
def cmp_Compare_int64 (a194:Int) (a195:Int):Int :=
 if (cmp_isNaN_int64 a194)=true then
  if (cmp_isNaN_int64 a195)=true then
   0
  else
   -1
 else
  if (cmp_isNaN_int64 a195)=true then
   1
  else
   if (decide (a194 < a195))=true then
    -1
   else
    if (decide (a194 > a195))=true then
     1
    else
     0
noncomputable def cmp_Or_int_s1 (a196:List Int):(Int)→Option ((Int) ⊕ (Int))
 | v197 =>
  if (decide (v197 < (a196.length:Int)))=true then
   if 0≤v197∧v197 < (a196.length:Int) then
    if ((gt a196 v197) != 0)=true then
     inrO (
      some (gt a196 v197))
    else
     nextO (IntKind.i64.wrap (v197+1))
   else none
  else
   inrO (
    some 0)
noncomputable def cmp_Or_int (a196:List Int):Option Int :=
 whileO (cmp_Or_int_s1 a196) 0
noncomputable def heap_order (a198:api_Timer) (a199:api_Timer):Option Int :=
 (cmp_Or_int [cmp_Compare_int64 a198.At a199.At,cmp_Compare_int64 a198.Id a199.Id]).bind fun x200 =>
 some x200
noncomputable def heap_Check_s1 (a201:List api_Timer):(Int×(List (Int×Bool)))→Option ((Int×(List (Int×Bool))) ⊕ (Int))
 | (v202,v203) =>
  if (decide (v202 < (a201.length:Int)))=true then
   if 0≤v202∧v202 < (a201.length:Int) then
    if (!(heap_may (gt a201 v202)))=true then
     inrO (
      some 1)
    else
     if ((mget v203 ((gt a201 v202).Id)).getD false)=true then
      inrO (
       some 1)
     else
      if (decide (v202 > 0))=true then
       if 0≤(IntKind.i64.wrap (Int.tdiv (IntKind.i64.wrap (v202 - 1)) 4))∧(IntKind.i64.wrap (Int.tdiv (IntKind.i64.wrap (v202 - 1)) 4)) < (a201.length:Int) then
        (heap_order (gt a201 v202) (gt a201 (IntKind.i64.wrap (Int.tdiv (IntKind.i64.wrap (v202 - 1)) 4)))).bind fun x204 =>
        if (decide (x204 < 0))=true then
         inrO (
          some 1)
        else
         nextO (IntKind.i64.wrap (v202+1),mput v203 ((gt a201 v202).Id) true)
       else none
      else
       nextO (IntKind.i64.wrap (v202+1),mput v203 ((gt a201 v202).Id) true)
   else none
  else
   inrO (
    some 0)
noncomputable def heap_Check (a201:List api_Timer):Option Int :=
 if (decide ((a201.length:Int) > 256))=true then
  some 1
 else
  whileO (heap_Check_s1 a201) (0,[])
def poll_shut :api_Fd :=
 (api_Fd.mk false false (-1))
noncomputable def poll_Check_s2 (a205:List api_Fd):(Int×(List (Int×Bool)))→Option ((Int×(List (Int×Bool))) ⊕ (Int))
 | (v206,v207) =>
  if (decide (v206 < (a205.length:Int)))=true then
   if 0≤v206∧v206 < (a205.length:Int) then
    if (decide (((gt a205 v206).Who) < (-1)))=true then
     inrO (
      some 1)
    else
     if (!((gt a205 v206).Open))=true then
      letO (poll_shut) fun x208 =>
      if (!(api_Fd.beq (gt a205 v206) x208))=true then
       inrO (
        some 1)
      else
       if ((gt a205 v206).Ready)=true then
        if ((((gt a205 v206).Who) != (-1))||((mget v207 ((gt a205 v206).Who)).getD false))=true then
         inrO (
          some 1)
        else
         nextO (IntKind.i64.wrap (v206+1),mput v207 ((gt a205 v206).Who) (((gt a205 v206).Who) != (-1)))
       else
        if ((mget v207 ((gt a205 v206).Who)).getD false)=true then
         inrO (
          some 1)
        else
         nextO (IntKind.i64.wrap (v206+1),mput v207 ((gt a205 v206).Who) (((gt a205 v206).Who) != (-1)))
     else
      if ((gt a205 v206).Ready)=true then
       if ((((gt a205 v206).Who) != (-1))||((mget v207 ((gt a205 v206).Who)).getD false))=true then
        inrO (
         some 1)
       else
        nextO (IntKind.i64.wrap (v206+1),mput v207 ((gt a205 v206).Who) (((gt a205 v206).Who) != (-1)))
      else
       if ((mget v207 ((gt a205 v206).Who)).getD false)=true then
        inrO (
         some 1)
       else
        nextO (IntKind.i64.wrap (v206+1),mput v207 ((gt a205 v206).Who) (((gt a205 v206).Who) != (-1)))
   else none
  else
   inrO (
    if (decide ((a205.length:Int) > 16))=true then
     some 1
    else
     some 0)
noncomputable def poll_Check (a205:List api_Fd):Option Int :=
 whileO (poll_Check_s2 a205) (0,[])
noncomputable def joins_Check_j12 (v209:Bool):Option Bool :=
 if v209=true then
  some true
 else
  some false
noncomputable def joins_Check_s13 (v210:List (Int×Int)) (k211:Int):(Int×Bool×Int)→Option ((Int×Bool×Int) ⊕ (Bool))
 | (v212,v213,v214) =>
  if (decide (v214 < (v210.length:Int)))=true then
   if (!v213)=true then
    inrO (
     joins_Check_j12 false)
   else
    if (v212==k211)=true then
     inrO (
      joins_Check_j12 true)
    else
     nextO (((mget v210 v212).getD 0),(mget v210 v212).isSome,IntKind.i64.wrap (v214+1))
  else
   inrO (
    joins_Check_j12 false)
noncomputable def joins_Check_s10 (a215:List api_Join):(Int×(List (Int×Int)))→Option ((Int×(List (Int×Int))) ⊕ (Int))
 | (v216,v210) =>
  if (decide (v216 < (a215.length:Int)))=true then
   if 0≤v216∧v216 < (a215.length:Int) then
    if (((mget v210 ((gt a215 v216).Who)).isSome)||(decide ((if ((gt a215 v216).Who) < ((gt a215 v216).On) then (gt a215 v216).Who else (gt a215 v216).On) < 0)))=true then
     inrO (
      some 1)
    else
     nextO (IntKind.i64.wrap (v216+1),mput v210 ((gt a215 v216).Who) ((gt a215 v216).On))
   else none
  else
   inrO (
    if (!(decide ((a215.length:Int)≤256)))=true then
     some 1
    else
     (anyO (fun k211 v217 =>
      whileO (joins_Check_s13 v210 k211) (((mget v210 k211).getD 0),(mget v210 k211).isSome,0)) v210).bind fun b218 =>
     if b218=true then
      some 1
     else
      some 0)
noncomputable def joins_Check (a215:List api_Join):Option Int :=
 whileO (joins_Check_s10 a215) (0,[])
noncomputable def idle_counted_s1 (a219:api_Idle):(Int×Int×Int×Int×Int)→Option ((Int×Int×Int×Int×Int) ⊕ (A4_Int×Bool))
 | (v220,v221,v222,v223,v224) =>
  if (decide (v220 < (a219.Is.length:Int)))=true then
   if 0≤v220∧v220 < (a219.Is.length:Int) then
    if ((decide ((gt a219.Is v220) < 0))||(decide ((gt a219.Is v220) > 3)))=true then
     inrO (
      some (A4_Int.zero,false))
    else
     if 0≤(gt a219.Is v220)∧(gt a219.Is v220) < (4:Int) then
      if 0≤(gt a219.Is v220)∧(gt a219.Is v220) < (4:Int) then
       nextO (IntKind.i64.wrap (v220+1),(if (gt a219.Is v220)=0 then IntKind.i64.wrap ((if (gt a219.Is v220)=0 then v221 else (if (gt a219.Is v220)=1 then v222 else (if (gt a219.Is v220)=2 then v223 else v224)))+1) else v221),(if (gt a219.Is v220)=1 then IntKind.i64.wrap ((if (gt a219.Is v220)=0 then v221 else (if (gt a219.Is v220)=1 then v222 else (if (gt a219.Is v220)=2 then v223 else v224)))+1) else v222),(if (gt a219.Is v220)=2 then IntKind.i64.wrap ((if (gt a219.Is v220)=0 then v221 else (if (gt a219.Is v220)=1 then v222 else (if (gt a219.Is v220)=2 then v223 else v224)))+1) else v223),(if (gt a219.Is v220)=3 then IntKind.i64.wrap ((if (gt a219.Is v220)=0 then v221 else (if (gt a219.Is v220)=1 then v222 else (if (gt a219.Is v220)=2 then v223 else v224)))+1) else v224))
      else none
     else none
   else none
  else
   inrO (
    some ((A4_Int.mk v221 v222 v223 v224),true))
noncomputable def idle_counted (a219:api_Idle):Option (A4_Int×Bool) :=
 whileO (idle_counted_s1 a219) (0,0,0,0,0)
def idle_tally_fits (a225:A4_Int):Bool :=
 decide (a225.a1≤(IntKind.i64.wrap (Int.tdiv (IntKind.i64.wrap ((IntKind.i64.wrap ((IntKind.i64.wrap (a225.a0+a225.a1))+a225.a2))+1)) 2)))
noncomputable def idle_Check_j4 (a226:api_Idle) (v227:List Bool) (v228:Int) (b229:Bool):Option (((List Bool)×Int) ⊕ (Int)) :=
 if b229=true then
  inrO (
   some 1)
 else
  if 0≤(gt a226.Stack v228)∧(gt a226.Stack v228) < (a226.Is.length:Int) then
   if (decide ((gt a226.Is (gt a226.Stack v228)) < 2))=true then
    inrO (
     some 1)
   else
    if 0≤(gt a226.Stack v228)∧(gt a226.Stack v228) < (v227.length:Int) then
     nextO (st v227 (gt a226.Stack v228) true,IntKind.i64.wrap (v228+1))
    else none
  else none
noncomputable def idle_Check_s3 (a226:api_Idle):((List Bool)×Int)→Option (((List Bool)×Int) ⊕ (Int))
 | (v227,v228) =>
  if (decide (v228 < (a226.Stack.length:Int)))=true then
   if 0≤v228∧v228 < (a226.Stack.length:Int) then
    if ((decide ((gt a226.Stack v228) < 0))||(decide ((gt a226.Stack v228)≥(v227.length:Int))))=true then
     idle_Check_j4 a226 v227 v228 true
    else
     if 0≤(gt a226.Stack v228)∧(gt a226.Stack v228) < (v227.length:Int) then
      idle_Check_j4 a226 v227 v228 (gt v227 (gt a226.Stack v228))
     else none
   else none
  else
   inrO (
    some 0)
noncomputable def idle_Check (a226:api_Idle):Option Int :=
 (idle_counted a226).bind fun(x230,x231) =>
 if (((((!x231)||(decide ((a226.Is.length:Int) < 1)))||(decide ((a226.Is.length:Int) > 64)))||(!(idle_tally_fits x230)))||((a226.Stack.length:Int) != (IntKind.i64.wrap (x230.a2+x230.a3))))=true then
  some 1
 else
  if 0≤(a226.Is.length:Int)∧(a226.Is.length:Int)≤(a226.Is.length:Int)∧(a226.Is.length:Int)≤549755813888 then
   whileO (idle_Check_s3 a226) (List.replicate (Int.toNat (a226.Is.length:Int)) false,0)
  else none
noncomputable def sema_Check_s1 (a232:api_Sem):(Int×(List (Int×Bool)))→Option ((Int×(List (Int×Bool))) ⊕ (Int))
 | (v233,v234) =>
  if (decide (v233 < (a232.Wait.length:Int)))=true then
   if 0≤v233∧v233 < (a232.Wait.length:Int) then
    if ((decide ((gt a232.Wait v233) < 0))||((mget v234 (gt a232.Wait v233)).getD false))=true then
     inrO (
      some 1)
    else
     nextO (IntKind.i64.wrap (v233+1),mput v234 (gt a232.Wait v233) true)
   else none
  else
   inrO (
    some 0)
noncomputable def sema_Check (a232:api_Sem):Option Int :=
 if ((((decide (a232.Free < 0))||(decide (a232.Free > 1000)))||(decide ((a232.Wait.length:Int) > 256)))||(decide ((if (a232.Wait.length:Int) < a232.Free then (a232.Wait.length:Int) else a232.Free) > 0)))=true then
  some 1
 else
  whileO (sema_Check_s1 a232) (0,mput [] (-1) true)
noncomputable def crew_checker_parts_1 (a235:api_Sem):Option Bool :=
 (sema_Check a235).bind fun x236 =>
 some (x236 != 0)
noncomputable def slices_IndexFunc_api_Sem_api_Sem_169_s1 (a237:List api_Sem):(Int)→Option ((Int) ⊕ (Int))
 | v238 =>
  if (decide (v238 < (a237.length:Int)))=true then
   if 0≤v238∧v238 < (a237.length:Int) then
    (crew_checker_parts_1 (gt a237 v238)).bind fun x239 =>
    if x239=true then
     inrO (
      some v238)
    else
     nextO (IntKind.i64.wrap (v238+1))
   else none
  else
   inrO (
    some (-1))
noncomputable def slices_IndexFunc_api_Sem_api_Sem_169 (a237:List api_Sem):Option Int :=
 whileO (slices_IndexFunc_api_Sem_api_Sem_169_s1 a237) 0
noncomputable def slices_ContainsFunc_api_Sem_api_Sem_169 (a240:List api_Sem):Option Bool :=
 (slices_IndexFunc_api_Sem_api_Sem_169 a240).bind fun x241 =>
 some (decide (x241≥0))
noncomputable def crew_checker_parts_s4 (a242:crew_checker):(Int)→Option ((Int) ⊕ (Bool))
 | v243 =>
  if (decide (v243 < 10))=true then
   if 0≤v243∧v243 < (10:Int) then
    if ((if v243=0 then (a242.w.Ids.Gen.length:Int) else (if v243=1 then (a242.w.T.length:Int) else (if v243=2 then (a242.w.Lists.Next.length:Int) else (if v243=3 then (a242.w.Lists.Head.length:Int) else (if v243=4 then (a242.w.Mem.length:Int) else (if v243=5 then (a242.w.Ten.length:Int) else (if v243=6 then (a242.w.Fds.length:Int) else (if v243=7 then (a242.w.Sems.length:Int) else (if v243=8 then (a242.w.Idle.Is.length:Int) else (a242.w.W.length:Int)))))))))) != (if v243=0 then a242.c.Tasks else (if v243=1 then a242.c.Tasks else (if v243=2 then a242.c.Tasks else (if v243=3 then (a242.c.Weights.length:Int) else (if v243=4 then IntKind.i64.wrap (a242.c.Workers*(IntKind.i64.wrap (a242.c.Cap+2))) else (if v243=5 then (a242.c.Weights.length:Int) else (if v243=6 then a242.c.Fds else (if v243=7 then (a242.c.Sems.length:Int) else (if v243=8 then a242.c.Workers else a242.c.Workers))))))))))=true then
     inrO (
      some false)
    else
     nextO (IntKind.i64.wrap (v243+1))
   else none
  else
   inrO (
    if (((decide (a242.w.Now≥0))&&(decide (a242.w.Now≤1125899906842624)))&&(decide ((a242.w.Seen.length:Int)≤65536)))=true then
     (slices_ContainsFunc_api_Sem_api_Sem_169 a242.w.Sems).bind fun x244 =>
     some (!x244)
    else
     some false)
noncomputable def crew_checker_parts_s2 (a242:crew_checker) (x245:Int) (x246:Int) (x247:Int) (x248:Int) (x249:Int) (x250:Int) (x251:Int) (x252:Int):(Int)→Option ((Int) ⊕ (Bool))
 | v253 =>
  if (decide (v253 < 9))=true then
   if 0≤v253∧v253 < (9:Int) then
    if ((if v253=0 then x245 else (if v253=1 then dice_Check a242.w.Dice else (if v253=2 then x246 else (if v253=3 then x247 else (if v253=4 then x248 else (if v253=5 then x249 else (if v253=6 then x250 else (if v253=7 then x251 else x252)))))))) != 0)=true then
     inrO (
      some false)
    else
     nextO (IntKind.i64.wrap (v253+1))
   else none
  else
   inrO (
    whileO (crew_checker_parts_s4 a242) 0)
noncomputable def crew_checker_parts (a242:crew_checker):Option Bool :=
 (entry_Config a242.c).bind fun x245 =>
 (slot_Check a242.w.Ids).bind fun x246 =>
 (chain_Check a242.w.Lists).bind fun x247 =>
 (lodge_Check a242.w.Ten).bind fun x248 =>
 (heap_Check a242.w.Heap).bind fun x249 =>
 (poll_Check a242.w.Fds).bind fun x250 =>
 (joins_Check a242.w.Joins).bind fun x251 =>
 (idle_Check a242.w.Idle).bind fun x252 =>
 whileO (crew_checker_parts_s2 a242 x245 x246 x247 x248 x249 x250 x251 x252) 0
def life_below (a254:Int) (a255:Int):Bool :=
 ((decide (a254≥0))&&(decide (a254 < a255)))
def life_state (a256:Int):Bool :=
 ((decide (a256≥1))&&(decide (a256≤7)))
noncomputable def slices_Min_int64_int64_s1 (a257:List Int):(Int×Int)→Option ((Int×Int) ⊕ (Int))
 | (v258,v259) =>
  if (decide (v259 < (a257.length:Int)))=true then
   if 0≤v259∧v259 < (a257.length:Int) then
    nextO ((if (gt a257 v259) < v258 then (gt a257 v259) else v258),IntKind.i64.wrap (v259+1))
   else none
  else
   inrO (
    some v258)
noncomputable def slices_Min_int64_int64 (a257:List Int):Option Int :=
 if (decide ((a257.length:Int) < 1))=true then
  none
 else
  if 0≤(0:Int)∧(0:Int) < (a257.length:Int) then
   whileO (slices_Min_int64_int64_s1 a257) ((gt a257 0),1)
  else none
noncomputable def life_Check (a260:api_Task):Option Int :=
 if (!((((((((decide (a260.Id≥0))&&(life_below a260.Tenant 16))&&(life_below a260.Prog 16))&&(life_below a260.Pc 33))&&(life_below a260.Unit 100))&&(life_state a260.State))&&(decide (a260.Ran≥0)))&&(decide (a260.Ran≤1099511627776))))=true then
  some 1
 else
  (slices_Min_int64_int64 [a260.Keeps.a0,a260.Keeps.a1,a260.Keeps.a2,a260.Keeps.a3]).bind fun x261 =>
  if (decide (x261 < (-1)))=true then
   some 1
  else
   some 0
noncomputable def step_Next_j2 (a262:api_Task) (v263:Int) (v264:Int) (v265:Int):Option (api_Instr×Int) :=
 if ((decide (a262.Unit > 0))&&((v263 != 1)||(decide (a262.Unit≥v264))))=true then
  some (api_Instr.zero,1)
 else
  some ((api_Instr.mk v263 v264 v265),0)
noncomputable def step_Next_j1 (a262:api_Task) (a266:List api_Instr) (b267:Bool):Option (api_Instr×Int) :=
 if (b267||(decide (a262.Pc > (a266.length:Int))))=true then
  some (api_Instr.zero,1)
 else
  if (decide (a262.Pc < (a266.length:Int)))=true then
   if 0≤a262.Pc∧a262.Pc < (a266.length:Int) then
    step_Next_j2 a262 ((gt a266 a262.Pc).Op) ((gt a266 a262.Pc).A) ((gt a266 a262.Pc).B)
   else none
  else
   step_Next_j2 a262 9 0 0
noncomputable def step_Next (a262:api_Task) (a266:List api_Instr):Option (api_Instr×Int) :=
 (life_Check a262).bind fun x268 =>
 if (x268 != 0)=true then
  step_Next_j1 a262 a266 true
 else
  (code_Check a266).bind fun x269 =>
  step_Next_j1 a262 a266 (x269 != 0)
noncomputable def crew_checker_task (a270:crew_checker) (a271:Int):Option Bool :=
 if 0≤a271∧a271 < (a270.w.T.length:Int) then
  if 0≤a271∧a271 < (a270.w.Ids.Live.length:Int) then
   if (!(gt a270.w.Ids.Live a271))=true then
    some (api_Task.beq (gt a270.w.T a271) api_Task.zero)
   else
    (life_Check (gt a270.w.T a271)).bind fun x272 =>
    if (x272 != 0)=true then
     some false
    else
     if (((gt a270.w.T a271).State)==7)=true then
      some false
     else
      if 0≤a271∧a271 < (a270.w.Ids.Gen.length:Int) then
       if (((gt a270.w.T a271).Id) != (IntKind.i64.wrap ((IntKind.i64.wrap ((gt a270.w.Ids.Gen a271)*256))+a271)))=true then
        some false
       else
        if (decide (((gt a270.w.T a271).Tenant)≥(a270.c.Weights.length:Int)))=true then
         some false
        else
         if (decide (((gt a270.w.T a271).Prog)≥(a270.c.Progs.length:Int)))=true then
          some false
         else
          if 0≤((gt a270.w.T a271).Prog)∧((gt a270.w.T a271).Prog) < (a270.c.Progs.length:Int) then
           (step_Next (gt a270.w.T a271) (gt a270.c.Progs ((gt a270.w.T a271).Prog))).bind fun(x273,x274) =>
           some (x274==0)
          else none
      else none
  else none
 else none
def slices_Clone_int_int (xs:List Int):Option (List Int):=if few xs.length then some xs else none
noncomputable def chain_own_j9 (a275:api_Chains) (v276:Int):Option (api_Chains×Int) :=
 if (decide (v276≥0))=true then
  some (api_Chains.zero,1)
 else
  (slices_Clone_int_int a275.Next).bind fun x277 =>
  (slices_Clone_int_int a275.Head).bind fun x278 =>
  (slices_Clone_int_int a275.Tail).bind fun x279 =>
  some ((api_Chains.mk x277 x278 x279),0)
noncomputable def chain_own_s10 (a275:api_Chains) (a280:List Int):(Int)→Option ((Int) ⊕ (api_Chains×Int))
 | v281 =>
  if (decide (v281 < (a280.length:Int)))=true then
   if 0≤v281∧v281 < (a280.length:Int) then
    if ((decide ((gt a280 v281) < 0))||(decide ((gt a280 v281)≥(a275.Next.length:Int))))=true then
     inrO (
      chain_own_j9 a275 v281)
    else
     nextO (IntKind.i64.wrap (v281+1))
   else none
  else
   inrO (
    chain_own_j9 a275 (-1))
noncomputable def chain_own_j5 (a275:api_Chains) (a280:List Int) (v282:Bool):Option (api_Chains×Int) :=
 if v282=true then
  some (api_Chains.zero,1)
 else
  whileO (chain_own_s10 a275 a280) 0
noncomputable def chain_own_j14 (a275:api_Chains) (a280:List Int) (v283:Int):Option (api_Chains×Int) :=
 chain_own_j5 a275 a280 (decide (v283≥0))
noncomputable def chain_own_s15 (a275:api_Chains) (a284:List Int) (a280:List Int):(Int)→Option ((Int) ⊕ (api_Chains×Int))
 | v285 =>
  if (decide (v285 < (a284.length:Int)))=true then
   if 0≤v285∧v285 < (a284.length:Int) then
    if ((decide ((gt a284 v285) < 0))||(decide ((gt a284 v285)≥(a275.Head.length:Int))))=true then
     inrO (
      chain_own_j14 a275 a280 v285)
    else
     nextO (IntKind.i64.wrap (v285+1))
   else none
  else
   inrO (
    chain_own_j14 a275 a280 (-1))
noncomputable def chain_own (a275:api_Chains) (a284:List Int) (a280:List Int):Option (api_Chains×Int) :=
 (chain_Check a275).bind fun x286 =>
 if (x286 != 0)=true then
  chain_own_j5 a275 a280 true
 else
  whileO (chain_own_s15 a275 a284 a280) 0
noncomputable def chain_Walk_s1 (a287:api_Chains):(Int×Int×Int×(List Int))→Option ((Int×Int×Int×(List Int)) ⊕ ((List Int)×Int))
 | (v288,v289,v290,v291) =>
  if (decide (v290 < (IntKind.i64.wrap ((a287.Next.length:Int)+1))))=true then
   if ((decide (v289 < 0))||(decide (v289≥(a287.Next.length:Int))))=true then
    inrO (
     some (v291,0))
   else
    if few (v291++[v289]).length then
     if 0≤v289∧v289 < (a287.Next.length:Int) then
      nextO (v289,(gt a287.Next v289),IntKind.i64.wrap (v290+1),v291++[v289])
     else none
    else none
  else
   inrO (
    some (v291,0))
noncomputable def chain_Walk (a287:api_Chains) (a292:Int):Option ((List Int)×Int) :=
 (chain_own a287 [a292] []).bind fun(x293,x294) =>
 if (x294 != 0)=true then
  some ([],x294)
 else
  if 0≤a292∧a292 < (a287.Head.length:Int) then
   whileO (chain_Walk_s1 a287) (-1,(gt a287.Head a292),0,[])
  else none
noncomputable def crew_checker_list_j4 (v295:Int):Option Bool :=
 some (!(decide (v295≥0)))
noncomputable def crew_checker_list_s5 (a296:crew_checker) (a297:Int) (x298:List Int):(Int)→Option ((Int) ⊕ (Bool))
 | v299 =>
  if (decide (v299 < (x298.length:Int)))=true then
   if 0≤v299∧v299 < (x298.length:Int) then
    if 0≤(gt x298 v299)∧(gt x298 v299) < (a296.w.T.length:Int) then
     if 0≤(gt x298 v299)∧(gt x298 v299) < (a296.w.Ids.Live.length:Int) then
      if (((!(gt a296.w.Ids.Live (gt x298 v299)))||(((gt a296.w.T (gt x298 v299)).State) != 1))||(((gt a296.w.T (gt x298 v299)).Tenant) != a297))=true then
       inrO (
        crew_checker_list_j4 v299)
      else
       nextO (IntKind.i64.wrap (v299+1))
     else none
    else none
   else none
  else
   inrO (
    crew_checker_list_j4 (-1))
noncomputable def crew_checker_list (a296:crew_checker) (a297:Int):Option Bool :=
 (chain_Walk a296.w.Lists a297).bind fun(x298,x300) =>
 if (x300==0)=true then
  whileO (crew_checker_list_s5 a296 a297 x298) 0
 else
  some false
def crew_within (a301:Int) (a302:Int) (a303:Int):Bool :=
 ((decide (a301≥a302))&&(decide (a301≤a303)))
@[ext] structure api_Deque where
 Base:Int
 Cap:Int
 deriving Inhabited
def api_Deque.cells (x:api_Deque):List V:=[I x.Base,I x.Cap]
def api_Deque.zero:api_Deque:=⟨0,0⟩
def api_Deque.beq (x y:api_Deque):Bool:=((x.Base==y.Base)&&((x.Cap==y.Cap)&&true))
def cell_Check (a304:List Int):Int :=
 if (decide ((a304.length:Int) > 65536))=true then
  1
 else
  0
def ring_Check (a305:List Int) (a306:api_Deque):Int :=
 if ((((((cell_Check a305) != 0)||(decide (a306.Cap < 1)))||(decide (a306.Cap > 1024)))||(decide (a306.Base < 0)))||(decide (a306.Base > (IntKind.i64.wrap ((IntKind.i64.wrap ((a305.length:Int) - a306.Cap)) - 2)))))=true then
  1
 else
  0
def ring_accesses (a307:Int):List Nat :=
 ((mget (mput (mput (mput [] 1 [152,153,154,155]) 2 [156,157,158,159,160,161,162]) 3 [152,163,164,165]) a307).getD [])
def ring_may (a308:api_Hand):Bool :=
 if (decide (a308.Pc≥0))=true then
  letO (ring_accesses a308.Kind) fun x309 =>
  if (decide (a308.Pc < (x309.length:Int)))=true then
   if (decide ((if a308.B < a308.T then a308.B else a308.T)≥(-1)))=true then
    if (decide ((if a308.B > a308.T then a308.B else a308.T)≤1099511627776))=true then
     if (decide (a308.State≥0))=true then
      decide (a308.State≤4)
     else
      false
    else
     false
   else
    false
  else
   false
 else
  false
@[ext] structure ring_actor where
 Hand:api_Hand
 m:List Int
 q:api_Deque
 e:Int
 deriving Inhabited
def ring_actor.cells (x:ring_actor):List V:=[I x.Hand.Kind,I x.Hand.Pc,I x.Hand.V,I x.Hand.T,I x.Hand.B,V.bool x.Hand.Won,I x.Hand.State,V.sl 1 (rws (fun n=>[I n]) x.m),I x.q.Base,I x.q.Cap,I x.e]
def ring_actor.zero:ring_actor:=⟨⟨0,0,0,0,0,false,0⟩,[],⟨0,0⟩,0⟩
def pring_actor_top (a310:ring_actor):Int :=
 (a310).q.Base
noncomputable def cell_Load (a311:List Int) (a312:Int):Option (Int×Int) :=
 if ((((cell_Check a311) != 0)||(decide (a312 < 0)))||(decide (a312≥(a311.length:Int))))=true then
  some (0,1)
 else
  if 0≤a312∧a312 < (a311.length:Int) then
   some ((gt a311 a312),0)
  else none
def pring_actor_bottom (a313:ring_actor):Int :=
 IntKind.i64.wrap (((a313).q.Base)+1)
noncomputable def pring_actor_slot (a314:ring_actor) (a315:Int):Option Int :=
 if ((a314).q.Cap)≠0 then
  some (IntKind.i64.wrap ((IntKind.i64.wrap (((a314).q.Base)+2))+(Int.tmod a315 ((a314).q.Cap))))
 else none
def slices_Clone_api_Mem_int64 (xs:List Int):Option (List Int):=if few xs.length then some xs else none
noncomputable def cell_Store (a316:List Int) (a317:Int) (a318:Int):Option ((List Int)×Int) :=
 if ((((cell_Check a316) != 0)||(decide (a317 < 0)))||(decide (a317≥(a316.length:Int))))=true then
  some ([],1)
 else
  if 0≤a317∧a317 < (a316.length:Int) then
   (slices_Clone_api_Mem_int64 a316).bind fun x319 =>
   if 0≤a317∧a317 < (x319.length:Int) then
    some (st x319 a317 a318,0)
   else none
  else none
noncomputable def cell_Cas_j1 (a320:Int) (a321:Int) (x322:List Int) (v323:List Int):Option ((List Int)×Bool×Int) :=
 some (v323,((gt x322 a320)==a321),0)
noncomputable def cell_Cas (a324:List Int) (a320:Int) (a321:Int) (a325:Int):Option ((List Int)×Bool×Int) :=
 if ((((cell_Check a324) != 0)||(decide (a320 < 0)))||(decide (a320≥(a324.length:Int))))=true then
  some ([],false,1)
 else
  if 0≤a320∧a320 < (a324.length:Int) then
   (slices_Clone_api_Mem_int64 a324).bind fun x322 =>
   if 0≤a320∧a320 < (x322.length:Int) then
    if ((gt x322 a320)==a321)=true then
     cell_Cas_j1 a320 a321 x322 (st x322 a320 a325)
    else
     cell_Cas_j1 a320 a321 x322 x322
   else none
  else none
noncomputable def ring_Step_j83 (a326:api_Hand) (v327:Int) (v328:Int) (v329:Int) (v330:Int) (v331:Bool) (v332:Int) (v333:List Int) (v334:Int):Option ((List Int)×api_Hand×Int) :=
 if (v334 != 0)=true then
  some ([],api_Hand.zero,v334)
 else
  some (v333,(api_Hand.mk a326.Kind v327 v328 v329 v330 v331 v332),0)
noncomputable def ring_Step_j89 (a335:List Int) (a326:api_Hand) (x336:Int) (v337:Int):Option ((List Int)×api_Hand×Int) :=
 ring_Step_j83 a326 (IntKind.i64.wrap (a326.Pc+1)) a326.V x336 a326.B a326.Won a326.State ([]++a335) v337
noncomputable def ring_Step_j88 (a335:List Int) (a326:api_Hand) (x336:Int) (v338:Int):Option ((List Int)×api_Hand×Int) :=
 if (!((decide (x336≥0))&&(decide (x336≤1099511627776))))=true then
  ring_Step_j89 a335 a326 x336 9
 else
  ring_Step_j89 a335 a326 x336 v338
noncomputable def ring_Step_j96 (a335:List Int) (a326:api_Hand) (x339:Int) (v340:Int) (v341:Int) (v342:Int):Option ((List Int)×api_Hand×Int) :=
 ring_Step_j83 a326 v341 a326.V a326.T x339 a326.Won v342 ([]++a335) v340
noncomputable def ring_Step_j95 (a335:List Int) (a343:api_Deque) (a326:api_Hand) (x339:Int) (v340:Int):Option ((List Int)×api_Hand×Int) :=
 if (decide ((IntKind.i64.wrap (x339 - a326.T))≥a343.Cap))=true then
  ring_Step_j96 a335 a326 x339 v340 a326.Pc 3
 else
  ring_Step_j96 a335 a326 x339 v340 2 a326.State
noncomputable def ring_Step_j94 (a335:List Int) (a343:api_Deque) (a326:api_Hand) (x339:Int) (v344:Int):Option ((List Int)×api_Hand×Int) :=
 if (!((decide (x339≥0))&&(decide (x339≤1099511627776))))=true then
  ring_Step_j95 a335 a343 a326 x339 9
 else
  ring_Step_j95 a335 a343 a326 x339 v344
noncomputable def ring_Step_j100 (a326:api_Hand) (v345:List Int) (v346:Int):Option ((List Int)×api_Hand×Int) :=
 ring_Step_j83 a326 (IntKind.i64.wrap (a326.Pc+1)) a326.V a326.T a326.B a326.Won a326.State v345 v346
noncomputable def ring_Step_j102 (a326:api_Hand) (v347:List Int) (v348:Int):Option ((List Int)×api_Hand×Int) :=
 ring_Step_j100 a326 v347 v348
noncomputable def ring_Step_j103 (a335:List Int) (a326:api_Hand) (x349:List Int) (x350:Int) (v351:Int):Option ((List Int)×api_Hand×Int) :=
 if (x350==0)=true then
  ring_Step_j102 a326 x349 v351
 else
  ring_Step_j102 a326 ([]++a335) v351
noncomputable def ring_Step_j97 (a335:List Int) (a343:api_Deque) (a326:api_Hand) (v352:Int):Option ((List Int)×api_Hand×Int) :=
 if (decide (a326.B≥0))=true then
  (pring_actor_slot (ring_actor.mk a326 ([]++a335) a343 v352) a326.B).bind fun x353 =>
  (cell_Store ([]++a335) x353 a326.V).bind fun(x349,x350) =>
  if (!(x350==0))=true then
   ring_Step_j103 a335 a326 x349 x350 9
  else
   ring_Step_j103 a335 a326 x349 x350 v352
 else
  ring_Step_j100 a326 ([]++a335) v352
noncomputable def ring_Step_j107 (a326:api_Hand) (v354:List Int) (v355:Int):Option ((List Int)×api_Hand×Int) :=
 ring_Step_j83 a326 a326.Pc a326.V a326.T a326.B a326.Won 1 v354 v355
noncomputable def ring_Step_j109 (a326:api_Hand) (v356:List Int) (v357:Int):Option ((List Int)×api_Hand×Int) :=
 ring_Step_j107 a326 v356 v357
noncomputable def ring_Step_j110 (a335:List Int) (a326:api_Hand) (x358:List Int) (x359:Int) (v360:Int):Option ((List Int)×api_Hand×Int) :=
 if (x359==0)=true then
  ring_Step_j109 a326 x358 v360
 else
  ring_Step_j109 a326 ([]++a335) v360
noncomputable def ring_Step_j104 (a335:List Int) (a343:api_Deque) (a326:api_Hand) (v361:Int):Option ((List Int)×api_Hand×Int) :=
 if (decide (a326.B≥0))=true then
  (cell_Store ([]++a335) (pring_actor_bottom (ring_actor.mk a326 ([]++a335) a343 v361)) (IntKind.i64.wrap (a326.B+1))).bind fun(x358,x359) =>
  if (!(x359==0))=true then
   ring_Step_j110 a335 a326 x358 x359 9
  else
   ring_Step_j110 a335 a326 x358 x359 v361
 else
  ring_Step_j107 a326 ([]++a335) v361
noncomputable def ring_Step_j116 (a335:List Int) (a326:api_Hand) (x362:Int) (v363:Int):Option ((List Int)×api_Hand×Int) :=
 ring_Step_j83 a326 (IntKind.i64.wrap (a326.Pc+1)) a326.V a326.T x362 a326.Won a326.State ([]++a335) v363
noncomputable def ring_Step_j115 (a335:List Int) (a326:api_Hand) (x362:Int) (v364:Int):Option ((List Int)×api_Hand×Int) :=
 if (!((decide (x362≥0))&&(decide (x362≤1099511627776))))=true then
  ring_Step_j116 a335 a326 x362 9
 else
  ring_Step_j116 a335 a326 x362 v364
noncomputable def ring_Step_j120 (a326:api_Hand) (v365:Int) (v366:List Int) (v367:Int):Option ((List Int)×api_Hand×Int) :=
 ring_Step_j83 a326 (IntKind.i64.wrap (a326.Pc+1)) a326.V a326.T v365 a326.Won a326.State v366 v367
noncomputable def ring_Step_j122 (a326:api_Hand) (v368:List Int) (v369:Int):Option ((List Int)×api_Hand×Int) :=
 ring_Step_j120 a326 (IntKind.i64.wrap (a326.B - 1)) v368 v369
noncomputable def ring_Step_j123 (a335:List Int) (a326:api_Hand) (x370:List Int) (x371:Int) (v372:Int):Option ((List Int)×api_Hand×Int) :=
 if (x371==0)=true then
  ring_Step_j122 a326 x370 v372
 else
  ring_Step_j122 a326 ([]++a335) v372
noncomputable def ring_Step_j117 (a335:List Int) (a343:api_Deque) (a326:api_Hand) (v373:Int):Option ((List Int)×api_Hand×Int) :=
 if (decide (a326.B≥0))=true then
  (cell_Store ([]++a335) (pring_actor_bottom (ring_actor.mk (api_Hand.mk a326.Kind a326.Pc a326.V a326.T (IntKind.i64.wrap (a326.B - 1)) a326.Won a326.State) ([]++a335) a343 v373)) (IntKind.i64.wrap (a326.B - 1))).bind fun(x370,x371) =>
  if (!(x371==0))=true then
   ring_Step_j123 a335 a326 x370 x371 9
  else
   ring_Step_j123 a335 a326 x370 x371 v373
 else
  ring_Step_j120 a326 a326.B ([]++a335) v373
noncomputable def ring_Step_j129 (a335:List Int) (a326:api_Hand) (x374:Int) (v375:Int):Option ((List Int)×api_Hand×Int) :=
 if (decide (x374 > a326.B))=true then
  ring_Step_j83 a326 3 a326.V x374 a326.B a326.Won a326.State ([]++a335) v375
 else
  ring_Step_j83 a326 4 a326.V x374 a326.B a326.Won a326.State ([]++a335) v375
noncomputable def ring_Step_j128 (a335:List Int) (a326:api_Hand) (x374:Int) (v376:Int):Option ((List Int)×api_Hand×Int) :=
 if (!((decide (x374≥0))&&(decide (x374≤1099511627776))))=true then
  ring_Step_j129 a335 a326 x374 9
 else
  ring_Step_j129 a335 a326 x374 v376
noncomputable def ring_Step_j133 (a326:api_Hand) (v377:List Int) (v378:Int):Option ((List Int)×api_Hand×Int) :=
 ring_Step_j83 a326 a326.Pc a326.V a326.T a326.B a326.Won 2 v377 v378
noncomputable def ring_Step_j135 (a326:api_Hand) (v379:List Int) (v380:Int):Option ((List Int)×api_Hand×Int) :=
 ring_Step_j133 a326 v379 v380
noncomputable def ring_Step_j136 (a335:List Int) (a326:api_Hand) (x381:List Int) (x382:Int) (v383:Int):Option ((List Int)×api_Hand×Int) :=
 if (x382==0)=true then
  ring_Step_j135 a326 x381 v383
 else
  ring_Step_j135 a326 ([]++a335) v383
noncomputable def ring_Step_j130 (a335:List Int) (a343:api_Deque) (a326:api_Hand) (v384:Int):Option ((List Int)×api_Hand×Int) :=
 if (decide (a326.T≥0))=true then
  (cell_Store ([]++a335) (pring_actor_bottom (ring_actor.mk a326 ([]++a335) a343 v384)) a326.T).bind fun(x381,x382) =>
  if (!(x382==0))=true then
   ring_Step_j136 a335 a326 x381 x382 9
  else
   ring_Step_j136 a335 a326 x381 x382 v384
 else
  ring_Step_j133 a326 ([]++a335) v384
noncomputable def ring_Step_j141 (a335:List Int) (a326:api_Hand) (v385:Int) (v386:Int) (v387:Int) (v388:Int):Option ((List Int)×api_Hand×Int) :=
 ring_Step_j83 a326 v387 v385 a326.T a326.B a326.Won v388 ([]++a335) v386
noncomputable def ring_Step_j140 (a335:List Int) (a326:api_Hand) (v385:Int) (v386:Int):Option ((List Int)×api_Hand×Int) :=
 if (decide (a326.B > a326.T))=true then
  ring_Step_j141 a335 a326 v385 v386 a326.Pc 1
 else
  ring_Step_j141 a335 a326 v385 v386 5 a326.State
noncomputable def ring_Step_j143 (a335:List Int) (a326:api_Hand) (x389:Int) (v390:Int):Option ((List Int)×api_Hand×Int) :=
 ring_Step_j140 a335 a326 x389 v390
noncomputable def ring_Step_j137 (a335:List Int) (a343:api_Deque) (a326:api_Hand) (v391:Int):Option ((List Int)×api_Hand×Int) :=
 if (decide (a326.B≥0))=true then
  (pring_actor_slot (ring_actor.mk a326 ([]++a335) a343 v391) a326.B).bind fun x392 =>
  (cell_Load ([]++a335) x392).bind fun(x389,x393) =>
  if (!(x393==0))=true then
   ring_Step_j143 a335 a326 x389 9
  else
   ring_Step_j143 a335 a326 x389 v391
 else
  ring_Step_j140 a335 a326 a326.V v391
noncomputable def ring_Step_j147 (a326:api_Hand) (v394:Bool) (v395:List Int) (v396:Int):Option ((List Int)×api_Hand×Int) :=
 ring_Step_j83 a326 (IntKind.i64.wrap (a326.Pc+1)) a326.V a326.T a326.B v394 a326.State v395 v396
noncomputable def ring_Step_j149 (a326:api_Hand) (v397:Bool) (v398:List Int) (v399:Int):Option ((List Int)×api_Hand×Int) :=
 ring_Step_j147 a326 v397 v398 v399
noncomputable def ring_Step_j150 (a335:List Int) (a326:api_Hand) (x400:List Int) (x401:Bool) (x402:Int) (v403:Int):Option ((List Int)×api_Hand×Int) :=
 if (x402==0)=true then
  ring_Step_j149 a326 x401 x400 v403
 else
  ring_Step_j149 a326 x401 ([]++a335) v403
noncomputable def ring_Step_j144 (a335:List Int) (a343:api_Deque) (a326:api_Hand) (v404:Int):Option ((List Int)×api_Hand×Int) :=
 if (decide (a326.T≥0))=true then
  (cell_Cas ([]++a335) (pring_actor_top (ring_actor.mk a326 ([]++a335) a343 v404)) a326.T (IntKind.i64.wrap (a326.T+1))).bind fun(x400,x401,x402) =>
  if (!(x402==0))=true then
   ring_Step_j150 a335 a326 x400 x401 x402 9
  else
   ring_Step_j150 a335 a326 x400 x401 x402 v404
 else
  ring_Step_j147 a326 false ([]++a335) v404
noncomputable def ring_Step_j154 (a326:api_Hand) (v405:List Int) (v406:Int):Option ((List Int)×api_Hand×Int) :=
 if a326.Won=true then
  ring_Step_j83 a326 a326.Pc a326.V a326.T a326.B a326.Won 1 v405 v406
 else
  ring_Step_j83 a326 a326.Pc a326.V a326.T a326.B a326.Won 2 v405 v406
noncomputable def ring_Step_j156 (a326:api_Hand) (v407:List Int) (v408:Int):Option ((List Int)×api_Hand×Int) :=
 ring_Step_j154 a326 v407 v408
noncomputable def ring_Step_j157 (a335:List Int) (a326:api_Hand) (x409:List Int) (x410:Int) (v411:Int):Option ((List Int)×api_Hand×Int) :=
 if (x410==0)=true then
  ring_Step_j156 a326 x409 v411
 else
  ring_Step_j156 a326 ([]++a335) v411
noncomputable def ring_Step_j151 (a335:List Int) (a343:api_Deque) (a326:api_Hand) (v412:Int):Option ((List Int)×api_Hand×Int) :=
 if (decide (a326.T≥0))=true then
  (cell_Store ([]++a335) (pring_actor_bottom (ring_actor.mk a326 ([]++a335) a343 v412)) (IntKind.i64.wrap (a326.T+1))).bind fun(x409,x410) =>
  if (!(x410==0))=true then
   ring_Step_j157 a335 a326 x409 x410 9
  else
   ring_Step_j157 a335 a326 x409 x410 v412
 else
  ring_Step_j154 a326 ([]++a335) v412
noncomputable def ring_Step_j164 (a335:List Int) (a326:api_Hand) (x413:Int) (v414:Int) (v415:Int) (v416:Int):Option ((List Int)×api_Hand×Int) :=
 ring_Step_j83 a326 v415 a326.V a326.T x413 a326.Won v416 ([]++a335) v414
noncomputable def ring_Step_j163 (a335:List Int) (a326:api_Hand) (x413:Int) (v414:Int):Option ((List Int)×api_Hand×Int) :=
 if (decide ((IntKind.i64.wrap (x413 - a326.T)) < 1))=true then
  ring_Step_j164 a335 a326 x413 v414 a326.Pc 2
 else
  ring_Step_j164 a335 a326 x413 v414 2 a326.State
noncomputable def ring_Step_j162 (a335:List Int) (a326:api_Hand) (x413:Int) (v417:Int):Option ((List Int)×api_Hand×Int) :=
 if (!((decide (x413≥(-1)))&&(decide (x413≤1099511627776))))=true then
  ring_Step_j163 a335 a326 x413 9
 else
  ring_Step_j163 a335 a326 x413 v417
noncomputable def ring_Step_j168 (a335:List Int) (a326:api_Hand) (v418:Int) (v419:Int):Option ((List Int)×api_Hand×Int) :=
 ring_Step_j83 a326 (IntKind.i64.wrap (a326.Pc+1)) v418 a326.T a326.B a326.Won a326.State ([]++a335) v419
noncomputable def ring_Step_j170 (a335:List Int) (a326:api_Hand) (x420:Int) (v421:Int):Option ((List Int)×api_Hand×Int) :=
 ring_Step_j168 a335 a326 x420 v421
noncomputable def ring_Step_j165 (a335:List Int) (a343:api_Deque) (a326:api_Hand) (v422:Int):Option ((List Int)×api_Hand×Int) :=
 if (decide (a326.T≥0))=true then
  (pring_actor_slot (ring_actor.mk a326 ([]++a335) a343 v422) a326.T).bind fun x423 =>
  (cell_Load ([]++a335) x423).bind fun(x420,x424) =>
  if (!(x424==0))=true then
   ring_Step_j170 a335 a326 x420 9
  else
   ring_Step_j170 a335 a326 x420 v422
 else
  ring_Step_j168 a335 a326 a326.V v422
noncomputable def ring_Step_j174 (a326:api_Hand) (v425:Bool) (v426:List Int) (v427:Int):Option ((List Int)×api_Hand×Int) :=
 if v425=true then
  ring_Step_j83 a326 a326.Pc a326.V a326.T a326.B a326.Won 1 v426 v427
 else
  ring_Step_j83 a326 a326.Pc a326.V a326.T a326.B a326.Won 4 v426 v427
noncomputable def ring_Step_j176 (a326:api_Hand) (v428:Bool) (v429:List Int) (v430:Int):Option ((List Int)×api_Hand×Int) :=
 ring_Step_j174 a326 v428 v429 v430
noncomputable def ring_Step_j177 (a335:List Int) (a326:api_Hand) (x431:List Int) (x432:Bool) (x433:Int) (v434:Int):Option ((List Int)×api_Hand×Int) :=
 if (x433==0)=true then
  ring_Step_j176 a326 x432 x431 v434
 else
  ring_Step_j176 a326 x432 ([]++a335) v434
noncomputable def ring_Step_j171 (a335:List Int) (a343:api_Deque) (a326:api_Hand) (v435:Int):Option ((List Int)×api_Hand×Int) :=
 if (decide (a326.T≥0))=true then
  (cell_Cas ([]++a335) (pring_actor_top (ring_actor.mk (api_Hand.mk a326.Kind a326.Pc a326.V a326.T a326.B a326.Won 4) ([]++a335) a343 v435)) a326.T (IntKind.i64.wrap (a326.T+1))).bind fun(x431,x432,x433) =>
  if (!(x433==0))=true then
   ring_Step_j177 a335 a326 x431 x432 x433 9
  else
   ring_Step_j177 a335 a326 x431 x432 x433 v435
 else
  ring_Step_j174 a326 false ([]++a335) v435
noncomputable def ring_Step (a335:List Int) (a343:api_Deque) (a326:api_Hand):Option ((List Int)×api_Hand×Int) :=
 if (((ring_Check a335 a343) != 0)||(!(ring_may a326)))=true then
  some ([],api_Hand.zero,1)
 else
  if (a326.State != 0)=true then
   some ([],api_Hand.zero,9)
  else
   if few ([]++a335).length then
    letO (ring_accesses a326.Kind) fun x436 =>
    if 0≤a326.Pc∧a326.Pc < (x436.length:Int) then
     if (gt x436 a326.Pc)=152 then
      (cell_Load ([]++a335) (pring_actor_top (ring_actor.mk a326 ([]++a335) a343 0))).bind fun(x336,x437) =>
      if (!(x437==0))=true then
       ring_Step_j88 a335 a326 x336 9
      else
       ring_Step_j88 a335 a326 x336 0
     else
      if (gt x436 a326.Pc)=153 then
       (cell_Load ([]++a335) (pring_actor_bottom (ring_actor.mk a326 ([]++a335) a343 0))).bind fun(x339,x438) =>
       if (!(x438==0))=true then
        ring_Step_j94 a335 a343 a326 x339 9
       else
        ring_Step_j94 a335 a343 a326 x339 0
      else
       if (gt x436 a326.Pc)=154 then
        if (!(decide (a326.B≥0)))=true then
         ring_Step_j97 a335 a343 a326 9
        else
         ring_Step_j97 a335 a343 a326 0
       else
        if (gt x436 a326.Pc)=155 then
         if (!(decide (a326.B≥0)))=true then
          ring_Step_j104 a335 a343 a326 9
         else
          ring_Step_j104 a335 a343 a326 0
        else
         if (gt x436 a326.Pc)=156 then
          (cell_Load ([]++a335) (pring_actor_bottom (ring_actor.mk a326 ([]++a335) a343 0))).bind fun(x362,x439) =>
          if (!(x439==0))=true then
           ring_Step_j115 a335 a326 x362 9
          else
           ring_Step_j115 a335 a326 x362 0
         else
          if (gt x436 a326.Pc)=157 then
           if (!(decide (a326.B≥0)))=true then
            ring_Step_j117 a335 a343 a326 9
           else
            ring_Step_j117 a335 a343 a326 0
          else
           if (gt x436 a326.Pc)=158 then
            (cell_Load ([]++a335) (pring_actor_top (ring_actor.mk a326 ([]++a335) a343 0))).bind fun(x374,x440) =>
            if (!(x440==0))=true then
             ring_Step_j128 a335 a326 x374 9
            else
             ring_Step_j128 a335 a326 x374 0
           else
            if (gt x436 a326.Pc)=159 then
             if (!(decide (a326.T≥0)))=true then
              ring_Step_j130 a335 a343 a326 9
             else
              ring_Step_j130 a335 a343 a326 0
            else
             if (gt x436 a326.Pc)=160 then
              if (!(decide (a326.B≥0)))=true then
               ring_Step_j137 a335 a343 a326 9
              else
               ring_Step_j137 a335 a343 a326 0
             else
              if (gt x436 a326.Pc)=161 then
               if (!(decide (a326.T≥0)))=true then
                ring_Step_j144 a335 a343 a326 9
               else
                ring_Step_j144 a335 a343 a326 0
              else
               if (gt x436 a326.Pc)=162 then
                if (!(decide (a326.T≥0)))=true then
                 ring_Step_j151 a335 a343 a326 9
                else
                 ring_Step_j151 a335 a343 a326 0
               else
                if (gt x436 a326.Pc)=163 then
                 (cell_Load ([]++a335) (pring_actor_bottom (ring_actor.mk a326 ([]++a335) a343 0))).bind fun(x413,x441) =>
                 if (!(x441==0))=true then
                  ring_Step_j162 a335 a326 x413 9
                 else
                  ring_Step_j162 a335 a326 x413 0
                else
                 if (gt x436 a326.Pc)=164 then
                  if (!(decide (a326.T≥0)))=true then
                   ring_Step_j165 a335 a343 a326 9
                  else
                   ring_Step_j165 a335 a343 a326 0
                 else
                  if (gt x436 a326.Pc)=165 then
                   if (!(decide (a326.T≥0)))=true then
                    ring_Step_j171 a335 a343 a326 9
                   else
                    ring_Step_j171 a335 a343 a326 0
                  else
                   none
    else none
   else none
noncomputable def crew_hand (a442:api_Hand):Option Bool :=
 if 0≤(3:Int)∧(3:Int)≤(3:Int)∧(3:Int)≤549755813888 then
  (ring_Step (List.replicate (Int.toNat 3) (0:Int)) (api_Deque.mk 0 1) a442).bind fun(x443,x444,x445) =>
  some ((api_Hand.beq a442 api_Hand.zero)||((x445 != 1)&&(a442.State==0)))
 else none
noncomputable def slot_Find (a446:api_Places) (a447:Int):Option (Int×Int) :=
 (slot_Check a446).bind fun x448 =>
 if ((x448 != 0)||(decide (a447 < 0)))=true then
  some (0,1)
 else
  if (decide ((IntKind.i64.wrap (BitVec.ofInt IntKind.i64.bits a447 &&& BitVec.ofInt IntKind.i64.bits 255).toNat)≥(a446.Gen.length:Int)))=true then
   some (0,5)
  else
   if 0≤(IntKind.i64.wrap (BitVec.ofInt IntKind.i64.bits a447 &&& BitVec.ofInt IntKind.i64.bits 255).toNat)∧(IntKind.i64.wrap (BitVec.ofInt IntKind.i64.bits a447 &&& BitVec.ofInt IntKind.i64.bits 255).toNat) < (a446.Gen.length:Int) then
    if (decide ((IntKind.i64.wrap (Int.tdiv a447 256)) > (gt a446.Gen (IntKind.i64.wrap (BitVec.ofInt IntKind.i64.bits a447 &&& BitVec.ofInt IntKind.i64.bits 255).toNat))))=true then
     some (0,5)
    else
     if 0≤(IntKind.i64.wrap (BitVec.ofInt IntKind.i64.bits a447 &&& BitVec.ofInt IntKind.i64.bits 255).toNat)∧(IntKind.i64.wrap (BitVec.ofInt IntKind.i64.bits a447 &&& BitVec.ofInt IntKind.i64.bits 255).toNat) < (a446.Gen.length:Int) then
      if (decide ((IntKind.i64.wrap (Int.tdiv a447 256)) < (gt a446.Gen (IntKind.i64.wrap (BitVec.ofInt IntKind.i64.bits a447 &&& BitVec.ofInt IntKind.i64.bits 255).toNat))))=true then
       some (0,8)
      else
       if 0≤(IntKind.i64.wrap (BitVec.ofInt IntKind.i64.bits a447 &&& BitVec.ofInt IntKind.i64.bits 255).toNat)∧(IntKind.i64.wrap (BitVec.ofInt IntKind.i64.bits a447 &&& BitVec.ofInt IntKind.i64.bits 255).toNat) < (a446.Live.length:Int) then
        if (!(gt a446.Live (IntKind.i64.wrap (BitVec.ofInt IntKind.i64.bits a447 &&& BitVec.ofInt IntKind.i64.bits 255).toNat)))=true then
         some (0,5)
        else
         some (IntKind.i64.wrap (BitVec.ofInt IntKind.i64.bits a447 &&& BitVec.ofInt IntKind.i64.bits 255).toNat,0)
       else none
     else none
   else none
noncomputable def crew_checker_holds (a449:crew_checker) (a450:Int) (a451:Int):Option Bool :=
 if (a450==(-1))=true then
  some true
 else
  (slot_Find a449.w.Ids a450).bind fun(x452,x453) =>
  if (x453==0)=true then
   if 0≤x452∧x452 < (a449.w.T.length:Int) then
    some (((gt a449.w.T x452).State)==a451)
   else none
  else
   some false
noncomputable def crew_checker_worker_j12 (a454:crew_checker) (a455:Int) (b456:Bool):Option Bool :=
 if b456=true then
  some false
 else
  (crew_checker_holds a454 ((gt a454.w.W a455).Kid) 1).bind fun x457 =>
  if (!x457)=true then
   some false
  else
   some (((mget (mput (mput (mput (mput [] 5 1) 7 2) 8 2) 9 3) ((gt a454.w.W a455).Do)).getD 0)==(gt a454.w.Idle.Is a455))
noncomputable def crew_checker_worker_j11 (a454:crew_checker) (a455:Int) (v458:Int):Option Bool :=
 if (decide (v458≥0))=true then
  some false
 else
  if ((!(crew_within ((gt a454.w.W a455).Left) 0 a454.c.Budget))||(!(crew_within ((gt a454.w.W a455).Spill) 0 a454.c.Cap)))=true then
   crew_checker_worker_j12 a454 a455 true
  else
   (crew_checker_holds a454 ((gt a454.w.W a455).Task) 2).bind fun x459 =>
   crew_checker_worker_j12 a454 a455 (!x459)
noncomputable def crew_checker_worker_s13 (a454:crew_checker) (a455:Int):(Int)→Option ((Int) ⊕ (Bool))
 | v460 =>
  if (decide (v460 < (((gt a454.w.W a455).Ask).length:Int)))=true then
   if 0≤v460∧v460 < (((gt a454.w.W a455).Ask).length:Int) then
    if (!(crew_within (gt ((gt a454.w.W a455).Ask) v460) 0 (IntKind.i64.wrap (a454.c.Workers - 1))))=true then
     inrO (
      crew_checker_worker_j11 a454 a455 v460)
    else
     nextO (IntKind.i64.wrap (v460+1))
   else none
  else
   inrO (
    crew_checker_worker_j11 a454 a455 (-1))
noncomputable def crew_checker_worker_j7 (a454:crew_checker) (a455:Int) (b461:Bool):Option Bool :=
 if ((b461||(!(crew_within ((gt a454.w.W a455).At) 0 a454.c.Workers)))||(decide ((((gt a454.w.W a455).Ask).length:Int) > 64)))=true then
  some false
 else
  whileO (crew_checker_worker_s13 a454 a455) 0
noncomputable def crew_checker_worker (a454:crew_checker) (a455:Int):Option Bool :=
 if 0≤a455∧a455 < (a454.w.W.length:Int) then
  if 0≤a455∧a455 < (a454.w.Idle.Is.length:Int) then
   if (!(crew_within ((gt a454.w.W a455).Do) 0 13))=true then
    crew_checker_worker_j7 a454 a455 true
   else
    (crew_hand ((gt a454.w.W a455).Hand)).bind fun x462 =>
    crew_checker_worker_j7 a454 a455 (!x462)
  else none
 else none
noncomputable def crew_Check_s8 (a463:api_World) (v464:Int):(Int×(List (Int×Bool)))→Option ((Int×(List (Int×Bool))) ⊕ ((Int×(List (Int×Bool))) ⊕ (Int)))
 | (v465,v466) =>
  if (decide (v465 < 2))=true then
   if 0≤v465∧v465 < (2:Int) then
    if ((mget v466 (if v465=0 then (gt a463.W v464).Task else (gt a463.W v464).Kid)).getD false)=true then
     inrO (
      inrO (
       some 1))
    else
     nextO (IntKind.i64.wrap (v465+1),mput v466 (if v465=0 then (gt a463.W v464).Task else (gt a463.W v464).Kid) ((if v465=0 then (gt a463.W v464).Task else (gt a463.W v464).Kid) != (-1)))
   else none
  else
   inrO (
    nextO (IntKind.i64.wrap (v464+1),v466))
noncomputable def crew_Check_s7 (a467:api_Config) (a463:api_World):(Int×(List (Int×Bool)))→Option ((Int×(List (Int×Bool))) ⊕ (Int))
 | (v464,v468) =>
  if (decide (v464 < (a463.W.length:Int)))=true then
   if 0≤v464∧v464 < (a463.W.length:Int) then
    (crew_checker_worker (crew_checker.mk a467 a463) v464).bind fun x469 =>
    if (!x469)=true then
     inrO (
      some 1)
    else
     whileO (crew_Check_s8 a463 v464) (0,v468)
   else none
  else
   inrO (
    some 0)
noncomputable def crew_Check_s4 (a467:api_Config) (a463:api_World):(Int)→Option ((Int) ⊕ (Int))
 | v470 =>
  if (decide (v470 < (a463.Ten.length:Int)))=true then
   (crew_checker_list (crew_checker.mk a467 a463) v470).bind fun x471 =>
   if (!x471)=true then
    inrO (
     some 1)
   else
    nextO (IntKind.i64.wrap (v470+1))
  else
   inrO (
    whileO (crew_Check_s7 a467 a463) (0,[]))
noncomputable def crew_Check_s2 (a467:api_Config) (a463:api_World):(Int)→Option ((Int) ⊕ (Int))
 | v472 =>
  if (decide (v472 < (a463.T.length:Int)))=true then
   (crew_checker_task (crew_checker.mk a467 a463) v472).bind fun x473 =>
   if (!x473)=true then
    inrO (
     some 1)
   else
    nextO (IntKind.i64.wrap (v472+1))
  else
   inrO (
    whileO (crew_Check_s4 a467 a463) 0)
noncomputable def crew_Check (a467:api_Config) (a463:api_World):Option Int :=
 (crew_checker_parts (crew_checker.mk a467 a463)).bind fun x474 =>
 if (!x474)=true then
  some 1
 else
  whileO (crew_Check_s2 a467 a463) 0
def step_Left_1 (a488:api_Instr):Bool :=
 (a488.Op==9)
noncomputable def slices_IndexFunc_api_Instr_api_Instr_137_s1 (a489:List api_Instr):(Int)→Option ((Int) ⊕ (Int))
 | v490 =>
  if (decide (v490 < (a489.length:Int)))=true then
   if 0≤v490∧v490 < (a489.length:Int) then
    if (step_Left_1 (gt a489 v490))=true then
     inrO (
      some v490)
    else
     nextO (IntKind.i64.wrap (v490+1))
   else none
  else
   inrO (
    some (-1))
noncomputable def slices_IndexFunc_api_Instr_api_Instr_137 (a489:List api_Instr):Option Int :=
 whileO (slices_IndexFunc_api_Instr_api_Instr_137_s1 a489) 0
noncomputable def slices_ContainsFunc_api_Instr_api_Instr_137 (a491:List api_Instr):Option Bool :=
 (slices_IndexFunc_api_Instr_api_Instr_137 a491).bind fun x492 =>
 some (decide (x492≥0))
noncomputable def step_Left (a493:api_Task) (a494:List api_Instr):Option (Int×Int) :=
 (step_Next a493 a494).bind fun(x495,x496) =>
 if (x496 != 0)=true then
  some (0,x496)
 else
  if (a493.Pc==(a494.length:Int))=true then
   some (0,0)
  else
   if 0≤a493.Pc∧a493.Pc≤(a494.length:Int) then
    (slices_ContainsFunc_api_Instr_api_Instr_137 (sub a494 0 a493.Pc)).bind fun x497 =>
    if x497=true then
     some (0,0)
    else
     if 0≤a493.Pc∧a493.Pc≤(a494.length:Int) then
      (code_Units (sub a494 a493.Pc (a494.length:Int))).bind fun(x498,x499) =>
      if (x499 != 0)=true then
       some (0,x499)
      else
       some (IntKind.i64.wrap (x498 - a493.Unit),0)
     else none
   else none
noncomputable def drain_Work_j20 (v500:Int) (v501:Int) (x502:Int) (v503:Int) (v504:List (Int×Int)):Option ((Int×Int×(List (Int×Int))) ⊕ (Int×Int)) :=
 nextO ((if 1099511627777 < (IntKind.i64.wrap ((IntKind.i64.wrap (v500+(IntKind.i64.wrap (x502+1))))+v503)) then 1099511627777 else IntKind.i64.wrap ((IntKind.i64.wrap (v500+(IntKind.i64.wrap (x502+1))))+v503)),IntKind.i64.wrap (v501+1),v504)
noncomputable def drain_Work_s21 (a505:api_Config) (a506:api_World) (v500:Int) (v501:Int) (x502:Int):(Int×Int×(List (Int×Int)))→Option ((Int×Int×(List (Int×Int))) ⊕ ((Int×Int×(List (Int×Int))) ⊕ (Int×Int)))
 | (v507,v508,v509) =>
  if (decide (v508 < ((sub (gt a505.Progs ((gt a506.T v501).Prog)) ((gt a506.T v501).Pc) ((gt a505.Progs ((gt a506.T v501).Prog)).length:Int)).length:Int)))=true then
   if 0≤v508∧v508 < ((sub (gt a505.Progs ((gt a506.T v501).Prog)) ((gt a506.T v501).Pc) ((gt a505.Progs ((gt a506.T v501).Prog)).length:Int)).length:Int) then
    if (((gt (sub (gt a505.Progs ((gt a506.T v501).Prog)) ((gt a506.T v501).Pc) ((gt a505.Progs ((gt a506.T v501).Prog)).length:Int)) v508).Op)==9)=true then
     inrO (
      drain_Work_j20 v500 v501 x502 v507 v509)
    else
     if (((gt (sub (gt a505.Progs ((gt a506.T v501).Prog)) ((gt a506.T v501).Pc) ((gt a505.Progs ((gt a506.T v501).Prog)).length:Int)) v508).Op)==2)=true then
      (drain_measure_full 1000 a505.Progs ((gt (sub (gt a505.Progs ((gt a506.T v501).Prog)) ((gt a506.T v501).Pc) ((gt a505.Progs ((gt a506.T v501).Prog)).length:Int)) v508).A) v509).bind fun(x510,m511) =>
      nextO ((if 1099511627777 < (IntKind.i64.wrap (v507+x510)) then 1099511627777 else IntKind.i64.wrap (v507+x510)),IntKind.i64.wrap (v508+1),m511)
     else
      nextO (v507,IntKind.i64.wrap (v508+1),v509)
   else none
  else
   inrO (
    drain_Work_j20 v500 v501 x502 v507 v509)
noncomputable def drain_Work_j18 (a505:api_Config) (a506:api_World) (v500:Int) (v501:Int) (v512:Int) (v513:List (Int×Int)):Option ((Int×Int×(List (Int×Int))) ⊕ (Int×Int)) :=
 if (v512 != 0)=true then
  inrO (
   some (0,v512))
 else
  if 0≤((gt a506.T v501).Prog)∧((gt a506.T v501).Prog) < (a505.Progs.length:Int) then
   (step_Left (gt a506.T v501) (gt a505.Progs ((gt a506.T v501).Prog))).bind fun(x502,x514) =>
   if (x514 != 0)=true then
    inrO (
     some (0,x514))
   else
    if (decide (x502 > 0))=true then
     if 0≤((gt a506.T v501).Prog)∧((gt a506.T v501).Prog) < (a505.Progs.length:Int) then
      if 0≤((gt a506.T v501).Pc)∧((gt a506.T v501).Pc)≤((gt a505.Progs ((gt a506.T v501).Prog)).length:Int) then
       whileO (drain_Work_s21 a505 a506 v500 v501 x502) (0,0,v513)
      else none
     else none
    else
     nextO ((if 1099511627777 < (IntKind.i64.wrap (v500+(IntKind.i64.wrap (x502+1)))) then 1099511627777 else IntKind.i64.wrap (v500+(IntKind.i64.wrap (x502+1)))),IntKind.i64.wrap (v501+1),v513)
  else none
noncomputable def drain_Work_s17 (a505:api_Config) (a506:api_World):(Int×Int×(List (Int×Int)))→Option ((Int×Int×(List (Int×Int))) ⊕ (Int×Int))
 | (v500,v501,v515) =>
  if (decide (v501 < (a506.Ids.Live.length:Int)))=true then
   if 0≤v501∧v501 < (a506.Ids.Live.length:Int) then
    if (!(gt a506.Ids.Live v501))=true then
     nextO (v500,IntKind.i64.wrap (v501+1),v515)
    else
     if 0≤v501∧v501 < (a506.T.length:Int) then
      (code_Tasks a505.Progs ((gt a506.T v501).Prog)).bind fun(x516,x517) =>
      if (x517 != 0)=true then
       drain_Work_j18 a505 a506 v500 v501 x517 v515
      else
       (drain_measure_full 1000 a505.Progs ((gt a506.T v501).Prog) v515).bind fun(x518,m519) =>
       if (decide (x518 > 1099511627776))=true then
        drain_Work_j18 a505 a506 v500 v501 4 m519
       else
        drain_Work_j18 a505 a506 v500 v501 0 m519
     else none
   else none
  else
   inrO (
    if (decide (v500 > 1099511627776))=true then
     some (0,4)
    else
     some (v500,0))
noncomputable def drain_Work (a505:api_Config) (a506:api_World):Option (Int×Int) :=
 (crew_Check a505 a506).bind fun x520 =>
 if (x520 != 0)=true then
  some (0,x520)
 else
  whileO (drain_Work_s17 a505 a506) (0,0,[])
def r19_in (a521:Int) (a522:Int) (a523:Int):Bool :=
 ((decide (a521≥a522))&&(decide (a521≤a523)))
def r14_in (a524:Int) (a525:Int) (a526:Int):Bool :=
 ((decide (a524≥a525))&&(decide (a524≤a526)))
noncomputable def r14_Check_s1 (a527:List api_Tenant):(Int)→Option ((Int) ⊕ (Int))
 | v528 =>
  if (decide (v528 < (a527.length:Int)))=true then
   if 0≤v528∧v528 < (a527.length:Int) then
    if ((((((!(r14_in ((gt a527 v528).Weight) 1 16))||(!(r14_in ((gt a527 v528).Quota) 0 256)))||(decide (((gt a527 v528).Live) < 0)))||(decide (((gt a527 v528).Live) > ((gt a527 v528).Quota))))||(!(r14_in ((gt a527 v528).Tag) 0 1152921504606846976)))||(!(r14_in ((gt a527 v528).Ran) 0 1099511627776)))=true then
     inrO (
      some 1)
    else
     nextO (IntKind.i64.wrap (v528+1))
   else none
  else
   inrO (
    some 0)
noncomputable def r14_Check (a527:List api_Tenant):Option Int :=
 if ((decide ((a527.length:Int) < 1))||(decide ((a527.length:Int) > 16)))=true then
  some 1
 else
  whileO (r14_Check_s1 a527) 0
noncomputable def r14_New_s2 (a529:List Int) (a530:List Int):((List api_Tenant)×Int)→Option (((List api_Tenant)×Int) ⊕ ((List api_Tenant)×Int))
 | (v531,v532) =>
  if (decide (v532 < (a529.length:Int)))=true then
   if 0≤v532∧v532 < (a529.length:Int) then
    if 0≤v532∧v532 < (a530.length:Int) then
     if few (v531++[(api_Tenant.mk (gt a529 v532) (gt a530 v532) 0 0 0)]).length then
      nextO (v531++[(api_Tenant.mk (gt a529 v532) (gt a530 v532) 0 0 0)],IntKind.i64.wrap (v532+1))
     else none
    else none
   else none
  else
   inrO (
    (r14_Check v531).bind fun x533 =>
    if (x533 != 0)=true then
     some ([],1)
    else
     some (v531,0))
noncomputable def r14_New (a529:List Int) (a530:List Int):Option ((List api_Tenant)×Int) :=
 if ((a529.length:Int) != (a530.length:Int))=true then
  some ([],1)
 else
  whileO (r14_New_s2 a529 a530) ([],0)
def r10_New (a534:Int):api_Sem×Int :=
 if ((decide (a534 < 0))||(decide (a534 > 1000)))=true then
  (api_Sem.zero,1)
 else
  ((api_Sem.mk a534 []),0)
noncomputable def r19_Config_s6 (a535:api_Config) (v536:Int):(Int)→Option ((Int) ⊕ ((Int) ⊕ (Int)))
 | v537 =>
  if (decide (v537 < ((gt a535.Progs v536).length:Int)))=true then
   if 0≤v537∧v537 < ((gt a535.Progs v536).length:Int) then
    if (((((gt (gt a535.Progs v536) v537).Op)==5)&&(decide (((gt (gt a535.Progs v536) v537).A)≥a535.Fds)))||(((((gt (gt a535.Progs v536) v537).Op)==7)||(((gt (gt a535.Progs v536) v537).Op)==8))&&(decide (((gt (gt a535.Progs v536) v537).A)≥(a535.Sems.length:Int)))))=true then
     inrO (
      inrO (
       some 1))
    else
     nextO (IntKind.i64.wrap (v537+1))
   else none
  else
   inrO (
    nextO (IntKind.i64.wrap (v536+1)))
noncomputable def r19_Config_s5 (a535:api_Config):(Int)→Option ((Int) ⊕ (Int))
 | v536 =>
  if (decide (v536 < (a535.Progs.length:Int)))=true then
   if 0≤v536∧v536 < (a535.Progs.length:Int) then
    whileO (r19_Config_s6 a535 v536) 0
   else none
  else
   inrO (
    some 0)
noncomputable def r19_Config_s2 (a535:api_Config):(Int)→Option ((Int) ⊕ (Int))
 | v538 =>
  if (decide (v538 < (a535.Sems.length:Int)))=true then
   if 0≤v538∧v538 < (a535.Sems.length:Int) then
    letO (r10_New (gt a535.Sems v538)) fun(x539,x540) =>
    if (x540 != 0)=true then
     inrO (
      some 1)
    else
     nextO (IntKind.i64.wrap (v538+1))
   else none
  else
   inrO (
    whileO (r19_Config_s5 a535) 0)
noncomputable def r19_Config (a535:api_Config):Option Int :=
 if (((((((!(r19_in a535.Workers 1 64))||(!(r19_in a535.Cap 1 1024)))||(decide ((IntKind.i64.wrap (a535.Workers*(IntKind.i64.wrap (a535.Cap+2)))) > 65536)))||(!(r19_in a535.Budget 1 100)))||(!(r19_in a535.Tasks 1 256)))||(!(r19_in a535.Fds 0 16)))||(decide ((a535.Sems.length:Int) > 8)))=true then
  some 1
 else
  (r14_New a535.Weights a535.Quotas).bind fun(x541,x542) =>
  if (x542 != 0)=true then
   some 1
  else
   (r04_CheckAll a535.Progs).bind fun x543 =>
   if (x543 != 0)=true then
    some 1
   else
    whileO (r19_Config_s2 a535) 0
def r03_Check (a544:api_Dice):Int :=
 if ((decide (a544.At < 0))||(decide (a544.At > (a544.L.length:Int))))=true then
  1
 else
  0
noncomputable def r05_Check_s1 (a545:api_Places):(Int)→Option ((Int) ⊕ (Int))
 | v546 =>
  if (decide (v546 < (a545.Gen.length:Int)))=true then
   if 0≤v546∧v546 < (a545.Gen.length:Int) then
    if ((decide ((gt a545.Gen v546) < 0))||(decide ((gt a545.Gen v546) > 1099511627776)))=true then
     inrO (
      some 1)
    else
     if 0≤v546∧v546 < (a545.Live.length:Int) then
      if ((gt a545.Live v546)&&((gt a545.Gen v546)==1099511627776))=true then
       inrO (
        some 1)
      else
       nextO (IntKind.i64.wrap (v546+1))
     else none
   else none
  else
   inrO (
    some 0)
noncomputable def r05_Check (a545:api_Places):Option Int :=
 if (((decide ((a545.Gen.length:Int) < 1))||(decide ((a545.Gen.length:Int) > 256)))||((a545.Live.length:Int) != (a545.Gen.length:Int)))=true then
  some 1
 else
  whileO (r05_Check_s1 a545) 0
def r12_state (a547:Int):Bool :=
 ((decide (a547≥1))&&(decide (a547≤7)))
noncomputable def r12_Check_s1 (a548:api_Task):(Int)→Option ((Int) ⊕ (Int))
 | v549 =>
  if (decide (v549 < 4))=true then
   if 0≤v549∧v549 < (4:Int) then
    if (decide ((if v549=0 then a548.Keeps.a0 else (if v549=1 then a548.Keeps.a1 else (if v549=2 then a548.Keeps.a2 else a548.Keeps.a3))) < (-1)))=true then
     inrO (
      some 1)
    else
     nextO (IntKind.i64.wrap (v549+1))
   else none
  else
   inrO (
    some 0)
noncomputable def r12_Check (a548:api_Task):Option Int :=
 if ((((((((((((decide (a548.Id < 0))||(decide (a548.Tenant < 0)))||(decide (a548.Tenant > 15)))||(decide (a548.Prog < 0)))||(decide (a548.Prog > 15)))||(decide (a548.Pc < 0)))||(decide (a548.Pc > 32)))||(decide (a548.Unit < 0)))||(decide (a548.Unit > 99)))||(!(r12_state a548.State)))||(decide (a548.Ran < 0)))||(decide (a548.Ran > 1099511627776)))=true then
  some 1
 else
  whileO (r12_Check_s1 a548) 0
noncomputable def r13_Fits_j1 (a550:api_Task) (a551:List api_Instr) (b552:Bool):Option Bool :=
 if (b552||(decide (a550.Pc > (a551.length:Int))))=true then
  some false
 else
  if (a550.Unit==0)=true then
   some true
  else
   if (decide (a550.Pc < (a551.length:Int)))=true then
    if 0≤a550.Pc∧a550.Pc < (a551.length:Int) then
     if (((gt a551 a550.Pc).Op)==1)=true then
      if 0≤a550.Pc∧a550.Pc < (a551.length:Int) then
       some (decide (a550.Unit < ((gt a551 a550.Pc).A)))
      else none
     else
      some false
    else none
   else
    some false
noncomputable def r13_Fits (a550:api_Task) (a551:List api_Instr):Option Bool :=
 (r12_Check a550).bind fun x553 =>
 if (x553 != 0)=true then
  r13_Fits_j1 a550 a551 true
 else
  (r04_Check a551).bind fun x554 =>
  r13_Fits_j1 a550 a551 (x554 != 0)
noncomputable def r20_tasks_s1 (a555:api_Config) (a556:api_World):(Int)→Option ((Int) ⊕ (Bool))
 | v557 =>
  if (decide (v557 < (a556.T.length:Int)))=true then
   if 0≤v557∧v557 < (a556.T.length:Int) then
    if 0≤v557∧v557 < (a556.Ids.Live.length:Int) then
     if (!(gt a556.Ids.Live v557))=true then
      if (!(api_Task.beq (gt a556.T v557) api_Task.zero))=true then
       inrO (
        some false)
      else
       nextO (IntKind.i64.wrap (v557+1))
     else
      (r12_Check (gt a556.T v557)).bind fun x558 =>
      if (x558 != 0)=true then
       inrO (
        some false)
      else
       if (((gt a556.T v557).State)==7)=true then
        inrO (
         some false)
       else
        if 0≤v557∧v557 < (a556.Ids.Gen.length:Int) then
         if (((gt a556.T v557).Id) != (IntKind.i64.wrap ((IntKind.i64.wrap (256*(gt a556.Ids.Gen v557)))+v557)))=true then
          inrO (
           some false)
         else
          if (decide (((gt a556.T v557).Tenant)≥(a555.Weights.length:Int)))=true then
           inrO (
            some false)
          else
           if (decide (((gt a556.T v557).Prog)≥(a555.Progs.length:Int)))=true then
            inrO (
             some false)
           else
            if 0≤((gt a556.T v557).Prog)∧((gt a556.T v557).Prog) < (a555.Progs.length:Int) then
             (r13_Fits (gt a556.T v557) (gt a555.Progs ((gt a556.T v557).Prog))).bind fun x559 =>
             if (!x559)=true then
              inrO (
               some false)
             else
              nextO (IntKind.i64.wrap (v557+1))
            else none
        else none
    else none
   else none
  else
   inrO (
    some true)
noncomputable def r20_tasks (a555:api_Config) (a556:api_World):Option Bool :=
 (r05_Check a556.Ids).bind fun x560 =>
 if (((x560 != 0)||((a556.Ids.Gen.length:Int) != a555.Tasks))||((a556.T.length:Int) != a555.Tasks))=true then
  some false
 else
  whileO (r20_tasks_s1 a555 a556) 0
noncomputable def r06_Lists_s14 (a561:api_Chains) (v562:List (List Int)) (v563:Int):((List Bool)×Int×(List Int)×Int)→Option (((List Bool)×Int×(List Int)×Int) ⊕ (((List Bool)×(List (List Int))×Int) ⊕ ((List (List Int))×Bool)))
 | (v564,v565,v566,v567) =>
  if (v565 != (-1))=true then
   if ((decide (v565 < 0))||(decide (v565≥(a561.Next.length:Int))))=true then
    inrO (
     inrO (
      some ([],false)))
   else
    if 0≤v565∧v565 < (v564.length:Int) then
     if (gt v564 v565)=true then
      inrO (
       inrO (
        some ([],false)))
     else
      if 0≤v565∧v565 < (v564.length:Int) then
       if few (v566++[v565]).length then
        if 0≤v565∧v565 < (a561.Next.length:Int) then
         nextO (st v564 v565 true,(gt a561.Next v565),v566++[v565],v565)
        else none
       else none
      else none
    else none
  else
   inrO (
    if 0≤v563∧v563 < (a561.Tail.length:Int) then
     if ((gt a561.Tail v563) != v567)=true then
      inrO (
       some ([],false))
     else
      if few (v562++[v566]).length then
       nextO (v564,v562++[v566],IntKind.i64.wrap (v563+1))
      else none
    else none)
noncomputable def r06_Lists_s15 (a561:api_Chains) (v568:List Bool) (v562:List (List Int)):(Int)→Option ((Int) ⊕ ((List (List Int))×Bool))
 | v569 =>
  if (decide (v569 < (v568.length:Int)))=true then
   if 0≤v569∧v569 < (v568.length:Int) then
    if (!(gt v568 v569))=true then
     if 0≤v569∧v569 < (a561.Next.length:Int) then
      if ((gt a561.Next v569) != (-2))=true then
       inrO (
        some ([],false))
      else
       nextO (IntKind.i64.wrap (v569+1))
     else none
    else
     nextO (IntKind.i64.wrap (v569+1))
   else none
  else
   inrO (
    some (v562,true))
noncomputable def r06_Lists_s12 (a561:api_Chains):((List Bool)×(List (List Int))×Int)→Option (((List Bool)×(List (List Int))×Int) ⊕ ((List (List Int))×Bool))
 | (v568,v562,v563) =>
  if (decide (v563 < (a561.Head.length:Int)))=true then
   if 0≤v563∧v563 < (a561.Head.length:Int) then
    whileO (r06_Lists_s14 a561 v562 v563) (v568,(gt a561.Head v563),[],-1)
   else none
  else
   inrO (
    whileO (r06_Lists_s15 a561 v568 v562) 0)
noncomputable def r06_Lists (a561:api_Chains):Option ((List (List Int))×Bool) :=
 if ((((decide ((a561.Next.length:Int) > 1024))||(decide ((a561.Head.length:Int) < 1)))||(decide ((a561.Head.length:Int) > 256)))||((a561.Tail.length:Int) != (a561.Head.length:Int)))=true then
  some ([],false)
 else
  if 0≤(a561.Next.length:Int)∧(a561.Next.length:Int)≤(a561.Next.length:Int)∧(a561.Next.length:Int)≤549755813888 then
   whileO (r06_Lists_s12 a561) (List.replicate (Int.toNat (a561.Next.length:Int)) false,[],0)
  else none
noncomputable def r20_lists_j13 (a570:api_World) (x571:List (List Int)) (v572:Int) (v573:Int) (b574:Bool):Option ((Int) ⊕ ((Int) ⊕ (Bool))) :=
 if b574=true then
  inrO (
   inrO (
    some false))
 else
  if 0≤(gt (gt x571 v572) v573)∧(gt (gt x571 v572) v573) < (a570.T.length:Int) then
   if (((gt a570.T (gt (gt x571 v572) v573)).Tenant) != v572)=true then
    inrO (
     inrO (
      some false))
   else
    nextO (IntKind.i64.wrap (v573+1))
  else none
noncomputable def r20_lists_s12 (a570:api_World) (x571:List (List Int)) (v572:Int):(Int)→Option ((Int) ⊕ ((Int) ⊕ (Bool)))
 | v573 =>
  if (decide (v573 < ((gt x571 v572).length:Int)))=true then
   if 0≤v573∧v573 < ((gt x571 v572).length:Int) then
    if 0≤(gt (gt x571 v572) v573)∧(gt (gt x571 v572) v573) < (a570.Ids.Live.length:Int) then
     if (!(gt a570.Ids.Live (gt (gt x571 v572) v573)))=true then
      r20_lists_j13 a570 x571 v572 v573 true
     else
      if 0≤(gt (gt x571 v572) v573)∧(gt (gt x571 v572) v573) < (a570.T.length:Int) then
       r20_lists_j13 a570 x571 v572 v573 (((gt a570.T (gt (gt x571 v572) v573)).State) != 1)
      else none
    else none
   else none
  else
   inrO (
    nextO (IntKind.i64.wrap (v572+1)))
noncomputable def r20_lists_s9 (a570:api_World) (x571:List (List Int)):(Int)→Option ((Int) ⊕ (Bool))
 | v572 =>
  if (decide (v572 < (x571.length:Int)))=true then
   if 0≤v572∧v572 < (x571.length:Int) then
    whileO (r20_lists_s12 a570 x571 v572) 0
   else none
  else
   inrO (
    some true)
noncomputable def r20_lists (a575:api_Config) (a570:api_World):Option Bool :=
 (r06_Lists a570.Lists).bind fun(x571,x576) =>
 if (((!x576)||((a570.Lists.Next.length:Int) != a575.Tasks))||((x571.length:Int) != (a575.Weights.length:Int)))=true then
  some false
 else
  whileO (r20_lists_s9 a570 x571) 0
def r08_may (a577:api_Timer):Bool :=
 (((decide (a577.At≥0))&&(decide (a577.At≤1125899906842624)))&&(decide (a577.Id≥0)))
def r08_Less (a578:api_Timer) (a579:api_Timer):Bool :=
 ((decide (a578.At < a579.At))||((a578.At==a579.At)&&(decide (a578.Id < a579.Id))))
noncomputable def r08_Check_s5 (a580:List api_Timer) (v581:Int):(Int)→Option ((Int) ⊕ ((Int) ⊕ (Int)))
 | v582 =>
  if (decide (v582 < ((sub a580 0 v581).length:Int)))=true then
   if 0≤v582∧v582 < ((sub a580 0 v581).length:Int) then
    if (((gt (sub a580 0 v581) v582).Id)==((gt a580 v581).Id))=true then
     inrO (
      inrO (
       some 1))
    else
     nextO (IntKind.i64.wrap (v582+1))
   else none
  else
   inrO (
    nextO (IntKind.i64.wrap (v581+1)))
noncomputable def r08_Check_s6 (a580:List api_Timer) (v581:Int):(Int)→Option ((Int) ⊕ ((Int) ⊕ (Int)))
 | v583 =>
  if (decide (v583 < ((sub a580 0 v581).length:Int)))=true then
   if 0≤v583∧v583 < ((sub a580 0 v581).length:Int) then
    if (((gt (sub a580 0 v581) v583).Id)==((gt a580 v581).Id))=true then
     inrO (
      inrO (
       some 1))
    else
     nextO (IntKind.i64.wrap (v583+1))
   else none
  else
   inrO (
    nextO (IntKind.i64.wrap (v581+1)))
noncomputable def r08_Check_s4 (a580:List api_Timer):(Int)→Option ((Int) ⊕ (Int))
 | v581 =>
  if (decide (v581 < (a580.length:Int)))=true then
   if 0≤v581∧v581 < (a580.length:Int) then
    if (!(r08_may (gt a580 v581)))=true then
     inrO (
      some 1)
    else
     if (decide (v581 > 0))=true then
      if 0≤(IntKind.i64.wrap (Int.tdiv (IntKind.i64.wrap (v581 - 1)) 4))∧(IntKind.i64.wrap (Int.tdiv (IntKind.i64.wrap (v581 - 1)) 4)) < (a580.length:Int) then
       if (r08_Less (gt a580 v581) (gt a580 (IntKind.i64.wrap (Int.tdiv (IntKind.i64.wrap (v581 - 1)) 4))))=true then
        inrO (
         some 1)
       else
        if 0≤v581∧v581≤(a580.length:Int) then
         whileO (r08_Check_s5 a580 v581) 0
        else none
      else none
     else
      if 0≤v581∧v581≤(a580.length:Int) then
       whileO (r08_Check_s6 a580 v581) 0
      else none
   else none
  else
   inrO (
    some 0)
noncomputable def r08_Check (a580:List api_Timer):Option Int :=
 if (decide ((a580.length:Int) > 256))=true then
  some 1
 else
  whileO (r08_Check_s4 a580) 0
noncomputable def r09_Check_s4 (a584:List api_Fd) (v585:Int):(Int)→Option ((Int) ⊕ ((Int) ⊕ (Int)))
 | v586 =>
  if (decide (v586 < ((sub a584 0 v585).length:Int)))=true then
   if 0≤v586∧v586 < ((sub a584 0 v585).length:Int) then
    if ((decide (((gt a584 v585).Who)≥0))&&(((gt (sub a584 0 v585) v586).Who)==((gt a584 v585).Who)))=true then
     inrO (
      inrO (
       some 1))
    else
     nextO (IntKind.i64.wrap (v586+1))
   else none
  else
   inrO (
    nextO (IntKind.i64.wrap (v585+1)))
noncomputable def r09_Check_s3 (a584:List api_Fd):(Int)→Option ((Int) ⊕ (Int))
 | v585 =>
  if (decide (v585 < (a584.length:Int)))=true then
   if 0≤v585∧v585 < (a584.length:Int) then
    if (((decide (((gt a584 v585).Who) < (-1)))||((!((gt a584 v585).Open))&&(((gt a584 v585).Ready)||(((gt a584 v585).Who) != (-1)))))||(((gt a584 v585).Ready)&&(((gt a584 v585).Who) != (-1))))=true then
     inrO (
      some 1)
    else
     if 0≤v585∧v585≤(a584.length:Int) then
      whileO (r09_Check_s4 a584 v585) 0
     else none
   else none
  else
   inrO (
    some 0)
noncomputable def r09_Check (a584:List api_Fd):Option Int :=
 if (decide ((a584.length:Int) > 16))=true then
  some 1
 else
  whileO (r09_Check_s3 a584) 0
noncomputable def r11_on_s1 (a587:List api_Join) (a588:Int):(Int)→Option ((Int) ⊕ (Int))
 | v589 =>
  if (decide (v589 < (a587.length:Int)))=true then
   if 0≤v589∧v589 < (a587.length:Int) then
    if (((gt a587 v589).Who)==a588)=true then
     inrO (
      some ((gt a587 v589).On))
    else
     nextO (IntKind.i64.wrap (v589+1))
   else none
  else
   inrO (
    some (-1))
noncomputable def r11_on (a587:List api_Join) (a588:Int):Option Int :=
 whileO (r11_on_s1 a587 a588) 0
noncomputable def r11_Way_s1 (a590:List api_Join):(Int×(List Int)×Int)→Option ((Int×(List Int)×Int) ⊕ (List Int))
 | (v591,v592,v593) =>
  if (decide (v593 < (IntKind.i64.wrap ((a590.length:Int)+1))))=true then
   (r11_on a590 v591).bind fun x594 =>
   if (decide (x594 < 0))=true then
    inrO (
     some v592)
   else
    if few (v592++[x594]).length then
     nextO (x594,v592++[x594],IntKind.i64.wrap (v593+1))
    else none
  else
   inrO (
    some v592)
noncomputable def r11_Way (a590:List api_Join) (a595:Int):Option (List Int) :=
 whileO (r11_Way_s1 a590) (a595,[],0)
noncomputable def r10_Has_s1 (a596:List Int) (a597:Int):(Int)→Option ((Int) ⊕ (Bool))
 | v598 =>
  if (decide (v598 < (a596.length:Int)))=true then
   if 0≤v598∧v598 < (a596.length:Int) then
    if ((gt a596 v598)==a597)=true then
     inrO (
      some true)
    else
     nextO (IntKind.i64.wrap (v598+1))
   else none
  else
   inrO (
    some false)
noncomputable def r10_Has (a596:List Int) (a597:Int):Option Bool :=
 whileO (r10_Has_s1 a596 a597) 0
noncomputable def r11_Check_s3 (a599:List api_Join):(Int)→Option ((Int) ⊕ (Int))
 | v600 =>
  if (decide (v600 < (a599.length:Int)))=true then
   if 0≤v600∧v600 < (a599.length:Int) then
    (r11_Way a599 ((gt a599 v600).Who)).bind fun x601 =>
    (r10_Has x601 ((gt a599 v600).Who)).bind fun x602 =>
    if x602=true then
     inrO (
      some 1)
    else
     nextO (IntKind.i64.wrap (v600+1))
   else none
  else
   inrO (
    some 0)
noncomputable def r11_Check_s2 (a599:List api_Join):(Int)→Option ((Int) ⊕ (Int))
 | v603 =>
  if (decide (v603 < (a599.length:Int)))=true then
   if 0≤v603∧v603 < (a599.length:Int) then
    if (decide (((gt a599 v603).On) < 0))=true then
     inrO (
      some 1)
    else
     if (decide (((gt a599 v603).Who) < 0))=true then
      inrO (
       some 1)
     else
      if 0≤v603∧v603≤(a599.length:Int) then
       (r11_on (sub a599 0 v603) ((gt a599 v603).Who)).bind fun x604 =>
       if (decide (x604≥0))=true then
        inrO (
         some 1)
       else
        nextO (IntKind.i64.wrap (v603+1))
      else none
   else none
  else
   inrO (
    whileO (r11_Check_s3 a599) 0)
noncomputable def r11_Check (a599:List api_Join):Option Int :=
 if (decide ((a599.length:Int) > 256))=true then
  some 1
 else
  whileO (r11_Check_s2 a599) 0
noncomputable def r17_many_s1 (a605:List Int) (a606:Int):(Int×Int)→Option ((Int×Int) ⊕ (Int))
 | (v607,v608) =>
  if (decide (v608 < (a605.length:Int)))=true then
   if 0≤v608∧v608 < (a605.length:Int) then
    if ((gt a605 v608)==a606)=true then
     nextO (IntKind.i64.wrap (v607+1),IntKind.i64.wrap (v608+1))
    else
     nextO (v607,IntKind.i64.wrap (v608+1))
   else none
  else
   inrO (
    some v607)
noncomputable def r17_many (a605:List Int) (a606:Int):Option Int :=
 whileO (r17_many_s1 a605 a606) (0,0)
noncomputable def r17_Fits (a609:List Int):Option Bool :=
 (r17_many a609 1).bind fun x610 =>
 (r17_many a609 3).bind fun x611 =>
 some (decide ((IntKind.i64.wrap (2*x610))≤(IntKind.i64.wrap ((IntKind.i64.wrap ((a609.length:Int) - x611))+1))))
noncomputable def r17_Check_s1 (a612:api_Idle):(Int)→Option ((Int) ⊕ (Int))
 | v613 =>
  if (decide (v613 < (a612.Is.length:Int)))=true then
   if 0≤v613∧v613 < (a612.Is.length:Int) then
    if ((decide ((gt a612.Is v613) < 0))||(decide ((gt a612.Is v613) > 3)))=true then
     inrO (
      some 1)
    else
     if (decide ((gt a612.Is v613)≥2))=true then
      (r17_many a612.Stack v613).bind fun x614 =>
      if (x614 != 1)=true then
       inrO (
        some 1)
      else
       nextO (IntKind.i64.wrap (v613+1))
     else
      nextO (IntKind.i64.wrap (v613+1))
   else none
  else
   inrO (
    some 0)
noncomputable def r17_Check (a612:api_Idle):Option Int :=
 if (decide ((a612.Is.length:Int) < 1))=true then
  some 1
 else
  if (decide ((a612.Is.length:Int) > 64))=true then
   some 1
  else
   (r17_Fits a612.Is).bind fun x615 =>
   if (!x615)=true then
    some 1
   else
    (r17_many a612.Is 2).bind fun x616 =>
    (r17_many a612.Is 3).bind fun x617 =>
    if ((a612.Stack.length:Int) != (IntKind.i64.wrap (x616+x617)))=true then
     some 1
    else
     whileO (r17_Check_s1 a612) 0
noncomputable def r10_Check_s1 (a618:api_Sem):(Int)→Option ((Int) ⊕ (Int))
 | v619 =>
  if (decide (v619 < (a618.Wait.length:Int)))=true then
   if 0≤v619∧v619 < (a618.Wait.length:Int) then
    if (decide ((gt a618.Wait v619) < 0))=true then
     inrO (
      some 1)
    else
     if 0≤v619∧v619≤(a618.Wait.length:Int) then
      (r10_Has (sub a618.Wait 0 v619) (gt a618.Wait v619)).bind fun x620 =>
      if x620=true then
       inrO (
        some 1)
      else
       nextO (IntKind.i64.wrap (v619+1))
     else none
   else none
  else
   inrO (
    some 0)
noncomputable def r10_Check (a618:api_Sem):Option Int :=
 if ((((decide (a618.Free < 0))||(decide (a618.Free > 1000)))||(decide ((a618.Wait.length:Int) > 256)))||((decide (a618.Free > 0))&&(decide ((a618.Wait.length:Int) > 0))))=true then
  some 1
 else
  whileO (r10_Check_s1 a618) 0
def r20_in (a621:Int) (a622:Int) (a623:Int):Bool :=
 ((decide (a621≥a622))&&(decide (a621≤a623)))
def r07_pcs (a624:Int):Int :=
 if ((a624==1)||(a624==3))=true then
  4
 else
  if (a624==2)=true then
   7
  else
   0
def r07_count (a625:Int) (a626:Int):Bool :=
 ((decide (a625≥a626))&&(decide (a625≤1099511627776)))
def r07_May (a627:api_Hand):Bool :=
 if (decide (a627.Pc≥0))=true then
  if (decide (a627.Pc < (r07_pcs a627.Kind)))=true then
   if (r07_count a627.T (-1))=true then
    if (r07_count a627.B (-1))=true then
     if (decide (a627.State≥0))=true then
      decide (a627.State≤4)
     else
      false
    else
     false
   else
    false
  else
   false
 else
  false
noncomputable def r05_Find (a628:api_Places) (a629:Int):Option (Int×Int) :=
 (r05_Check a628).bind fun x630 =>
 if ((x630 != 0)||(decide (a629 < 0)))=true then
  some (0,1)
 else
  if (decide ((Int.tmod a629 256)≥(a628.Gen.length:Int)))=true then
   some (0,5)
  else
   if 0≤(Int.tmod a629 256)∧(Int.tmod a629 256) < (a628.Gen.length:Int) then
    if (decide ((IntKind.i64.wrap (Int.tdiv a629 256)) > (gt a628.Gen (Int.tmod a629 256))))=true then
     some (0,5)
    else
     if 0≤(Int.tmod a629 256)∧(Int.tmod a629 256) < (a628.Gen.length:Int) then
      if (decide ((IntKind.i64.wrap (Int.tdiv a629 256)) < (gt a628.Gen (Int.tmod a629 256))))=true then
       some (0,8)
      else
       if 0≤(Int.tmod a629 256)∧(Int.tmod a629 256) < (a628.Live.length:Int) then
        if (!(gt a628.Live (Int.tmod a629 256)))=true then
         some (0,5)
        else
         some (Int.tmod a629 256,0)
       else none
     else none
   else none
noncomputable def r20_holds (a631:api_World) (a632:Int) (a633:Int):Option Bool :=
 if (a632==(-1))=true then
  some true
 else
  (r05_Find a631.Ids a632).bind fun(x634,x635) =>
  if (x635==0)=true then
   if 0≤x634∧x634 < (a631.T.length:Int) then
    some (((gt a631.T x634).State)==a633)
   else none
  else
   some false
noncomputable def r20_worker_j5 (a636:api_World) (a637:Int) (b638:Bool):Option Bool :=
 some (((b638&&(((gt a636.Idle.Is a637)==3)==(((gt a636.W a637).Do)==9)))&&(((gt a636.Idle.Is a637)==2)==((((gt a636.W a637).Do)==7)||(((gt a636.W a637).Do)==8))))&&(((gt a636.Idle.Is a637)==1)==(((gt a636.W a637).Do)==5)))
noncomputable def r20_worker_s4 (a636:api_World) (a637:Int):(Int)→Option ((Int) ⊕ (Bool))
 | v639 =>
  if (decide (v639 < (a636.W.length:Int)))=true then
   if 0≤v639∧v639 < (a636.W.length:Int) then
    if (((decide (((gt a636.W a637).Task)≥0))&&(((v639 != a637)&&(((gt a636.W v639).Task)==((gt a636.W a637).Task)))||(((gt a636.W v639).Kid)==((gt a636.W a637).Task))))||(((decide (((gt a636.W a637).Kid)≥0))&&(v639 != a637))&&(((gt a636.W v639).Kid)==((gt a636.W a637).Kid))))=true then
     inrO (
      some false)
    else
     nextO (IntKind.i64.wrap (v639+1))
   else none
  else
   inrO (
    (r20_holds a636 ((gt a636.W a637).Task) 2).bind fun x640 =>
    if x640=true then
     (r20_holds a636 ((gt a636.W a637).Kid) 1).bind fun x641 =>
     r20_worker_j5 a636 a637 x641
    else
     r20_worker_j5 a636 a637 false)
noncomputable def r20_worker_s2 (a642:api_Config) (a636:api_World) (a637:Int):(Int)→Option ((Int) ⊕ (Bool))
 | v643 =>
  if (decide (v643 < (((gt a636.W a637).Ask).length:Int)))=true then
   if 0≤v643∧v643 < (((gt a636.W a637).Ask).length:Int) then
    if (!(r20_in (gt ((gt a636.W a637).Ask) v643) 0 (IntKind.i64.wrap (a642.Workers - 1))))=true then
     inrO (
      some false)
    else
     nextO (IntKind.i64.wrap (v643+1))
   else none
  else
   inrO (
    whileO (r20_worker_s4 a636 a637) 0)
noncomputable def r20_worker (a642:api_Config) (a636:api_World) (a637:Int):Option Bool :=
 if 0≤a637∧a637 < (a636.W.length:Int) then
  if 0≤a637∧a637 < (a636.Idle.Is.length:Int) then
   if ((((((!(r20_in ((gt a636.W a637).Do) 0 13))||((!(api_Hand.beq ((gt a636.W a637).Hand) api_Hand.zero))&&((!(r07_May ((gt a636.W a637).Hand)))||(((gt a636.W a637).Hand.State) != 0))))||(!(r20_in ((gt a636.W a637).At) 0 a642.Workers)))||(decide ((((gt a636.W a637).Ask).length:Int) > 64)))||(!(r20_in ((gt a636.W a637).Left) 0 a642.Budget)))||(!(r20_in ((gt a636.W a637).Spill) 0 a642.Cap)))=true then
    some false
   else
    whileO (r20_worker_s2 a642 a636 a637) 0
  else none
 else none
noncomputable def r20_Check_s9 (a644:api_Config) (a645:api_World):(Int)→Option ((Int) ⊕ (Int))
 | v646 =>
  if (decide (v646 < (a645.W.length:Int)))=true then
   (r20_worker a644 a645 v646).bind fun x647 =>
   if (!x647)=true then
    inrO (
     some 1)
   else
    nextO (IntKind.i64.wrap (v646+1))
  else
   inrO (
    some 0)
noncomputable def r20_Check_s8 (a644:api_Config) (a645:api_World):(Int)→Option ((Int) ⊕ (Int))
 | v648 =>
  if (decide (v648 < (a645.Sems.length:Int)))=true then
   if 0≤v648∧v648 < (a645.Sems.length:Int) then
    (r10_Check (gt a645.Sems v648)).bind fun x649 =>
    if (x649 != 0)=true then
     inrO (
      some 1)
    else
     nextO (IntKind.i64.wrap (v648+1))
   else none
  else
   inrO (
    whileO (r20_Check_s9 a644 a645) 0)
noncomputable def r20_Check_j6 (a644:api_Config) (a645:api_World) (b650:Bool):Option Int :=
 if ((b650||((a645.Idle.Is.length:Int) != a644.Workers))||((a645.W.length:Int) != a644.Workers))=true then
  some 1
 else
  whileO (r20_Check_s8 a644 a645) 0
noncomputable def r20_Check_j5 (a644:api_Config) (a645:api_World) (b651:Bool):Option Int :=
 if b651=true then
  r20_Check_j6 a644 a645 true
 else
  (r17_Check a645.Idle).bind fun x652 =>
  r20_Check_j6 a644 a645 (x652 != 0)
noncomputable def r20_Check_j4 (a644:api_Config) (a645:api_World) (b653:Bool):Option Int :=
 if ((b653||((a645.Fds.length:Int) != a644.Fds))||((a645.Sems.length:Int) != (a644.Sems.length:Int)))=true then
  r20_Check_j5 a644 a645 true
 else
  (r11_Check a645.Joins).bind fun x654 =>
  r20_Check_j5 a644 a645 (x654 != 0)
noncomputable def r20_Check_j3 (a644:api_Config) (a645:api_World) (b655:Bool):Option Int :=
 if b655=true then
  r20_Check_j4 a644 a645 true
 else
  (r09_Check a645.Fds).bind fun x656 =>
  r20_Check_j4 a644 a645 (x656 != 0)
noncomputable def r20_Check_j2 (a644:api_Config) (a645:api_World) (b657:Bool):Option Int :=
 if (b657||((a645.Ten.length:Int) != (a644.Weights.length:Int)))=true then
  r20_Check_j3 a644 a645 true
 else
  (r08_Check a645.Heap).bind fun x658 =>
  r20_Check_j3 a644 a645 (x658 != 0)
noncomputable def r20_Check_j1 (a644:api_Config) (a645:api_World) (b659:Bool):Option Int :=
 if b659=true then
  some 1
 else
  (r20_lists a644 a645).bind fun x660 =>
  if (!x660)=true then
   some 1
  else
   if ((a645.Mem.length:Int) != (IntKind.i64.wrap (a644.Workers*(IntKind.i64.wrap (a644.Cap+2)))))=true then
    r20_Check_j2 a644 a645 true
   else
    (r14_Check a645.Ten).bind fun x661 =>
    r20_Check_j2 a644 a645 (x661 != 0)
noncomputable def r20_Check (a644:api_Config) (a645:api_World):Option Int :=
 (r19_Config a644).bind fun x662 =>
 if (((((x662 != 0)||(decide (a645.Now < 0)))||(decide (a645.Now > 1125899906842624)))||((r03_Check a645.Dice) != 0))||(decide ((a645.Seen.length:Int) > 65536)))=true then
  r20_Check_j1 a644 a645 true
 else
  (r20_tasks a644 a645).bind fun x663 =>
  r20_Check_j1 a644 a645 (!x663)
noncomputable def r13_Left_s3 (x664:List api_Instr):(Int×Int)→Option ((Int×Int) ⊕ (Int×Int))
 | (v665,v666) =>
  if (decide (v666 < (x664.length:Int)))=true then
   if 0≤v666∧v666 < (x664.length:Int) then
    if (((gt x664 v666).Op)==1)=true then
     nextO (IntKind.i64.wrap (v665+((gt x664 v666).A)),IntKind.i64.wrap (v666+1))
    else
     nextO (IntKind.i64.wrap (v665+1),IntKind.i64.wrap (v666+1))
   else none
  else
   inrO (
    some (v665,0))
noncomputable def r13_Left_s2 (a667:api_Task) (a668:List api_Instr):(Int)→Option ((Int) ⊕ (Int×Int))
 | v669 =>
  if (decide (v669 < ((sub a668 0 a667.Pc).length:Int)))=true then
   if 0≤v669∧v669 < ((sub a668 0 a667.Pc).length:Int) then
    if (((gt (sub a668 0 a667.Pc) v669).Op)==9)=true then
     inrO (
      some (0,0))
    else
     nextO (IntKind.i64.wrap (v669+1))
   else none
  else
   inrO (
    if 0≤a667.Pc∧a667.Pc≤(a668.length:Int) then
     (r04_Run (sub a668 a667.Pc (a668.length:Int))).bind fun x664 =>
     whileO (r13_Left_s3 x664) (IntKind.i64.wrap (0 - a667.Unit),0)
    else none)
noncomputable def r13_Left (a667:api_Task) (a668:List api_Instr):Option (Int×Int) :=
 (r13_Fits a667 a668).bind fun x670 =>
 if (!x670)=true then
  some (0,1)
 else
  if 0≤a667.Pc∧a667.Pc≤(a668.length:Int) then
   whileO (r13_Left_s2 a667 a668) 0
  else none
noncomputable def r24_work_s1 (a671:List (List api_Instr)) (a672:List Int) (a673:api_Task):(Int×Bool×Int)→Option ((Int×Bool×Int) ⊕ (Int))
 | (v674,v675,v676) =>
  if (decide (v676 < ((gt a671 a673.Prog).length:Int)))=true then
   if 0≤v676∧v676 < ((gt a671 a673.Prog).length:Int) then
    if (((decide (v676≥a673.Pc))&&(((gt (gt a671 a673.Prog) v676).Op)==2))&&(!(v675||(((gt (gt a671 a673.Prog) v676).Op)==9))))=true then
     if 0≤((gt (gt a671 a673.Prog) v676).A)∧((gt (gt a671 a673.Prog) v676).A) < (a672.length:Int) then
      nextO ((if 2199023255552 < (IntKind.i64.wrap (v674+(gt a672 ((gt (gt a671 a673.Prog) v676).A)))) then 2199023255552 else IntKind.i64.wrap (v674+(gt a672 ((gt (gt a671 a673.Prog) v676).A)))),(v675||(((gt (gt a671 a673.Prog) v676).Op)==9)),IntKind.i64.wrap (v676+1))
     else none
    else
     nextO (v674,(v675||(((gt (gt a671 a673.Prog) v676).Op)==9)),IntKind.i64.wrap (v676+1))
   else none
  else
   inrO (
    some v674)
noncomputable def r24_work (a671:List (List api_Instr)) (a672:List Int) (a673:api_Task):Option Int :=
 if 0≤a673.Prog∧a673.Prog < (a671.length:Int) then
  (r13_Left a673 (gt a671 a673.Prog)).bind fun(x677,x678) =>
  if 0≤a673.Prog∧a673.Prog < (a671.length:Int) then
   whileO (r24_work_s1 a671 a672 a673) (IntKind.i64.wrap (x677+1),false,0)
  else none
 else none
noncomputable def r24_Work_s2 (a679:api_Config) (a680:api_World) (x681:List Int):(Int×Int)→Option ((Int×Int) ⊕ (Int×Int))
 | (v682,v683) =>
  if (decide (v683 < (a680.Ids.Live.length:Int)))=true then
   if 0≤v683∧v683 < (a680.Ids.Live.length:Int) then
    if (!(gt a680.Ids.Live v683))=true then
     nextO (v682,IntKind.i64.wrap (v683+1))
    else
     if 0≤v683∧v683 < (a680.T.length:Int) then
      (r24_Full a679.Progs ((gt a680.T v683).Prog)).bind fun(x684,x685) =>
      if (x685 != 0)=true then
       inrO (
        some (0,x685))
      else
       if 0≤v683∧v683 < (a680.T.length:Int) then
        (r24_work a679.Progs x681 (gt a680.T v683)).bind fun x686 =>
        nextO ((if 2199023255552 < (IntKind.i64.wrap (v682+x686)) then 2199023255552 else IntKind.i64.wrap (v682+x686)),IntKind.i64.wrap (v683+1))
       else none
     else none
   else none
  else
   inrO (
    if (decide (v682 > 1099511627776))=true then
     some (0,4)
    else
     some (v682,0))
noncomputable def r24_Work (a679:api_Config) (a680:api_World):Option (Int×Int) :=
 (r20_Check a679 a680).bind fun x687 =>
 if (x687 != 0)=true then
  some (0,1)
 else
  (r24_table a679.Progs).bind fun x681 =>
  whileO (r24_Work_s2 a679 a680 x681) (0,0)
@[ext] structure calc_wide where
 minus:Bool
 hi:Int
 lo:Int
 deriving Inhabited
def calc_wide.cells (x:calc_wide):List V:=[V.bool x.minus,V.int .u64 x.hi,V.int .u64 x.lo]
def calc_wide.zero:calc_wide:=⟨false,0,0⟩
def calc_wide.beq (x y:calc_wide):Bool:=((x.minus==y.minus)&&((x.hi==y.hi)&&((x.lo==y.lo)&&true)))
def calc_size (a688:Int):Int :=
 if (decide (a688 < 0))=true then
  IntKind.u64.wrap (0 - (IntKind.u64.wrap a688))
 else
  IntKind.u64.wrap a688
def math_bits_Mul64 (a689:Int) (a690:Int):Int×Int :=
 (IntKind.u64.wrap ((IntKind.u64.wrap ((IntKind.u64.wrap ((Int.fdiv a689 (2 ^ (min (Int.toNat 32) IntKind.u64.bits)))*(Int.fdiv a690 (2 ^ (min (Int.toNat 32) IntKind.u64.bits)))))+(Int.fdiv (IntKind.u64.wrap ((IntKind.u64.wrap ((Int.fdiv a689 (2 ^ (min (Int.toNat 32) IntKind.u64.bits)))*(IntKind.u64.wrap (BitVec.ofInt IntKind.u64.bits a690 &&& BitVec.ofInt IntKind.u64.bits 4294967295).toNat)))+(Int.fdiv (IntKind.u64.wrap ((IntKind.u64.wrap (BitVec.ofInt IntKind.u64.bits a689 &&& BitVec.ofInt IntKind.u64.bits 4294967295).toNat)*(IntKind.u64.wrap (BitVec.ofInt IntKind.u64.bits a690 &&& BitVec.ofInt IntKind.u64.bits 4294967295).toNat))) (2 ^ (min (Int.toNat 32) IntKind.u64.bits))))) (2 ^ (min (Int.toNat 32) IntKind.u64.bits)))))+(Int.fdiv (IntKind.u64.wrap ((IntKind.u64.wrap (BitVec.ofInt IntKind.u64.bits (IntKind.u64.wrap ((IntKind.u64.wrap ((Int.fdiv a689 (2 ^ (min (Int.toNat 32) IntKind.u64.bits)))*(IntKind.u64.wrap (BitVec.ofInt IntKind.u64.bits a690 &&& BitVec.ofInt IntKind.u64.bits 4294967295).toNat)))+(Int.fdiv (IntKind.u64.wrap ((IntKind.u64.wrap (BitVec.ofInt IntKind.u64.bits a689 &&& BitVec.ofInt IntKind.u64.bits 4294967295).toNat)*(IntKind.u64.wrap (BitVec.ofInt IntKind.u64.bits a690 &&& BitVec.ofInt IntKind.u64.bits 4294967295).toNat))) (2 ^ (min (Int.toNat 32) IntKind.u64.bits))))) &&& BitVec.ofInt IntKind.u64.bits 4294967295).toNat)+(IntKind.u64.wrap ((IntKind.u64.wrap (BitVec.ofInt IntKind.u64.bits a689 &&& BitVec.ofInt IntKind.u64.bits 4294967295).toNat)*(Int.fdiv a690 (2 ^ (min (Int.toNat 32) IntKind.u64.bits))))))) (2 ^ (min (Int.toNat 32) IntKind.u64.bits)))),IntKind.u64.wrap (a689*a690))
def calc_times (a691:Int) (a692:Int):calc_wide :=
 letO (math_bits_Mul64 (calc_size a691) (calc_size a692)) fun(x693,x694) =>
 (calc_wide.mk ((!((decide (a691 < 0))==(decide (a692 < 0))))&&(!(calc_wide.beq (calc_wide.mk false x693 x694) calc_wide.zero))) x693 x694)
def calc_Mul_j1 (a695:Int) (a696:Int) (x697:calc_wide) (v698:Int):Int×Int :=
 if ((decide (x697.hi > 0))||(decide (x697.lo > v698)))=true then
  (0,4)
 else
  (IntKind.i64.wrap (a695*a696),0)
def calc_Mul (a695:Int) (a696:Int):Int×Int :=
 letO (calc_times a695 a696) fun x697 =>
 if x697.minus=true then
  calc_Mul_j1 a695 a696 x697 9223372036854775808
 else
  calc_Mul_j1 a695 a696 x697 9223372036854775807
noncomputable def drain_Bound (a699:api_Config) (a700:api_World):Option (Int×Int) :=
 (drain_Work a699 a700).bind fun(x701,x702) =>
 if (x702 != 0)=true then
  some (0,x702)
 else
  letO (calc_Mul (IntKind.i64.wrap (x701+2)) (IntKind.i64.wrap (64*(IntKind.i64.wrap ((IntKind.i64.wrap (a699.Workers+a699.Cap))+4))))) fun(x703,x704) =>
  if ((x704 != 0)||(decide (x703 > 1152921504606846976)))=true then
   some (0,4)
  else
   some (x703,0)
noncomputable def r24_Bound (a705:api_Config) (a706:api_World):Option (Int×Int) :=
 (r24_Work a705 a706).bind fun(x707,x708) =>
 if (x708 != 0)=true then
  some (0,x708)
 else
  if (IntKind.i64.wrap (64*(IntKind.i64.wrap ((IntKind.i64.wrap (a705.Workers+a705.Cap))+4))))≠0 then
   if (decide ((IntKind.i64.wrap (x707+2)) > (IntKind.i64.wrap (Int.tdiv 1152921504606846976 (IntKind.i64.wrap (64*(IntKind.i64.wrap ((IntKind.i64.wrap (a705.Workers+a705.Cap))+4))))))))=true then
    some (0,4)
   else
    some (IntKind.i64.wrap ((IntKind.i64.wrap (x707+2))*(IntKind.i64.wrap (64*(IntKind.i64.wrap ((IntKind.i64.wrap (a705.Workers+a705.Cap))+4))))),0)
  else none
noncomputable def r24_Rest_j4 (a709:api_World) (v710:Int) (b711:Bool):Option ((Int) ⊕ (Bool)) :=
 if b711=true then
  inrO (
   some false)
 else
  if 0≤v710∧v710 < (a709.T.length:Int) then
   if (decide (((gt a709.T v710).State) > 6))=true then
    inrO (
     some false)
   else
    nextO (IntKind.i64.wrap (v710+1))
  else none
noncomputable def r24_Rest_s3 (a709:api_World):(Int)→Option ((Int) ⊕ (Bool))
 | v710 =>
  if (decide (v710 < (a709.Ids.Live.length:Int)))=true then
   if 0≤v710∧v710 < (a709.Ids.Live.length:Int) then
    if (gt a709.Ids.Live v710)=true then
     if (decide (v710≥(a709.T.length:Int)))=true then
      r24_Rest_j4 a709 v710 true
     else
      if 0≤v710∧v710 < (a709.T.length:Int) then
       r24_Rest_j4 a709 v710 (decide (((gt a709.T v710).State) < 3))
      else none
    else
     nextO (IntKind.i64.wrap (v710+1))
   else none
  else
   inrO (
    some true)
noncomputable def r24_Rest (a709:api_World):Option Bool :=
 whileO (r24_Rest_s3 a709) 0
noncomputable def w24_DrainTells_j1 (a712:List (List api_Instr)) (a713:Int) (a714:api_Config) (a715:api_World) (x716:Bool) (b717:Bool):Option Bool :=
 if b717=true then
  some x716
 else
  (r20_Few a715).bind fun x718 =>
  if (!x718)=true then
   some x716
  else
   (drain_Full a712 a713).bind fun(x719,x720) =>
   (r24_Full a712 a713).bind fun(x721,x722) =>
   (drain_Work a714 a715).bind fun(x723,x724) =>
   (r24_Work a714 a715).bind fun(x725,x726) =>
   (drain_Bound a714 a715).bind fun(x727,x728) =>
   (r24_Bound a714 a715).bind fun(x729,x730) =>
   if x716=true then
    if (x719==x721)=true then
     if (x720==x722)=true then
      if (x723==x725)=true then
       if (x724==x726)=true then
        if (x727==x729)=true then
         if (x728==x730)=true then
          (drain_Rest a715).bind fun x731 =>
          (r24_Rest a715).bind fun x732 =>
          some (x731==x732)
         else
          some false
        else
         some false
       else
        some false
      else
       some false
     else
      some false
    else
     some false
   else
    some false
noncomputable def w24_DrainTells (a712:List (List api_Instr)) (a713:Int) (a714:api_Config) (a715:api_World):Option Bool :=
 (w24_live).bind fun x716 =>
 (r04_Few a712).bind fun x733 =>
 if (!x733)=true then
  w24_DrainTells_j1 a712 a713 a714 a715 x716 true
 else
  (r19_FewConfig a714).bind fun x734 =>
  w24_DrainTells_j1 a712 a713 a714 a715 x716 (!x734)
end Go.Proofs.YtkkimimkcchlnaaGreat
