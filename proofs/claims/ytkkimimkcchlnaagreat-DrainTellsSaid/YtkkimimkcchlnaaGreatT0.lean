/- Helper lemmas for the claim's theorem: an abstract machine over the model, proved sound; no condition beyond each lemma's own. -/
import Derived.Test.YtkkimimkcchlnaaGreatSEnv
import Derived.Test.YtkkimimkcchlnaaGreatAmH
import Derived.Test.YtkkimimkcchlnaaGreatAmI
import Derived.Test.YtkkimimkcchlnaaGreatTD
set_option linter.unusedVariables false
set_option linter.unusedSimpArgs false
set_option linter.unnecessarySimpa false
set_option linter.unusedSectionVars false
namespace Go.Proofs.YtkkimimkcchlnaaGreat
open Go Go.AM
set_option maxRecDepth 100000
set_option maxHeartbeats 1000000
set_option linter.unusedVariables false
set_option linter.unusedSimpArgs false
variable {gl:List (Nat×List V)}
theorem code_within_sc (a0:Int) (a1:Int) (r:Bool) (h:code_within a0 a1=r):SC Tryz.prog gl 53 [I a0,I a1] (V.bool r):=by
 rw [code_within] at h
 refine SC.go Tryz.func53 Tryz.call53 4 ?_
 refine .bjA 4 11 7 ?_
 refine .go 1 ?_
 cases h
 exact retF
theorem code_odd_sc (a4:api_Instr) (r:Bool) (h:code_odd a4=r):SC Tryz.prog gl 103 [V.agg a4.cells] (V.bool r):=by
 rw [code_odd] at h
 refine SC.go Tryz.func103 Tryz.call103 2 ?_
 refine Safe.regionD (n:=8) [] [] E_good mixed rfl ?_
 refine rA 0 (up 0 8) ?_
 refine DAny.nil (by kernel_rfl) ?_
 refine .go 2 ?_
 refine .joinB 0 (fun((v2,v3):Bool×Bool)=>code_odd_j2 v2 v3=r) (fun((v2,v3):Bool×Bool)=>⟨Tryz.f103.ntmps,[(3,V.bool v2),(4,V.bool v3)],[],[],[]⟩) ?_ (fun HJ77=>?_)
 ·rintro ⟨v2,v3⟩ h
  dsimp only at h
  rw [code_odd_j2] at h
  refine .go 3 ?_
  refine .bjO 3 57 54 ?_
  refine .go 1 ?_
  cases h
  exact retF
 ·refine .go 2 ?_
  refine .ifC h (fun hc79 h=>?_) (fun hc79 h=>?_)
  ·refine .go 3 ?_
   refine .cP (code_within_sc (IntKind.i64.wrap (a4.A - 1)) 100 _ rfl) ?_
   refine .go 1 ?_
   exact .got (HJ77 (code_within (IntKind.i64.wrap (a4.A - 1)) 100,(a4.B==0)) h) covA
  ·refine .go 2 ?_
   refine .ifC h (fun hc80 h=>?_) (fun hc80 h=>?_)
   ·refine .go 0 ?_
    refine Safe.regionD (n:=8) [] [] E_good mixed rfl ?_
    refine rA 6 [0,1] ?_
    refine .cP (code_within_sc a4.A 16 _ rfl) 2 ?_
    refine rA 3 [3,4] ?_
    refine .cP (code_within_sc a4.B 4 _ rfl) 5 ?_
    refine rA 0 [6,7] ?_
    refine DAny.nil (by kernel_rfl) ?_
    refine .go 0 ?_
    exact .got (HJ77 (code_within a4.A 16,code_within a4.B 4) h) covA
   ·refine .go 2 ?_
    refine .joinS (fun(v6:Bool)=>code_odd_j3 a4 v6=r) (fun(v6:Bool)=>⟨Tryz.f103.ntmps,[(1,V.ptr [1] 0 0),(3,V.bool (a4.A==0)),(4,V.bool (a4.B==0)),(12,I a4.Op),(27,V.bool v6)],[([1],Obj.box a4.cells)],[],[]⟩) ?_ (fun HJ82=>?_)
    ·intro v6 h
     rw [code_odd_j3] at h
     refine .go 0 ?_
     refine .ifC h (fun hc83 h=>?_) (fun hc83 h=>?_)
     ·refine .go 0 ?_
      exact .got (HJ77 ((a4.A==0),(a4.B==0)) h) covA
     ·refine .go 2 ?_
      refine .ifC h (fun hc84 h=>?_) (fun hc84 h=>?_)
      ·refine .go 3 ?_
       refine .cP (code_within_sc (IntKind.i64.wrap (a4.A - 1)) 1000 _ rfl) ?_
       refine .go 1 ?_
       exact .got (HJ77 (code_within (IntKind.i64.wrap (a4.A - 1)) 1000,(a4.B==0)) h) covA
      ·refine .go 2 ?_
       refine .ifC h (fun hc85 h=>?_) (fun hc85 h=>?_)
       ·refine .go 2 ?_
        refine .cP (code_within_sc a4.A 16 _ rfl) ?_
        refine .go 1 ?_
        exact .got (HJ77 (code_within a4.A 16,(a4.B==0)) h) covA
       ·refine .go 2 ?_
        refine .ifC h (fun hc86 h=>?_) (fun hc86 h=>?_)
        ·refine .go 2 ?_
         refine .cP (code_within_sc a4.A 4 _ rfl) ?_
         refine .go 1 ?_
         exact .got (HJ77 (code_within a4.A 4,(a4.B==0)) h) covA
        ·refine .go 2 ?_
         refine .joinS (fun(v5:Bool)=>code_odd_j4 a4 v5=r) (fun(v5:Bool)=>⟨Tryz.f103.ntmps,[(1,V.ptr [1] 0 0),(4,V.bool (a4.B==0)),(46,V.bool v5)],[([1],Obj.box a4.cells)],[],[]⟩) ?_ (fun HJ88=>?_)
         ·intro v5 h
          rw [code_odd_j4] at h
          refine .go 0 ?_
          refine .ifC h (fun hc89 h=>?_) (fun hc89 h=>?_)
          ·refine .go 2 ?_
           refine .cP (code_within_sc a4.A 8 _ rfl) ?_
           refine .go 1 ?_
           exact .got (HJ77 (code_within a4.A 8,(a4.B==0)) h) covA
          ·refine .go 1 ?_
           cases h
           exact retF
         ·refine .ifC h (fun hc90 h=>?_) (fun hc90 h=>?_)
          ·refine .go 0 ?_
           exact .got (HJ88 ((a4.Op==7)) h) covA
          ·refine .go 2 ?_
           exact .got (HJ88 ((a4.Op==8)) h) covA
    ·refine .ifC h (fun hc91 h=>?_) (fun hc91 h=>?_)
     ·refine .go 0 ?_
      exact .got (HJ82 ((a4.Op==3)) h) covA
     ·refine .go 2 ?_
      exact .got (HJ82 ((a4.Op==9)) h) covA
theorem slices_IndexFunc_api_Instr_api_Instr_odd103_sc (a7:List api_Instr) (r:Int) (h:slices_IndexFunc_api_Instr_api_Instr_odd103 a7=some r):SC Tryz.prog gl 80 [V.sl 3 (rws api_Instr.cells a7),V.fn 103 []] (I r):=by
 rw [slices_IndexFunc_api_Instr_api_Instr_odd103] at h
 refine SC.go Tryz.func80 Tryz.call80 2 ?_
 refine .len ?_
 refine .go 1 ?_
 refine Safe.loopS (fun(v8:Int)=>⟨Tryz.f80.ntmps,[(0,V.sl 3 (rws api_Instr.cells a7)),(1,V.fn 103 []),(7,I (a7.length:Int)),(8,I v8)],[],[],[]⟩) h covA ?_
 intro v8 ohr110 h hr110
 rw [slices_IndexFunc_api_Instr_api_Instr_odd103_s1] at h
 refine .go 1 ?_
 refine .ifC h (fun hc111 h=>?_) (fun hc111 h=>?_)
 ·refine .go 5 ?_
  refine okG h (fun hb112 h=>?_)
  refine .ix hb112 ?_
  refine .ld hb112 ?_
  refine .cP (code_odd_sc (gt a7 v8) _ rfl) ?_
  refine .go 0 ?_
  refine .ifC h (fun hc113 h=>?_) (fun hc113 h=>?_)
  ·refine .go 2 ?_
   replace h:=inr_out h hr110
   cases h
   exact retF
  ·refine .go 2 ?_
   exact lpK ⟨_,next_out h,covA⟩
 ·refine .go 0 ?_
  replace h:=inr_out h hr110
  refine .go 1 ?_
  cases h
  exact retF
theorem slices_ContainsFunc_api_Instr_api_Instr_odd103_sc (a9:List api_Instr) (r:Bool) (h:slices_ContainsFunc_api_Instr_api_Instr_odd103 a9=some r):SC Tryz.prog gl 38 [V.sl 3 (rws api_Instr.cells a9),V.fn 103 []] (V.bool r):=by
 rw [slices_ContainsFunc_api_Instr_api_Instr_odd103] at h
 refine SC.go Tryz.func38 Tryz.call38 3 ?_
 refine bindG h ?_
 intro x10 he117 h
 refine .cP (slices_IndexFunc_api_Instr_api_Instr_odd103_sc a9 _ he117) ?_
 refine .go 2 ?_
 cases h
 exact retF
theorem code_Check_sc (a11:List api_Instr) (r:Int) (h:code_Check a11=some r):SC Tryz.prog gl 56 [V.sl 3 (rws api_Instr.cells a11)] (I r):=by
 rw [code_Check] at h
 refine SC.go Tryz.func56 Tryz.call56 2 ?_
 refine .len ?_
 refine .go 2 ?_
 refine SafeOps.bjoinL 4 10 6 rfl (b:=((decide ((a11.length:Int) < 1))||(decide ((a11.length:Int) > 32)))) (b1:=true) (b0:=decide ((a11.length:Int) > 32)) (fun hc128 K=>?_) (fun hc128 K=>?_) bj_or ?_
 ·refine rO 4 ?_
  exact SafeOps.drop' 4 rfl rfl rfl K
 ·refine .go 1 ?_
  refine .len ?_
  refine rO 2 ?_
  exact SafeOps.drop' 4 rfl rfl rfl K
 refine .go 1 ?_
 refine SafeOps.ifD 11 h rfl (fun hc129 h=>?_) (fun hc129 h=>?_)
 ·refine .go 5 ?_
  cases h
  exact retF
 ·refine .go 1 ?_
  refine bindG h ?_
  intro x12 he133 h
  refine .cP (slices_ContainsFunc_api_Instr_api_Instr_odd103_sc a11 _ he133) ?_
  refine .go 1 ?_
  refine .ifC h (fun hc134 h=>?_) (fun hc134 h=>?_)
  ·refine .go 1 ?_
   cases h
   exact retF
  ·refine .go 1 ?_
   cases h
   exact retF
theorem code_CheckAll_sc (a15:List (List api_Instr)) (r:Int) (h:code_CheckAll a15=some r):SC Tryz.prog gl 52 [V.sl 1 (rws (fun l=>[V.sl 3 (rws api_Instr.cells l)]) a15)] (I r):=by
 rw [code_CheckAll] at h
 refine SC.go Tryz.func52 Tryz.call52 3 ?_
 refine .len ?_
 refine .go 2 ?_
 refine SafeOps.bjoinL 4 13 9 rfl (b:=((decide ((a15.length:Int) < 1))||(decide ((a15.length:Int) > 16)))) (b1:=true) (b0:=decide ((a15.length:Int) > 16)) (fun hc274 K=>?_) (fun hc274 K=>?_) bj_or ?_
 ·refine rO 4 ?_
  exact SafeOps.drop' 4 rfl rfl rfl K
 ·refine .go 1 ?_
  refine .len ?_
  refine rO 2 ?_
  exact SafeOps.drop' 4 rfl rfl rfl K
 refine .go 0 ?_
 refine .ifC h (fun hc275 h=>?_) (fun hc275 h=>?_)
 ·refine .go 1 ?_
  cases h
  exact retF
 ·refine .go 3 ?_
  refine .len ?_
  refine .go 1 ?_
  refine Safe.loopS (fun(v13:Int)=>⟨Tryz.f52.ntmps,[(3,V.fn 101 [V.ptr [1] 0 0]),(15,V.sl 1 (rws (fun l=>[V.sl 3 (rws api_Instr.cells l)]) a15)),(16,I (a15.length:Int)),(17,I v13)],[([1],Obj.box [V.sl 1 (rws (fun l=>[V.sl 3 (rws api_Instr.cells l)]) a15)])],[],[]⟩) h covA ?_
  intro v13 ohr370 h hr370
  rw [code_CheckAll_s9] at h
  refine .go 1 ?_
  refine .ifC h (fun hc371 h=>?_) (fun hc371 h=>?_)
  ·refine .go 0 ?_
   refine okG h (fun hb372 h=>?_)
   refine .ix hb372 ?_
   refine .ld hb372 ?_
   refine .go 2 ?_
   refine bindG h ?_
   intro x17 he374 h
   refine .cP (code_Check_sc (gt a15 v13) _ he374) ?_
   refine .go 2 ?_
   refine SafeOps.ifD 24 h rfl (fun hc375 h=>?_) (fun hc375 h=>?_)
   ·refine .go 6 ?_
    replace h:=inr_out h hr370
    cases h
    exact retF
   ·refine .go 2 ?_
    refine .inl Tryz.func38 Tryz.call38 3 ?_
    refine .joinR 1 (fun(v14:Int)=>code_CheckAll_j13 v13 v14=some ohr370) (fun(v14:Int)=>⟨Tryz.f38.ntmps,[(7,I v14)],[([1],Obj.box [V.sl 1 (rws (fun l=>[V.sl 3 (rws api_Instr.cells l)]) a15)])],[(Tryz.f52.ntmps,[(3,V.fn 101 [V.ptr [1] 0 0]),(15,V.sl 1 (rws (fun l=>[V.sl 3 (rws api_Instr.cells l)]) a15)),(16,I (a15.length:Int)),(17,I v13),(24,V.bool false),(25,V.sl 3 (rws api_Instr.cells (gt a15 v13))),(26,V.fn 101 [V.ptr [1] 0 0])])],[27]⟩) ?_ (fun HJ473=>?_)
    ·intro v14 h
     rw [code_CheckAll_j13] at h
     refine .go 4 ?_
     refine .ifC h (fun hc474 h=>?_) (fun hc474 h=>?_)
     ·refine .go 1 ?_
      replace h:=inr_out h hr370
      cases h
      exact retF
     ·refine .go 2 ?_
      exact lpK ⟨_,next_out h,covA⟩
    ·refine .inl Tryz.func80 Tryz.call80 2 ?_
     refine .len ?_
     refine .go 1 ?_
     refine Safe.loopS (fun(v16:Int)=>⟨Tryz.f80.ntmps,[(0,V.sl 3 (rws api_Instr.cells (gt a15 v13))),(1,V.fn 101 [V.ptr [1] 0 0]),(7,I ((gt a15 v13).length:Int)),(8,I v16)],[([1],Obj.box [V.sl 1 (rws (fun l=>[V.sl 3 (rws api_Instr.cells l)]) a15)])],[(Tryz.f38.ntmps,[]),(Tryz.f52.ntmps,[(3,V.fn 101 [V.ptr [1] 0 0]),(15,V.sl 1 (rws (fun l=>[V.sl 3 (rws api_Instr.cells l)]) a15)),(16,I (a15.length:Int)),(17,I v13),(24,V.bool false),(25,V.sl 3 (rws api_Instr.cells (gt a15 v13))),(26,V.fn 101 [V.ptr [1] 0 0])])],[27,7]⟩) h covA ?_
     intro v16 ohr487 h hr487
     rw [code_CheckAll_s14] at h
     refine .go 1 ?_
     refine .ifC h (fun hc488 h=>?_) (fun hc488 h=>?_)
     ·refine .go 5 ?_
      refine okG h (fun hb489 h=>?_)
      refine .ix hb489 ?_
      refine .ld hb489 ?_
      refine .inl Tryz.func101 Tryz.call101 6 ?_
      refine SafeOps.bjoinL 6 13 7 rfl (b:=((((gt (gt a15 v13) v16).Op)==2)&&(decide (((gt (gt a15 v13) v16).A)≥(a15.length:Int))))) (b1:=decide (((gt (gt a15 v13) v16).A)≥(a15.length:Int))) (b0:=false) (fun hc491 K=>?_) (fun hc491 K=>?_) bj_and ?_
      ·refine .go 3 ?_
       refine .len ?_
       refine rO 2 ?_
       exact SafeOps.drop' 6 rfl rfl rfl K
      ·refine rO 6 ?_
       exact SafeOps.drop' 6 rfl rfl rfl K
      refine .go 2 ?_
      refine .ifC h (fun hc492 h=>?_) (fun hc492 h=>?_)
      ·refine .goN 3 ?_
       replace h:=inr_out h hr487
       exact .got (HJ473 (v16) h) covA
      ·refine .go 2 ?_
       exact lpK ⟨_,next_out h,covA⟩
     ·refine .go 0 ?_
      replace h:=inr_out h hr487
      refine .goN 2 ?_
      exact .got (HJ473 (-1) h) covA
  ·refine .go 0 ?_
   replace h:=inr_out h hr370
   refine .go 1 ?_
   cases h
   exact retF
theorem code_reached_1_sc (a18:api_Instr) (r:Bool) (h:code_reached_1 a18=r):SC Tryz.prog gl 102 [V.agg a18.cells] (V.bool r):=by
 rw [code_reached_1] at h
 refine SC.go Tryz.func102 Tryz.call102 6 ?_
 cases h
 exact retF
theorem slices_IndexFunc_api_Instr_api_Instr_1102_sc (a19:List api_Instr) (r:Int) (h:slices_IndexFunc_api_Instr_api_Instr_1102 a19=some r):SC Tryz.prog gl 80 [V.sl 3 (rws api_Instr.cells a19),V.fn 102 []] (I r):=by
 rw [slices_IndexFunc_api_Instr_api_Instr_1102] at h
 refine SC.go Tryz.func80 Tryz.call80 2 ?_
 refine .len ?_
 refine .go 1 ?_
 refine Safe.loopS (fun(v20:Int)=>⟨Tryz.f80.ntmps,[(0,V.sl 3 (rws api_Instr.cells a19)),(1,V.fn 102 []),(7,I (a19.length:Int)),(8,I v20)],[],[],[]⟩) h covA ?_
 intro v20 ohr529 h hr529
 rw [slices_IndexFunc_api_Instr_api_Instr_1102_s1] at h
 refine .go 1 ?_
 refine .ifC h (fun hc530 h=>?_) (fun hc530 h=>?_)
 ·refine .go 5 ?_
  refine okG h (fun hb531 h=>?_)
  refine .ix hb531 ?_
  refine .ld hb531 ?_
  refine .cP (code_reached_1_sc (gt a19 v20) _ rfl) ?_
  refine .go 0 ?_
  refine .ifC h (fun hc532 h=>?_) (fun hc532 h=>?_)
  ·refine .go 2 ?_
   replace h:=inr_out h hr529
   cases h
   exact retF
  ·refine .go 2 ?_
   exact lpK ⟨_,next_out h,covA⟩
 ·refine .go 0 ?_
  replace h:=inr_out h hr529
  refine .go 1 ?_
  cases h
  exact retF
theorem code_reached_sc (a21:List api_Instr) (r:List api_Instr) (h:code_reached a21=some r):SC Tryz.prog gl 55 [V.sl 3 (rws api_Instr.cells a21)] (V.sl 3 (rws api_Instr.cells r)):=by
 rw [code_reached] at h
 refine SC.go Tryz.func55 Tryz.call55 2 ?_
 refine bindG h ?_
 intro x22 he538 h
 refine .cP (slices_IndexFunc_api_Instr_api_Instr_1102_sc a21 _ he538) ?_
 refine .go 3 ?_
 refine .ifC h (fun hc539 h=>?_) (fun hc539 h=>?_)
 ·refine .go 3 ?_
  refine okG h (fun hb540 h=>?_)
  refine Q0 E_good rfl (v:=V.sl 3 (rws api_Instr.cells (sub a21 0 (IntKind.i64.wrap (x22+1))))) (.slH (f:=api_Instr.cells) rfl rfl rfl rfl rfl hb540) ?_
  refine .go 1 ?_
  cases h
  exact retF
 ·refine .go 2 ?_
  cases h
  exact retF
theorem code_Tasks_1_b_si (r25:Int→(List (List api_Instr))→(List (Int×Int))→(List (Int×Bool))→Option (Int×Int×(List (Int×Int))×(List (Int×Bool)))) (HR_rec_501:∀(a23:Int) (l24:List (List api_Instr)) (m35:List (Int×Int)) (m36:List (Int×Bool)) (r:Int×Int×(List (Int×Int))×(List (Int×Bool))),r25 a23 l24 m35 m36=some r→SI Tryz.prog gl 54 [I a23,V.ptr [7] 0 0,V.ptr [6] 0 0,V.ptr [2] 0 0,V.ptr [8] 0 0] [([2],Go.AM.Obj.box [V.sl 1 (rws (fun l=>[V.sl 3 (rws api_Instr.cells l)]) l24)]),([6],Go.AM.Obj.box [V.mapr [21]]),([7],Go.AM.Obj.box [V.mapr [22]]),([8],Go.AM.Obj.box [V.fn 54 [V.ptr [7] 0 0,V.ptr [6] 0 0,V.ptr [2] 0 0,V.ptr [8] 0 0]]),([21],Go.AM.Obj.map (mps (fun n:Int=>I n) (fun n:Int=>I n) m35)),([22],Go.AM.Obj.map (mps (fun n:Int=>I n) (fun b:Bool=>V.bool b) m36))] [([2],Go.AM.Obj.box [V.sl 1 (rws (fun l=>[V.sl 3 (rws api_Instr.cells l)]) l24)]),([6],Go.AM.Obj.box [V.mapr [21]]),([7],Go.AM.Obj.box [V.mapr [22]]),([8],Go.AM.Obj.box [V.fn 54 [V.ptr [7] 0 0,V.ptr [6] 0 0,V.ptr [2] 0 0,V.ptr [8] 0 0]]),([21],Go.AM.Obj.map (mps (fun n:Int=>I n) (fun n:Int=>I n) r.2.2.1)),([22],Go.AM.Obj.map (mps (fun n:Int=>I n) (fun b:Bool=>V.bool b) r.2.2.2))] (V.tup [I r.1,I r.2.1])) (a23:Int) (l24:List (List api_Instr)) (m35:List (Int×Int)) (m36:List (Int×Bool)) (r:Int×Int×(List (Int×Int))×(List (Int×Bool))) (h:code_Tasks_1_b r25 a23 l24 m35 m36=some r):SI Tryz.prog gl 54 [I a23,V.ptr [7] 0 0,V.ptr [6] 0 0,V.ptr [2] 0 0,V.ptr [8] 0 0] [([2],Go.AM.Obj.box [V.sl 1 (rws (fun l=>[V.sl 3 (rws api_Instr.cells l)]) l24)]),([6],Go.AM.Obj.box [V.mapr [21]]),([7],Go.AM.Obj.box [V.mapr [22]]),([8],Go.AM.Obj.box [V.fn 54 [V.ptr [7] 0 0,V.ptr [6] 0 0,V.ptr [2] 0 0,V.ptr [8] 0 0]]),([21],Go.AM.Obj.map (mps (fun n:Int=>I n) (fun n:Int=>I n) m35)),([22],Go.AM.Obj.map (mps (fun n:Int=>I n) (fun b:Bool=>V.bool b) m36))] [([2],Go.AM.Obj.box [V.sl 1 (rws (fun l=>[V.sl 3 (rws api_Instr.cells l)]) l24)]),([6],Go.AM.Obj.box [V.mapr [21]]),([7],Go.AM.Obj.box [V.mapr [22]]),([8],Go.AM.Obj.box [V.fn 54 [V.ptr [7] 0 0,V.ptr [6] 0 0,V.ptr [2] 0 0,V.ptr [8] 0 0]]),([21],Go.AM.Obj.map (mps (fun n:Int=>I n) (fun n:Int=>I n) r.2.2.1)),([22],Go.AM.Obj.map (mps (fun n:Int=>I n) (fun b:Bool=>V.bool b) r.2.2.2))] (V.tup [I r.1,I r.2.1]):=by
 rw [code_Tasks_1_b] at h
 refine SI.of (pa:=[9999]) E_good Tryz.func54 rfl (fun _ _=>Tryz.call54 _ _) rfl (.box (.box (.box (.box (.map (.map .nil)))))) rfl rfl rfl ?_
 refine .go0 4 ?_
 refine Q0 E_good rfl (v:=V.bool ((mget m36 a23).getD false)) (.lookM (fv:=(fun b:Bool=>V.bool b)) (m:=m36) (kk:=a23) (z0:=false) (keyI .i64) rfl rfl rfl rfl rfl rfl rfl rfl rfl rfl) ?_
 refine .go 0 ?_
 refine .ifC h (fun hc502 h=>?_) (fun hc502 h=>?_)
 ·refine .go 2 ?_
  cases h
  refine siQ.gen (vs:=[I 0,I 9]) rfl (.tmp (v:=I 0) rfl (.tmp (v:=I 9) rfl .nil)) rfl rfl ?_ (.inr rfl)
  exact ⟨rfl,rfl,rfl,rfl,rfl,rfl,trivial⟩
 ·refine .go 2 ?_
  refine Q0 E_good rfl (v:=V.tup [I ((mget m35 a23).getD 0),V.bool ((mget m35 a23).isSome)]) (.lookM2 (fv:=(fun n:Int=>I n)) (m:=m35) (kk:=a23) (z0:=0) (keyI .i64) rfl rfl rfl rfl rfl rfl rfl rfl rfl rfl) ?_
  refine .go 6 ?_
  refine .ifC h (fun hc503 h=>?_) (fun hc503 h=>?_)
  ·refine .go 3 ?_
   cases h
   refine siQ.gen (vs:=[I ((mget m35 a23).getD 0),I 0]) rfl (.tmp (v:=I ((mget m35 a23).getD 0)) rfl (.tmp (v:=I 0) rfl .nil)) rfl rfl ?_ (.inr rfl)
   exact ⟨rfl,rfl,rfl,rfl,rfl,rfl,trivial⟩
  ·refine .go 2 ?_
   refine SafeOps.mputM (fun n:Int=>I n) (fun b:Bool=>V.bool b) m36 a23 true E_good (keyI .i64) rfl (.inl rfl) rfl rfl rfl rfl rfl rfl rfl rfl rfl ?_
   refine .go 3 ?_
   refine okG h (fun hb504 h=>?_)
   refine .ix hb504 ?_
   refine .ld hb504 ?_
   refine bindG h ?_
   intro x26 he542 h
   refine .cP (code_reached_sc (gt l24 a23) _ he542) ?_
   refine .len ?_
   refine .go 1 ?_
   refine Safe.loopS (fun((v27,v28,v29,v30):Int×Int×(List (Int×Int))×(List (Int×Bool)))=>⟨Tryz.f54.ntmps,[(0,I a23),(1,V.ptr [7] 0 0),(2,V.ptr [6] 0 0),(4,V.ptr [8] 0 0),(10,I v27),(32,V.sl 3 (rws api_Instr.cells x26)),(33,I (x26.length:Int)),(34,I v28)],[([2],Obj.box [V.sl 1 (rws (fun l=>[V.sl 3 (rws api_Instr.cells l)]) l24)]),([6],Obj.box [V.mapr [21]]),([7],Obj.box [V.mapr [22]]),([8],Obj.box [V.fn 54 [V.ptr [7] 0 0,V.ptr [6] 0 0,V.ptr [2] 0 0,V.ptr [8] 0 0]]),([21],Go.AM.Obj.map (mps (fun n:Int=>I n) (fun n:Int=>I n) v29)),([22],Go.AM.Obj.map (mps (fun n:Int=>I n) (fun b:Bool=>V.bool b) v30))],[(6,[(0,V.ptr [2] 0 0),(1,V.ptr [6] 0 0),(2,V.ptr [7] 0 0),(3,V.ptr [8] 0 0),(4,V.mapr [21]),(5,V.mapr [22])])],[9999]⟩) h covA ?_
   rintro ⟨v27,v28,v29,v30⟩ ohr605 h hr605
   rw [code_Tasks_1_b_s2] at h
   refine .go 1 ?_
   refine .ifC h (fun hc606 h=>?_) (fun hc606 h=>?_)
   ·refine .go 0 ?_
    refine okG h (fun hb607 h=>?_)
    refine .ix hb607 ?_
    refine .ld hb607 ?_
    refine .go 5 ?_
    refine .ifC h (fun hc608 h=>?_) (fun hc608 h=>?_)
    ·refine .go 2 ?_
     exact lpK ⟨_,next_out h,covA⟩
    ·refine .go 3 ?_
     refine bindG h ?_
     rintro ⟨x31,x32,m33,m34⟩ he613 h
     refine SafeOps.callI (obs:=[([2],Obj.box [V.sl 1 (rws (fun l=>[V.sl 3 (rws api_Instr.cells l)]) l24)]),([6],Obj.box [V.mapr [21]]),([7],Obj.box [V.mapr [22]]),([8],Obj.box [V.fn 54 [V.ptr [7] 0 0,V.ptr [6] 0 0,V.ptr [2] 0 0,V.ptr [8] 0 0]]),([21],Go.AM.Obj.map (mps (fun n:Int=>I n) (fun n:Int=>I n) v29)),([22],Go.AM.Obj.map (mps (fun n:Int=>I n) (fun b:Bool=>V.bool b) v30))]) (obs':=[([2],Obj.box [V.sl 1 (rws (fun l=>[V.sl 3 (rws api_Instr.cells l)]) l24)]),([6],Obj.box [V.mapr [21]]),([7],Obj.box [V.mapr [22]]),([8],Obj.box [V.fn 54 [V.ptr [7] 0 0,V.ptr [6] 0 0,V.ptr [2] 0 0,V.ptr [8] 0 0]]),([21],Go.AM.Obj.map (mps (fun n:Int=>I n) (fun n:Int=>I n) m33)),([22],Go.AM.Obj.map (mps (fun n:Int=>I n) (fun b:Bool=>V.bool b) m34))]) rfl rfl rfl rfl rfl (HR_rec_501 ((gt x26 v28).A) l24 v29 v30 _ he613) (.box (.box (.box (.box (.map (.map .nil)))))) rfl ⟨rfl,rfl,rfl,rfl,rfl,rfl,trivial⟩ rfl rfl ?_
     refine .go 7 ?_
     refine .ifC h (fun hc614 h=>?_) (fun hc614 h=>?_)
     ·refine .go 3 ?_
      replace h:=inr_out h hr605
      cases h
      refine siQ.gen (vs:=[I 0,I x32]) rfl (.tmp (v:=I 0) rfl (.tmp (v:=I x32) rfl .nil)) rfl rfl ?_ (.inr rfl)
      exact ⟨rfl,rfl,rfl,rfl,rfl,rfl,trivial⟩
     ·refine .go 7 ?_
      exact lpK ⟨_,next_out h,covA⟩
   ·refine .go 0 ?_
    replace h:=inr_out h hr605
    refine .go 2 ?_
    refine SafeOps.mdelM (fun n:Int=>I n) (fun b:Bool=>V.bool b) v30 a23 E_good (keyI .i64) rfl rfl rfl rfl rfl rfl rfl rfl rfl ?_
    refine .go 3 ?_
    refine SafeOps.mputM (fun n:Int=>I n) (fun n:Int=>I n) v29 a23 v27 E_good (keyI .i64) rfl (.inl rfl) rfl rfl rfl rfl rfl rfl rfl rfl rfl ?_
    refine .go 3 ?_
    cases h
    refine siQ.gen (vs:=[I v27,I 0]) rfl (.tmp (v:=I v27) rfl (.tmp (v:=I 0) rfl .nil)) rfl rfl ?_ (.inr rfl)
    exact ⟨rfl,rfl,rfl,rfl,rfl,rfl,trivial⟩
theorem code_Tasks_1_si:∀(n:Nat) (a23:Int) (l24:List (List api_Instr)) (m35:List (Int×Int)) (m36:List (Int×Bool)) (r:Int×Int×(List (Int×Int))×(List (Int×Bool))),code_Tasks_1 n a23 l24 m35 m36=some r→SI Tryz.prog gl 54 [I a23,V.ptr [7] 0 0,V.ptr [6] 0 0,V.ptr [2] 0 0,V.ptr [8] 0 0] [([2],Go.AM.Obj.box [V.sl 1 (rws (fun l=>[V.sl 3 (rws api_Instr.cells l)]) l24)]),([6],Go.AM.Obj.box [V.mapr [21]]),([7],Go.AM.Obj.box [V.mapr [22]]),([8],Go.AM.Obj.box [V.fn 54 [V.ptr [7] 0 0,V.ptr [6] 0 0,V.ptr [2] 0 0,V.ptr [8] 0 0]]),([21],Go.AM.Obj.map (mps (fun n:Int=>I n) (fun n:Int=>I n) m35)),([22],Go.AM.Obj.map (mps (fun n:Int=>I n) (fun b:Bool=>V.bool b) m36))] [([2],Go.AM.Obj.box [V.sl 1 (rws (fun l=>[V.sl 3 (rws api_Instr.cells l)]) l24)]),([6],Go.AM.Obj.box [V.mapr [21]]),([7],Go.AM.Obj.box [V.mapr [22]]),([8],Go.AM.Obj.box [V.fn 54 [V.ptr [7] 0 0,V.ptr [6] 0 0,V.ptr [2] 0 0,V.ptr [8] 0 0]]),([21],Go.AM.Obj.map (mps (fun n:Int=>I n) (fun n:Int=>I n) r.2.2.1)),([22],Go.AM.Obj.map (mps (fun n:Int=>I n) (fun b:Bool=>V.bool b) r.2.2.2))] (V.tup [I r.1,I r.2.1])
 | 0,_,_,_,_,_,h=>by cases h
 | n+1,a23,l24,m35,m36,r,h=>code_Tasks_1_b_si (code_Tasks_1 n) (code_Tasks_1_si n) a23 l24 m35 m36 r h
theorem code_Tasks_sc (a37:List (List api_Instr)) (a38:Int) (r:Int×Int) (h:code_Tasks a37 a38=some r):SC Tryz.prog gl 27 [V.sl 1 (rws (fun l=>[V.sl 3 (rws api_Instr.cells l)]) a37),I a38] (V.tup [I r.1,I r.2]):=by
 rw [code_Tasks] at h
 refine SC.go Tryz.func27 Tryz.call27 4 ?_
 refine bindG h ?_
 intro x39 he623 h
 refine .cP (code_CheckAll_sc a37 _ he623) ?_
 refine .go 2 ?_
 refine SafeOps.bjoinL 6 20 14 rfl (b:=((x39 != 0)||(!(code_within a38 (a37.length:Int))))) (b1:=true) (b0:=(!(code_within a38 (a37.length:Int)))) (fun hc624 K=>?_) (fun hc624 K=>?_) bj_or ?_
 ·refine rO 6 ?_
  exact SafeOps.drop' 6 rfl rfl rfl K
 ·refine .go 2 ?_
  refine .len ?_
  refine .cP (code_within_sc a38 (a37.length:Int) _ rfl) ?_
  refine rO 2 ?_
  exact SafeOps.drop' 6 rfl rfl rfl K
 refine .go 0 ?_
 refine .ifC h (fun hc625 h=>?_) (fun hc625 h=>?_)
 ·refine .go 2 ?_
  cases h
  exact retF
 ·refine .go 0 ?_
  refine SafeOps.quiet1 E_good rfl rfl rfl (.mkMapM (fun n:Int=>I n) (fun n:Int=>I n)) rfl ?_
  refine SafeOps.quiet1 E_good rfl rfl rfl (.mkMapM (fun n:Int=>I n) (fun b:Bool=>V.bool b)) rfl ?_
  refine .go 9 ?_
  refine bindG h ?_
  rintro ⟨x40,x41,m42,m43⟩ he630 h
  refine SafeOps.callI (obs:=[([2],Obj.box [V.sl 1 (rws (fun l=>[V.sl 3 (rws api_Instr.cells l)]) a37)]),([6],Obj.box [V.mapr [21]]),([7],Obj.box [V.mapr [22]]),([8],Obj.box [V.fn 54 [V.ptr [7] 0 0,V.ptr [6] 0 0,V.ptr [2] 0 0,V.ptr [8] 0 0]]),([21],Go.AM.Obj.map (mps (fun n:Int=>I n) (fun n:Int=>I n) [])),([22],Go.AM.Obj.map (mps (fun n:Int=>I n) (fun b:Bool=>V.bool b) []))]) (obs':=[([2],Obj.box [V.sl 1 (rws (fun l=>[V.sl 3 (rws api_Instr.cells l)]) a37)]),([6],Obj.box [V.mapr [21]]),([7],Obj.box [V.mapr [22]]),([8],Obj.box [V.fn 54 [V.ptr [7] 0 0,V.ptr [6] 0 0,V.ptr [2] 0 0,V.ptr [8] 0 0]]),([21],Go.AM.Obj.map (mps (fun n:Int=>I n) (fun n:Int=>I n) m42)),([22],Go.AM.Obj.map (mps (fun n:Int=>I n) (fun b:Bool=>V.bool b) m43))]) rfl rfl rfl rfl rfl (code_Tasks_1_si 1000 a38 a37 [] [] _ he630) (.box (.box (.box (.box (.map (.map .nil)))))) rfl ⟨rfl,rfl,rfl,rfl,rfl,rfl,trivial⟩ rfl rfl ?_
  refine .go 8 ?_
  refine .ifC h (fun hc631 h=>?_) (fun hc631 h=>?_)
  ·refine .go 3 ?_
   cases h
   exact retF
  ·refine .go 3 ?_
   refine .ifC h (fun hc632 h=>?_) (fun hc632 h=>?_)
   ·refine .go 2 ?_
    cases h
    exact retF
   ·refine .go 3 ?_
    cases h
    exact retF
theorem code_Units_sc (a47:List api_Instr) (r:Int×Int) (h:code_Units a47=some r):SC Tryz.prog gl 28 [V.sl 3 (rws api_Instr.cells a47)] (V.tup [I r.1,I r.2]):=by
 rw [code_Units] at h
 refine SC.go Tryz.func28 Tryz.call28 3 ?_
 refine bindG h ?_
 intro x48 he664 h
 refine .cP (code_Check_sc a47 _ he664) ?_
 refine .go 3 ?_
 refine .ifC h (fun hc665 h=>?_) (fun hc665 h=>?_)
 ·refine .go 3 ?_
  cases h
  exact retF
 ·refine .go 1 ?_
  refine bindG h ?_
  intro x44 he667 h
  refine .cP (code_reached_sc a47 _ he667) ?_
  refine .len ?_
  refine .go 1 ?_
  refine Safe.loopS (fun((v45,v46):Int×Int)=>⟨Tryz.f28.ntmps,[(2,I v45),(12,V.sl 3 (rws api_Instr.cells x44)),(13,I (x44.length:Int)),(14,I v46)],[],[],[]⟩) h covA ?_
  rintro ⟨v45,v46⟩ ohr678 h hr678
  rw [code_Units_s1] at h
  refine .go 1 ?_
  refine .ifC h (fun hc679 h=>?_) (fun hc679 h=>?_)
  ·refine .go 0 ?_
   refine okG h (fun hb680 h=>?_)
   refine .ix hb680 ?_
   refine .ld hb680 ?_
   refine .go 5 ?_
   refine .ifC h (fun hc681 h=>?_) (fun hc681 h=>?_)
   ·refine .go 11 ?_
    exact lpK ⟨_,next_out h,covA⟩
   ·refine .go 5 ?_
    exact lpK ⟨_,next_out h,covA⟩
  ·refine .go 0 ?_
   replace h:=inr_out h hr678
   refine .go 3 ?_
   cases h
   exact retF
theorem drain_measure_full_b_si (r54:(List (List api_Instr))→Int→(List (Int×Int))→Option (Int×(List (Int×Int)))) (HR_rec_640:∀(a53:List (List api_Instr)) (a49:Int) (m60:List (Int×Int)) (r:Int×(List (Int×Int))),r54 a53 a49 m60=some r→SI Tryz.prog gl 17 [V.agg [V.sl 1 (rws (fun l=>[V.sl 3 (rws api_Instr.cells l)]) a53),V.mapr [9]],I a49] [([9],Go.AM.Obj.map (mps (fun n:Int=>I n) (fun n:Int=>I n) m60))] [([9],Go.AM.Obj.map (mps (fun n:Int=>I n) (fun n:Int=>I n) r.2))] (I r.1)) (a53:List (List api_Instr)) (a49:Int) (m60:List (Int×Int)) (r:Int×(List (Int×Int))) (h:drain_measure_full_b r54 a53 a49 m60=some r):SI Tryz.prog gl 17 [V.agg [V.sl 1 (rws (fun l=>[V.sl 3 (rws api_Instr.cells l)]) a53),V.mapr [9]],I a49] [([9],Go.AM.Obj.map (mps (fun n:Int=>I n) (fun n:Int=>I n) m60))] [([9],Go.AM.Obj.map (mps (fun n:Int=>I n) (fun n:Int=>I n) r.2))] (I r.1):=by
 rw [drain_measure_full_b] at h
 refine SI.of (pa:=[9999]) E_good Tryz.func17 rfl (fun _ _=>Tryz.call17 _ _) rfl (.map .nil) rfl rfl rfl ?_
 refine .go0 5 ?_
 refine Q0 E_good rfl (v:=V.tup [I ((mget m60 a49).getD 0),V.bool ((mget m60 a49).isSome)]) (.lookM2 (fv:=(fun n:Int=>I n)) (m:=m60) (kk:=a49) (z0:=0) (keyI .i64) rfl rfl rfl rfl rfl rfl rfl rfl rfl rfl) ?_
 refine .go 6 ?_
 refine .ifC h (fun hc641 h=>?_) (fun hc641 h=>?_)
 ·refine .go 2 ?_
  cases h
  refine siQ.gen (vs:=[I ((mget m60 a49).getD 0)]) rfl (.tmp (v:=I ((mget m60 a49).getD 0)) rfl .nil) rfl rfl ?_ (.inr rfl)
  exact ⟨rfl,trivial⟩
 ·refine .go 3 ?_
  refine okG h (fun hb642 h=>?_)
  refine .ix hb642 ?_
  refine .ld hb642 ?_
  refine bindG h ?_
  rintro ⟨x50,x61⟩ he684 h
  refine .cP (code_Units_sc (gt a53 a49) _ he684) ?_
  refine .go 7 ?_
  refine .ifC h (fun hc685 h=>?_) (fun hc685 h=>?_)
  ·refine .go 1 ?_
   cases h
   refine siQ.gen (vs:=[I 1099511627777]) rfl (.tmp (v:=I 1099511627777) rfl .nil) rfl rfl ?_ (.inr rfl)
   exact ⟨rfl,trivial⟩
  ·refine .go 0 ?_
   refine Safe.regionD (n:=12) [] [8] E_good mixed rfl ?_
   refine rA 8 (up 2 4) ?_
   refine okG h (fun hb687 h=>?_)
   refine DT 6 [] rfl rfl (v:=V.spt 1 (rws (fun l=>[V.sl 3 (rws api_Instr.cells l)]) a53) (Int.toNat a49) 0) (fun _ hz=>(.idxSlM (f:=(fun l=>[V.sl 3 (rws api_Instr.cells l)])) rfl rfl rfl rfl rfl hb687)) ?_
   refine DT 7 [] rfl rfl (v:=V.sl 3 (rws api_Instr.cells (gt a53 a49))) (fun _ hz=>(.load rfl rfl (.sptM (f:=(fun l=>[V.sl 3 (rws api_Instr.cells l)])) hb687 rfl) rfl)) ?_
   refine DAny.fork (i:=0) (j:=8) rfl rfl (by kernel_rfl) ?_ ?_
   ·refine .quiet (v:=I x50) (nw:=[]) rfl rfl rfl (.fn rfl) rfl ?_
    refine DAny.fork (i:=1) (j:=8) rfl rfl (by kernel_rfl) ?_ ?_
    ·refine .quiet (v:=I (IntKind.i64.wrap (x50+1))) (nw:=[]) rfl rfl rfl (.fn rfl) rfl ?_
     refine DAny.onlyS (i:=8) rfl (by kernel_rfl) rfl ?_
     refine .go0 0 ?_
     refine .joinR 1 (fun((v51,v52):Int×(List (Int×Int)))=>drain_measure_full_b_j2 a49 x50 v51 v52=some r) (fun((v51,v52):Int×(List (Int×Int)))=>⟨Tryz.f17.ntmps,[(1,I a49),(2,V.ptr [9999,2] 0 0),(31,I (IntKind.i64.wrap (x50+1))),(38,I v51)],[([9],Go.AM.Obj.map (mps (fun n:Int=>I n) (fun n:Int=>I n) v52)),([9999,2],Obj.box [V.sl 1 (rws (fun l=>[V.sl 3 (rws api_Instr.cells l)]) a53),V.mapr [9]])],[(1,[(0,V.mapr [9])])],[9999]⟩) ?_ (fun HJ718=>?_)
     ·rintro ⟨v51,v52⟩ h
      dsimp only at h
      rw [drain_measure_full_b_j2] at h
      refine .go 0 ?_
      refine oNil ?_
      refine rA 0 (up 9 3) ?_
      refine DAny.nil (by kernel_rfl) ?_
      refine .go 4 ?_
      refine SafeOps.mputM (fun n:Int=>I n) (fun n:Int=>I n) v52 a49 (if 1099511627777 < (IntKind.i64.wrap ((IntKind.i64.wrap (x50+1))+v51)) then 1099511627777 else IntKind.i64.wrap ((IntKind.i64.wrap (x50+1))+v51)) E_good (keyI .i64) rfl (.inl rfl) rfl rfl rfl rfl rfl rfl rfl rfl rfl ?_
      refine .go 2 ?_
      cases h
      refine siQ.gen (vs:=[I (if 1099511627777 < (IntKind.i64.wrap ((IntKind.i64.wrap (x50+1))+v51)) then 1099511627777 else IntKind.i64.wrap ((IntKind.i64.wrap (x50+1))+v51))]) rfl (.tmp (v:=I (if 1099511627777 < (IntKind.i64.wrap ((IntKind.i64.wrap (x50+1))+v51)) then 1099511627777 else IntKind.i64.wrap ((IntKind.i64.wrap (x50+1))+v51))) rfl .nil) rfl rfl ?_ (.inr rfl)
      exact ⟨rfl,trivial⟩
     ·refine .inl Tryz.func22 Tryz.call22 3 ?_
      refine .len ?_
      refine .go 1 ?_
      refine Safe.loopS (fun((v55,v56,v57):Int×Int×(List (Int×Int)))=>⟨Tryz.f22.ntmps,[(2,V.ptr [9999,38,2] 0 0),(4,I v55),(7,V.sl 3 (rws api_Instr.cells (gt a53 a49))),(8,I ((gt a53 a49).length:Int)),(9,I v56)],[([9],Go.AM.Obj.map (mps (fun n:Int=>I n) (fun n:Int=>I n) v57)),([9999,2],Obj.box [V.sl 1 (rws (fun l=>[V.sl 3 (rws api_Instr.cells l)]) a53),V.mapr [9]]),([9999,38,2],Obj.box [V.sl 1 (rws (fun l=>[V.sl 3 (rws api_Instr.cells l)]) a53),V.mapr [9]])],[(Tryz.f17.ntmps,[(1,I a49),(2,V.ptr [9999,2] 0 0),(31,I (IntKind.i64.wrap (x50+1)))]),(1,[(0,V.mapr [9])])],[9999,38]⟩) h covA ?_
      rintro ⟨v55,v56,v57⟩ ohr739 h hr739
      rw [drain_measure_full_b_s3] at h
      refine .go 1 ?_
      refine .ifC h (fun hc740 h=>?_) (fun hc740 h=>?_)
      ·refine .go 0 ?_
       refine okG h (fun hb741 h=>?_)
       refine .ix hb741 ?_
       refine .ld hb741 ?_
       refine .go 6 ?_
       refine .ifC h (fun hc742 h=>?_) (fun hc742 h=>?_)
       ·refine .goN 3 ?_
        replace h:=inr_out h hr739
        exact .got (HJ718 (v55,v57) h) covA
       ·refine .go 2 ?_
        refine .ifC h (fun hc743 h=>?_) (fun hc743 h=>?_)
        ·refine .go 4 ?_
         refine bindG h ?_
         rintro ⟨x58,m59⟩ he746 h
         refine SafeOps.callI (obs:=[([9],Go.AM.Obj.map (mps (fun n:Int=>I n) (fun n:Int=>I n) v57))]) (obs':=[([9],Go.AM.Obj.map (mps (fun n:Int=>I n) (fun n:Int=>I n) m59))]) rfl rfl rfl rfl rfl (HR_rec_640 a53 ((gt (gt a53 a49) v56).A) v57 _ he746) (.map .nil) rfl ⟨rfl,trivial⟩ rfl rfl ?_
         refine .go 5 ?_
         exact lpK ⟨_,next_out h,covA⟩
        ·refine .go 2 ?_
         exact lpK ⟨_,next_out h,covA⟩
      ·refine .go 0 ?_
       replace h:=inr_out h hr739
       refine .goN 3 ?_
       exact .got (HJ718 (v55,v57) h) covA
    ·refine .other rfl ?_
     refine .go0 0 ?_
     refine .joinR 1 (fun((v51,v52):Int×(List (Int×Int)))=>drain_measure_full_b_j2 a49 x50 v51 v52=some r) (fun((v51,v52):Int×(List (Int×Int)))=>⟨Tryz.f17.ntmps,[(1,I a49),(2,V.ptr [9999,2] 0 0),(30,I x50),(38,I v51)],[([9],Go.AM.Obj.map (mps (fun n:Int=>I n) (fun n:Int=>I n) v52)),([9999,2],Obj.box [V.sl 1 (rws (fun l=>[V.sl 3 (rws api_Instr.cells l)]) a53),V.mapr [9]])],[(1,[(0,V.mapr [9])])],[9999]⟩) ?_ (fun HJ718=>?_)
     ·rintro ⟨v51,v52⟩ h
      dsimp only at h
      rw [drain_measure_full_b_j2] at h
      refine .go 0 ?_
      refine oNil ?_
      refine rA 0 [1,9,10,11] ?_
      refine DAny.nil (by kernel_rfl) ?_
      refine .go 4 ?_
      refine SafeOps.mputM (fun n:Int=>I n) (fun n:Int=>I n) v52 a49 (if 1099511627777 < (IntKind.i64.wrap ((IntKind.i64.wrap (x50+1))+v51)) then 1099511627777 else IntKind.i64.wrap ((IntKind.i64.wrap (x50+1))+v51)) E_good (keyI .i64) rfl (.inl rfl) rfl rfl rfl rfl rfl rfl rfl rfl rfl ?_
      refine .go 2 ?_
      cases h
      refine siQ.gen (vs:=[I (if 1099511627777 < (IntKind.i64.wrap ((IntKind.i64.wrap (x50+1))+v51)) then 1099511627777 else IntKind.i64.wrap ((IntKind.i64.wrap (x50+1))+v51))]) rfl (.tmp (v:=I (if 1099511627777 < (IntKind.i64.wrap ((IntKind.i64.wrap (x50+1))+v51)) then 1099511627777 else IntKind.i64.wrap ((IntKind.i64.wrap (x50+1))+v51))) rfl .nil) rfl rfl ?_ (.inr rfl)
      exact ⟨rfl,trivial⟩
     ·refine .inl Tryz.func22 Tryz.call22 3 ?_
      refine .len ?_
      refine .go 1 ?_
      refine Safe.loopS (fun((v55,v56,v57):Int×Int×(List (Int×Int)))=>⟨Tryz.f22.ntmps,[(2,V.ptr [9999,38,2] 0 0),(4,I v55),(7,V.sl 3 (rws api_Instr.cells (gt a53 a49))),(8,I ((gt a53 a49).length:Int)),(9,I v56)],[([9],Go.AM.Obj.map (mps (fun n:Int=>I n) (fun n:Int=>I n) v57)),([9999,2],Obj.box [V.sl 1 (rws (fun l=>[V.sl 3 (rws api_Instr.cells l)]) a53),V.mapr [9]]),([9999,38,2],Obj.box [V.sl 1 (rws (fun l=>[V.sl 3 (rws api_Instr.cells l)]) a53),V.mapr [9]])],[(Tryz.f17.ntmps,[(1,I a49),(2,V.ptr [9999,2] 0 0),(30,I x50)]),(1,[(0,V.mapr [9])])],[9999,38]⟩) h covA ?_
      rintro ⟨v55,v56,v57⟩ ohr739 h hr739
      rw [drain_measure_full_b_s3] at h
      refine .go 1 ?_
      refine .ifC h (fun hc740 h=>?_) (fun hc740 h=>?_)
      ·refine .go 0 ?_
       refine okG h (fun hb741 h=>?_)
       refine .ix hb741 ?_
       refine .ld hb741 ?_
       refine .go 6 ?_
       refine .ifC h (fun hc742 h=>?_) (fun hc742 h=>?_)
       ·refine .goN 3 ?_
        replace h:=inr_out h hr739
        exact .got (HJ718 (v55,v57) h) covA
       ·refine .go 2 ?_
        refine .ifC h (fun hc743 h=>?_) (fun hc743 h=>?_)
        ·refine .go 4 ?_
         refine bindG h ?_
         rintro ⟨x58,m59⟩ he746 h
         refine SafeOps.callI (obs:=[([9],Go.AM.Obj.map (mps (fun n:Int=>I n) (fun n:Int=>I n) v57))]) (obs':=[([9],Go.AM.Obj.map (mps (fun n:Int=>I n) (fun n:Int=>I n) m59))]) rfl rfl rfl rfl rfl (HR_rec_640 a53 ((gt (gt a53 a49) v56).A) v57 _ he746) (.map .nil) rfl ⟨rfl,trivial⟩ rfl rfl ?_
         refine .go 5 ?_
         exact lpK ⟨_,next_out h,covA⟩
        ·refine .go 2 ?_
         exact lpK ⟨_,next_out h,covA⟩
      ·refine .go 0 ?_
       replace h:=inr_out h hr739
       refine .goN 3 ?_
       exact .got (HJ718 (v55,v57) h) covA
   ·refine .other rfl ?_
    refine .go0 0 ?_
    refine .joinR 1 (fun((v51,v52):Int×(List (Int×Int)))=>drain_measure_full_b_j2 a49 x50 v51 v52=some r) (fun((v51,v52):Int×(List (Int×Int)))=>⟨Tryz.f17.ntmps,[(1,I a49),(2,V.ptr [9999,2] 0 0),(7,I x50),(38,I v51)],[([9],Go.AM.Obj.map (mps (fun n:Int=>I n) (fun n:Int=>I n) v52)),([9999,2],Obj.box [V.sl 1 (rws (fun l=>[V.sl 3 (rws api_Instr.cells l)]) a53),V.mapr [9]])],[(1,[(0,V.mapr [9])])],[9999]⟩) ?_ (fun HJ718=>?_)
    ·rintro ⟨v51,v52⟩ h
     dsimp only at h
     rw [drain_measure_full_b_j2] at h
     refine .go 0 ?_
     refine oNil ?_
     refine rA 0 [0,1,9,10,11] ?_
     refine DAny.nil (by kernel_rfl) ?_
     refine .go 4 ?_
     refine SafeOps.mputM (fun n:Int=>I n) (fun n:Int=>I n) v52 a49 (if 1099511627777 < (IntKind.i64.wrap ((IntKind.i64.wrap (x50+1))+v51)) then 1099511627777 else IntKind.i64.wrap ((IntKind.i64.wrap (x50+1))+v51)) E_good (keyI .i64) rfl (.inl rfl) rfl rfl rfl rfl rfl rfl rfl rfl rfl ?_
     refine .go 2 ?_
     cases h
     refine siQ.gen (vs:=[I (if 1099511627777 < (IntKind.i64.wrap ((IntKind.i64.wrap (x50+1))+v51)) then 1099511627777 else IntKind.i64.wrap ((IntKind.i64.wrap (x50+1))+v51))]) rfl (.tmp (v:=I (if 1099511627777 < (IntKind.i64.wrap ((IntKind.i64.wrap (x50+1))+v51)) then 1099511627777 else IntKind.i64.wrap ((IntKind.i64.wrap (x50+1))+v51))) rfl .nil) rfl rfl ?_ (.inr rfl)
     exact ⟨rfl,trivial⟩
    ·refine .inl Tryz.func22 Tryz.call22 3 ?_
     refine .len ?_
     refine .go 1 ?_
     refine Safe.loopS (fun((v55,v56,v57):Int×Int×(List (Int×Int)))=>⟨Tryz.f22.ntmps,[(2,V.ptr [9999,38,2] 0 0),(4,I v55),(7,V.sl 3 (rws api_Instr.cells (gt a53 a49))),(8,I ((gt a53 a49).length:Int)),(9,I v56)],[([9],Go.AM.Obj.map (mps (fun n:Int=>I n) (fun n:Int=>I n) v57)),([9999,2],Obj.box [V.sl 1 (rws (fun l=>[V.sl 3 (rws api_Instr.cells l)]) a53),V.mapr [9]]),([9999,38,2],Obj.box [V.sl 1 (rws (fun l=>[V.sl 3 (rws api_Instr.cells l)]) a53),V.mapr [9]])],[(Tryz.f17.ntmps,[(1,I a49),(2,V.ptr [9999,2] 0 0),(7,I x50)]),(1,[(0,V.mapr [9])])],[9999,38]⟩) h covA ?_
     rintro ⟨v55,v56,v57⟩ ohr739 h hr739
     rw [drain_measure_full_b_s3] at h
     refine .go 1 ?_
     refine .ifC h (fun hc740 h=>?_) (fun hc740 h=>?_)
     ·refine .go 0 ?_
      refine okG h (fun hb741 h=>?_)
      refine .ix hb741 ?_
      refine .ld hb741 ?_
      refine .go 6 ?_
      refine .ifC h (fun hc742 h=>?_) (fun hc742 h=>?_)
      ·refine .goN 3 ?_
       replace h:=inr_out h hr739
       exact .got (HJ718 (v55,v57) h) covA
      ·refine .go 2 ?_
       refine .ifC h (fun hc743 h=>?_) (fun hc743 h=>?_)
       ·refine .go 4 ?_
        refine bindG h ?_
        rintro ⟨x58,m59⟩ he746 h
        refine SafeOps.callI (obs:=[([9],Go.AM.Obj.map (mps (fun n:Int=>I n) (fun n:Int=>I n) v57))]) (obs':=[([9],Go.AM.Obj.map (mps (fun n:Int=>I n) (fun n:Int=>I n) m59))]) rfl rfl rfl rfl rfl (HR_rec_640 a53 ((gt (gt a53 a49) v56).A) v57 _ he746) (.map .nil) rfl ⟨rfl,trivial⟩ rfl rfl ?_
        refine .go 5 ?_
        exact lpK ⟨_,next_out h,covA⟩
       ·refine .go 2 ?_
        exact lpK ⟨_,next_out h,covA⟩
     ·refine .go 0 ?_
      replace h:=inr_out h hr739
      refine .goN 3 ?_
      exact .got (HJ718 (v55,v57) h) covA
theorem drain_measure_full_si:∀(n:Nat) (a53:List (List api_Instr)) (a49:Int) (m60:List (Int×Int)) (r:Int×(List (Int×Int))),drain_measure_full n a53 a49 m60=some r→SI Tryz.prog gl 17 [V.agg [V.sl 1 (rws (fun l=>[V.sl 3 (rws api_Instr.cells l)]) a53),V.mapr [9]],I a49] [([9],Go.AM.Obj.map (mps (fun n:Int=>I n) (fun n:Int=>I n) m60))] [([9],Go.AM.Obj.map (mps (fun n:Int=>I n) (fun n:Int=>I n) r.2))] (I r.1)
 | 0,_,_,_,_,h=>by cases h
 | n+1,a53,a49,m60,r,h=>drain_measure_full_b_si (drain_measure_full n) (drain_measure_full_si n) a53 a49 m60 r h
theorem drain_Full_sc (a62:List (List api_Instr)) (a63:Int) (r:Int×Int) (h:drain_Full a62 a63=some r):SC Tryz.prog gl 8 [V.sl 1 (rws (fun l=>[V.sl 3 (rws api_Instr.cells l)]) a62),I a63] (V.tup [I r.1,I r.2]):=by
 rw [drain_Full] at h
 refine SC.go Tryz.func8 Tryz.call8 3 ?_
 refine SafeOps.quiet1 E_good rfl rfl rfl (.mkMapM (fun n:Int=>I n) (fun n:Int=>I n)) rfl ?_
 refine .go 5 ?_
 refine .joinR 1 (fun((v64,v65):Int×(List (Int×Int)))=>drain_Full_j1 a62 a63 v64 v65=some r) (fun((v64,v65):Int×(List (Int×Int)))=>⟨Tryz.f8.ntmps,[(1,I a63),(6,V.ptr [6] 0 0),(13,I v64)],[([6],Obj.box [V.sl 1 (rws (fun l=>[V.sl 3 (rws api_Instr.cells l)]) a62),V.mapr [9]]),([9],Go.AM.Obj.map (mps (fun n:Int=>I n) (fun n:Int=>I n) v65))],[],[]⟩) ?_ (fun HJ768=>?_)
 ·rintro ⟨v64,v65⟩ h
  dsimp only at h
  rw [drain_Full_j1] at h
  refine .go 3 ?_
  refine .ifC h (fun hc769 h=>?_) (fun hc769 h=>?_)
  ·refine .go 3 ?_
   cases h
   exact retF
  ·refine .go 2 ?_
   refine bindG h ?_
   rintro ⟨x66,m67⟩ he772 h
   refine SafeOps.callI (obs:=[([9],Go.AM.Obj.map (mps (fun n:Int=>I n) (fun n:Int=>I n) v65))]) (obs':=[([9],Go.AM.Obj.map (mps (fun n:Int=>I n) (fun n:Int=>I n) m67))]) rfl rfl rfl rfl rfl (drain_measure_full_si 1000 a62 a63 v65 _ he772) (.map .nil) rfl ⟨rfl,trivial⟩ rfl rfl ?_
   refine .go 2 ?_
   cases h
   exact retF
 ·refine .inl Tryz.func16 Tryz.call16 5 ?_
  refine bindG h ?_
  rintro ⟨x68,x69⟩ he775 h
  refine .cP (code_Tasks_sc a62 a63 _ he775) ?_
  refine .go 7 ?_
  refine .ifC h (fun hc776 h=>?_) (fun hc776 h=>?_)
  ·refine .goN 3 ?_
   exact .got (HJ768 (x69,[]) h) covA
  ·refine .go 2 ?_
   refine bindG h ?_
   rintro ⟨x70,m71⟩ he779 h
   refine SafeOps.callI (obs:=[([9],Go.AM.Obj.map (mps (fun n:Int=>I n) (fun n:Int=>I n) []))]) (obs':=[([9],Go.AM.Obj.map (mps (fun n:Int=>I n) (fun n:Int=>I n) m71))]) rfl rfl rfl rfl rfl (drain_measure_full_si 1000 a62 a63 [] _ he779) (.map .nil) rfl ⟨rfl,trivial⟩ rfl rfl ?_
   refine .go 1 ?_
   refine .ifC h (fun hc780 h=>?_) (fun hc780 h=>?_)
   ·refine .goN 2 ?_
    exact .got (HJ768 (4,m71) h) covA
   ·refine .goN 2 ?_
    exact .got (HJ768 (0,m71) h) covA
theorem life_Waits_sc (a72:Int) (r:Bool) (h:life_Waits a72=r):SC Tryz.prog gl 26 [I a72] (V.bool r):=by
 rw [life_Waits] at h
 refine SC.go Tryz.func26 Tryz.call26 4 ?_
 refine .bjA 3 8 5 ?_
 refine .go 1 ?_
 cases h
 exact retF
theorem drain_Rest_sc (a73:api_World) (r:Bool) (h:drain_Rest a73=some r):SC Tryz.prog gl 14 [V.agg a73.cells] (V.bool r):=by
 rw [drain_Rest] at h
 refine SC.go Tryz.func14 Tryz.call14 5 ?_
 refine .len ?_
 refine .go 1 ?_
 refine Safe.loopS (fun(v74:Int)=>⟨Tryz.f14.ntmps,[(1,V.ptr [1] 0 0),(7,V.sl 1 (rws (fun b=>[V.bool b]) a73.Ids.Live)),(8,I (a73.Ids.Live.length:Int)),(9,I v74)],[([1],Obj.box a73.cells)],[],[]⟩) h covA ?_
 intro v74 ohr846 h hr846
 rw [drain_Rest_s1] at h
 refine .go 1 ?_
 refine .ifC h (fun hc847 h=>?_) (fun hc847 h=>?_)
 ·refine .go 1 ?_
  refine okG h (fun hb848 h=>?_)
  refine .ix hb848 ?_
  refine .ld hb848 ?_
  refine .go 4 ?_
  refine SafeOps.ifD 15 h rfl (fun hc849 h=>?_) (fun hc849 h=>?_)
  ·refine .go 3 ?_
   refine .len ?_
   refine .go 2 ?_
   refine SafeOps.ifD 21 h rfl (fun hc853 h=>?_) (fun hc853 h=>?_)
   ·refine .go 12 ?_
    replace h:=inr_out h hr846
    cases h
    exact retF
   ·refine .go 3 ?_
    refine okG h (fun hb855 h=>?_)
    refine .ix hb855 ?_
    refine .go 1 ?_
    refine .ld hb855 ?_
    refine .cP (life_Waits_sc ((gt a73.T v74).State) _ rfl) ?_
    refine .go 3 ?_
    refine .ifC h (fun hc856 h=>?_) (fun hc856 h=>?_)
    ·refine .go 1 ?_
     replace h:=inr_out h hr846
     cases h
     exact retF
    ·refine .go 2 ?_
     exact lpK ⟨_,next_out h,covA⟩
  ·refine .go 19 ?_
   exact lpK ⟨_,next_out h,covA⟩
 ·refine .go 0 ?_
  replace h:=inr_out h hr846
  refine .go 1 ?_
  cases h
  exact retF
theorem w24_live_sc  (r:Bool) (h:w24_live =some r):SC Tryz.prog gl 4 [] (V.bool r):=by
 rw [w24_live] at h
 refine SC.go Tryz.func4 Tryz.call4 2 ?_
 refine SafeOps.quiet1 E_good rfl rfl rfl (.litM (f:=api_Instr.cells) (xs:=[(api_Instr.mk 9 0 0)]) rfl rfl (by decide) rfl rfl rfl rfl rfl) rfl ?_
 refine .freeze [5] rfl ?_
 refine .see 5 (u:=V.sl 3 (rws api_Instr.cells [(api_Instr.mk 9 0 0)])) rfl (.full rfl rfl) ?_
 refine SafeOps.quiet1 E_good rfl rfl rfl (.litM (f:=(fun l=>[V.sl 3 (rws api_Instr.cells l)])) (xs:=[[(api_Instr.mk 9 0 0)]]) rfl rfl (by decide) rfl rfl rfl rfl rfl) rfl ?_
 refine bindG h ?_
 rintro ⟨x75,x76⟩ he863 h
 refine .cS (drain_Full_sc [[(api_Instr.mk 9 0 0)]] 0 _ he863) ?_
 refine .go 8 ?_
 refine .bjA 3 15 12 ?_
 refine .go 1 ?_
 refine SafeOps.ifD 16 h rfl (fun hc865 h=>?_) (fun hc865 h=>?_)
 ·refine .go 1 ?_
  refine bindG h ?_
  intro x77 he869 h
  refine .cS (drain_Rest_sc api_World.zero _ he869) ?_
  refine .go 2 ?_
  cases h
  exact retF
 ·refine .go 4 ?_
  cases h
  exact retF
theorem r04_Few_sc (a78:List (List api_Instr)) (r:Bool) (h:r04_Few a78=some r):SC Tryz.prog gl 5 [V.sl 1 (rws (fun l=>[V.sl 3 (rws api_Instr.cells l)]) a78)] (V.bool r):=by
 rw [r04_Few] at h
 refine SC.go Tryz.func5 Tryz.call5 2 ?_
 refine .len ?_
 refine .go 1 ?_
 refine Safe.loopS (fun(v79:Int)=>⟨Tryz.f5.ntmps,[(0,V.sl 1 (rws (fun l=>[V.sl 3 (rws api_Instr.cells l)]) a78)),(5,V.sl 1 (rws (fun l=>[V.sl 3 (rws api_Instr.cells l)]) a78)),(6,I (a78.length:Int)),(7,I v79)],[],[],[]⟩) h covA ?_
 intro v79 ohr894 h hr894
 rw [r04_Few_s1] at h
 refine .go 1 ?_
 refine .ifC h (fun hc895 h=>?_) (fun hc895 h=>?_)
 ·refine .go 0 ?_
  refine okG h (fun hb896 h=>?_)
  refine .ix hb896 ?_
  refine .ld hb896 ?_
  refine .go 2 ?_
  refine .len ?_
  refine .go 1 ?_
  refine .ifC h (fun hc897 h=>?_) (fun hc897 h=>?_)
  ·refine .go 1 ?_
   replace h:=inr_out h hr894
   cases h
   exact retF
  ·refine .go 2 ?_
   exact lpK ⟨_,next_out h,covA⟩
 ·refine .go 0 ?_
  replace h:=inr_out h hr894
  refine .go 1 ?_
  refine .len ?_
  refine .go 2 ?_
  cases h
  exact retF
theorem r19_FewConfig_sc (a80:api_Config) (r:Bool) (h:r19_FewConfig a80=some r):SC Tryz.prog gl 6 [V.agg a80.cells] (V.bool r):=by
 rw [r19_FewConfig] at h
 refine SC.go Tryz.func6 Tryz.call6 4 ?_
 refine bindG h ?_
 intro x81 he908 h
 refine .cP (r04_Few_sc a80.Progs _ he908) ?_
 refine .go 1 ?_
 refine SafeOps.bjoinL 5 11 6 rfl (b:=(x81&&(decide ((a80.Weights.length:Int)≤100)))) (b1:=decide ((a80.Weights.length:Int)≤100)) (b0:=false) (fun hc909 K=>?_) (fun hc909 K=>?_) bj_and ?_
 ·refine .go 2 ?_
  refine .len ?_
  refine rO 2 ?_
  exact SafeOps.drop' 5 rfl rfl rfl K
 ·refine rO 5 ?_
  exact SafeOps.drop' 5 rfl rfl rfl K
 refine .go 1 ?_
 refine SafeOps.bjoinL 5 17 12 rfl (b:=((x81&&(decide ((a80.Weights.length:Int)≤100)))&&(decide ((a80.Quotas.length:Int)≤100)))) (b1:=decide ((a80.Quotas.length:Int)≤100)) (b0:=false) (fun hc910 K=>?_) (fun hc910 K=>?_) bj_and ?_
 ·refine .go 2 ?_
  refine .len ?_
  refine rO 2 ?_
  exact SafeOps.drop' 5 rfl rfl rfl K
 ·refine rO 5 ?_
  exact SafeOps.drop' 5 rfl rfl rfl K
 refine .go 1 ?_
 refine SafeOps.bjoinL 5 23 18 rfl (b:=(((x81&&(decide ((a80.Weights.length:Int)≤100)))&&(decide ((a80.Quotas.length:Int)≤100)))&&(decide ((a80.Sems.length:Int)≤100)))) (b1:=decide ((a80.Sems.length:Int)≤100)) (b0:=false) (fun hc911 K=>?_) (fun hc911 K=>?_) bj_and ?_
 ·refine .go 2 ?_
  refine .len ?_
  refine rO 2 ?_
  exact SafeOps.drop' 5 rfl rfl rfl K
 ·refine rO 5 ?_
  exact SafeOps.drop' 5 rfl rfl rfl K
 refine .go 1 ?_
 cases h
 exact retF
theorem r20_Few_sc (a82:api_World) (r:Bool) (h:r20_Few a82=some r):SC Tryz.prog gl 7 [V.agg a82.cells] (V.bool r):=by
 rw [r20_Few] at h
 refine SC.go Tryz.func7 Tryz.call7 4 ?_
 refine .len ?_
 refine .go 1 ?_
 refine Safe.loopS (fun(v84:Int)=>⟨Tryz.f7.ntmps,[(1,V.ptr [1] 0 0),(8,V.sl 2 (rws api_Sem.cells a82.Sems)),(9,I (a82.Sems.length:Int)),(10,I v84)],[([1],Obj.box a82.cells)],[],[]⟩) h covA ?_
 intro v84 ohr1002 h hr1002
 rw [r20_Few_s2] at h
 refine .go 1 ?_
 refine .ifC h (fun hc1003 h=>?_) (fun hc1003 h=>?_)
 ·refine .go 0 ?_
  refine okG h (fun hb1004 h=>?_)
  refine .ix hb1004 ?_
  refine .ld hb1004 ?_
  refine .go 4 ?_
  refine .len ?_
  refine .go 1 ?_
  refine .ifC h (fun hc1005 h=>?_) (fun hc1005 h=>?_)
  ·refine .go 1 ?_
   replace h:=inr_out h hr1002
   cases h
   exact retF
  ·refine .go 2 ?_
   exact lpK ⟨_,next_out h,covA⟩
 ·refine .go 0 ?_
  replace h:=inr_out h hr1002
  refine .go 2 ?_
  refine .len ?_
  refine .go 1 ?_
  refine Safe.loopS (fun(v83:Int)=>⟨Tryz.f7.ntmps,[(1,V.ptr [1] 0 0),(20,V.sl 14 (rws api_Worker.cells a82.W)),(21,I (a82.W.length:Int)),(22,I v83)],[([1],Obj.box a82.cells)],[],[]⟩) h covA ?_
  intro v83 ohr1026 h hr1026
  rw [r20_Few_s4] at h
  refine .go 1 ?_
  refine .ifC h (fun hc1027 h=>?_) (fun hc1027 h=>?_)
  ·refine .go 0 ?_
   refine okG h (fun hb1028 h=>?_)
   refine .ix hb1028 ?_
   refine .ld hb1028 ?_
   refine .go 4 ?_
   refine .len ?_
   refine .go 1 ?_
   refine .ifC h (fun hc1029 h=>?_) (fun hc1029 h=>?_)
   ·refine .go 1 ?_
    replace h:=inr_out h hr1026
    cases h
    exact retF
   ·refine .go 2 ?_
    exact lpK ⟨_,next_out h,covA⟩
  ·refine .go 0 ?_
   replace h:=inr_out h hr1026
   refine .go 3 ?_
   refine .len ?_
   refine .go 2 ?_
   refine SafeOps.bjoinL 5 41 36 rfl (b:=((decide ((a82.Dice.L.length:Int)≤2000))&&(decide ((a82.T.length:Int)≤60)))) (b1:=decide ((a82.T.length:Int)≤60)) (b0:=false) (fun hc1030 K=>?_) (fun hc1030 K=>?_) bj_and ?_
   ·refine .go 2 ?_
    refine .len ?_
    refine rO 2 ?_
    exact SafeOps.drop' 5 rfl rfl rfl K
   ·refine rO 5 ?_
    exact SafeOps.drop' 5 rfl rfl rfl K
   refine .go 1 ?_
   refine SafeOps.bjoinL 5 47 42 rfl (b:=(((decide ((a82.Dice.L.length:Int)≤2000))&&(decide ((a82.T.length:Int)≤60)))&&(decide ((a82.Mem.length:Int)≤400)))) (b1:=decide ((a82.Mem.length:Int)≤400)) (b0:=false) (fun hc1031 K=>?_) (fun hc1031 K=>?_) bj_and ?_
   ·refine .go 2 ?_
    refine .len ?_
    refine rO 2 ?_
    exact SafeOps.drop' 5 rfl rfl rfl K
   ·refine rO 5 ?_
    exact SafeOps.drop' 5 rfl rfl rfl K
   refine .go 1 ?_
   refine SafeOps.bjoinL 6 54 48 rfl (b:=((((decide ((a82.Dice.L.length:Int)≤2000))&&(decide ((a82.T.length:Int)≤60)))&&(decide ((a82.Mem.length:Int)≤400)))&&(decide ((a82.Lists.Next.length:Int)≤100)))) (b1:=decide ((a82.Lists.Next.length:Int)≤100)) (b0:=false) (fun hc1032 K=>?_) (fun hc1032 K=>?_) bj_and ?_
   ·refine .go 3 ?_
    refine .len ?_
    refine rO 2 ?_
    exact SafeOps.drop' 6 rfl rfl rfl K
   ·refine rO 6 ?_
    exact SafeOps.drop' 6 rfl rfl rfl K
   refine .go 1 ?_
   refine SafeOps.bjoinL 6 61 55 rfl (b:=(((((decide ((a82.Dice.L.length:Int)≤2000))&&(decide ((a82.T.length:Int)≤60)))&&(decide ((a82.Mem.length:Int)≤400)))&&(decide ((a82.Lists.Next.length:Int)≤100)))&&(decide ((a82.Lists.Head.length:Int)≤100)))) (b1:=decide ((a82.Lists.Head.length:Int)≤100)) (b0:=false) (fun hc1033 K=>?_) (fun hc1033 K=>?_) bj_and ?_
   ·refine .go 3 ?_
    refine .len ?_
    refine rO 2 ?_
    exact SafeOps.drop' 6 rfl rfl rfl K
   ·refine rO 6 ?_
    exact SafeOps.drop' 6 rfl rfl rfl K
   refine .go 1 ?_
   refine SafeOps.bjoinL 5 67 62 rfl (b:=((((((decide ((a82.Dice.L.length:Int)≤2000))&&(decide ((a82.T.length:Int)≤60)))&&(decide ((a82.Mem.length:Int)≤400)))&&(decide ((a82.Lists.Next.length:Int)≤100)))&&(decide ((a82.Lists.Head.length:Int)≤100)))&&(decide ((a82.Ten.length:Int)≤40)))) (b1:=decide ((a82.Ten.length:Int)≤40)) (b0:=false) (fun hc1034 K=>?_) (fun hc1034 K=>?_) bj_and ?_
   ·refine .go 2 ?_
    refine .len ?_
    refine rO 2 ?_
    exact SafeOps.drop' 5 rfl rfl rfl K
   ·refine rO 5 ?_
    exact SafeOps.drop' 5 rfl rfl rfl K
   refine .go 1 ?_
   refine SafeOps.bjoinL 5 73 68 rfl (b:=(((((((decide ((a82.Dice.L.length:Int)≤2000))&&(decide ((a82.T.length:Int)≤60)))&&(decide ((a82.Mem.length:Int)≤400)))&&(decide ((a82.Lists.Next.length:Int)≤100)))&&(decide ((a82.Lists.Head.length:Int)≤100)))&&(decide ((a82.Ten.length:Int)≤40)))&&(decide ((a82.Heap.length:Int)≤100)))) (b1:=decide ((a82.Heap.length:Int)≤100)) (b0:=false) (fun hc1035 K=>?_) (fun hc1035 K=>?_) bj_and ?_
   ·refine .go 2 ?_
    refine .len ?_
    refine rO 2 ?_
    exact SafeOps.drop' 5 rfl rfl rfl K
   ·refine rO 5 ?_
    exact SafeOps.drop' 5 rfl rfl rfl K
   refine .go 1 ?_
   refine SafeOps.bjoinL 5 79 74 rfl (b:=((((((((decide ((a82.Dice.L.length:Int)≤2000))&&(decide ((a82.T.length:Int)≤60)))&&(decide ((a82.Mem.length:Int)≤400)))&&(decide ((a82.Lists.Next.length:Int)≤100)))&&(decide ((a82.Lists.Head.length:Int)≤100)))&&(decide ((a82.Ten.length:Int)≤40)))&&(decide ((a82.Heap.length:Int)≤100)))&&(decide ((a82.Fds.length:Int)≤40)))) (b1:=decide ((a82.Fds.length:Int)≤40)) (b0:=false) (fun hc1036 K=>?_) (fun hc1036 K=>?_) bj_and ?_
   ·refine .go 2 ?_
    refine .len ?_
    refine rO 2 ?_
    exact SafeOps.drop' 5 rfl rfl rfl K
   ·refine rO 5 ?_
    exact SafeOps.drop' 5 rfl rfl rfl K
   refine .go 1 ?_
   refine SafeOps.bjoinL 5 85 80 rfl (b:=(((((((((decide ((a82.Dice.L.length:Int)≤2000))&&(decide ((a82.T.length:Int)≤60)))&&(decide ((a82.Mem.length:Int)≤400)))&&(decide ((a82.Lists.Next.length:Int)≤100)))&&(decide ((a82.Lists.Head.length:Int)≤100)))&&(decide ((a82.Ten.length:Int)≤40)))&&(decide ((a82.Heap.length:Int)≤100)))&&(decide ((a82.Fds.length:Int)≤40)))&&(decide ((a82.Sems.length:Int)≤20)))) (b1:=decide ((a82.Sems.length:Int)≤20)) (b0:=false) (fun hc1037 K=>?_) (fun hc1037 K=>?_) bj_and ?_
   ·refine .go 2 ?_
    refine .len ?_
    refine rO 2 ?_
    exact SafeOps.drop' 5 rfl rfl rfl K
   ·refine rO 5 ?_
    exact SafeOps.drop' 5 rfl rfl rfl K
   refine .go 1 ?_
   refine SafeOps.bjoinL 5 91 86 rfl (b:=((((((((((decide ((a82.Dice.L.length:Int)≤2000))&&(decide ((a82.T.length:Int)≤60)))&&(decide ((a82.Mem.length:Int)≤400)))&&(decide ((a82.Lists.Next.length:Int)≤100)))&&(decide ((a82.Lists.Head.length:Int)≤100)))&&(decide ((a82.Ten.length:Int)≤40)))&&(decide ((a82.Heap.length:Int)≤100)))&&(decide ((a82.Fds.length:Int)≤40)))&&(decide ((a82.Sems.length:Int)≤20)))&&(decide ((a82.Joins.length:Int)≤100)))) (b1:=decide ((a82.Joins.length:Int)≤100)) (b0:=false) (fun hc1038 K=>?_) (fun hc1038 K=>?_) bj_and ?_
   ·refine .go 2 ?_
    refine .len ?_
    refine rO 2 ?_
    exact SafeOps.drop' 5 rfl rfl rfl K
   ·refine rO 5 ?_
    exact SafeOps.drop' 5 rfl rfl rfl K
   refine .go 1 ?_
   refine SafeOps.bjoinL 5 97 92 rfl (b:=(((((((((((decide ((a82.Dice.L.length:Int)≤2000))&&(decide ((a82.T.length:Int)≤60)))&&(decide ((a82.Mem.length:Int)≤400)))&&(decide ((a82.Lists.Next.length:Int)≤100)))&&(decide ((a82.Lists.Head.length:Int)≤100)))&&(decide ((a82.Ten.length:Int)≤40)))&&(decide ((a82.Heap.length:Int)≤100)))&&(decide ((a82.Fds.length:Int)≤40)))&&(decide ((a82.Sems.length:Int)≤20)))&&(decide ((a82.Joins.length:Int)≤100)))&&(decide ((a82.W.length:Int)≤20)))) (b1:=decide ((a82.W.length:Int)≤20)) (b0:=false) (fun hc1039 K=>?_) (fun hc1039 K=>?_) bj_and ?_
   ·refine .go 2 ?_
    refine .len ?_
    refine rO 2 ?_
    exact SafeOps.drop' 5 rfl rfl rfl K
   ·refine rO 5 ?_
    exact SafeOps.drop' 5 rfl rfl rfl K
   refine .go 1 ?_
   refine SafeOps.bjoinL 6 104 98 rfl (b:=((((((((((((decide ((a82.Dice.L.length:Int)≤2000))&&(decide ((a82.T.length:Int)≤60)))&&(decide ((a82.Mem.length:Int)≤400)))&&(decide ((a82.Lists.Next.length:Int)≤100)))&&(decide ((a82.Lists.Head.length:Int)≤100)))&&(decide ((a82.Ten.length:Int)≤40)))&&(decide ((a82.Heap.length:Int)≤100)))&&(decide ((a82.Fds.length:Int)≤40)))&&(decide ((a82.Sems.length:Int)≤20)))&&(decide ((a82.Joins.length:Int)≤100)))&&(decide ((a82.W.length:Int)≤20)))&&(decide ((a82.Idle.Is.length:Int)≤70)))) (b1:=decide ((a82.Idle.Is.length:Int)≤70)) (b0:=false) (fun hc1040 K=>?_) (fun hc1040 K=>?_) bj_and ?_
   ·refine .go 3 ?_
    refine .len ?_
    refine rO 2 ?_
    exact SafeOps.drop' 6 rfl rfl rfl K
   ·refine rO 6 ?_
    exact SafeOps.drop' 6 rfl rfl rfl K
   refine .go 1 ?_
   refine SafeOps.bjoinL 6 111 105 rfl (b:=(((((((((((((decide ((a82.Dice.L.length:Int)≤2000))&&(decide ((a82.T.length:Int)≤60)))&&(decide ((a82.Mem.length:Int)≤400)))&&(decide ((a82.Lists.Next.length:Int)≤100)))&&(decide ((a82.Lists.Head.length:Int)≤100)))&&(decide ((a82.Ten.length:Int)≤40)))&&(decide ((a82.Heap.length:Int)≤100)))&&(decide ((a82.Fds.length:Int)≤40)))&&(decide ((a82.Sems.length:Int)≤20)))&&(decide ((a82.Joins.length:Int)≤100)))&&(decide ((a82.W.length:Int)≤20)))&&(decide ((a82.Idle.Is.length:Int)≤70)))&&(decide ((a82.Idle.Stack.length:Int)≤70)))) (b1:=decide ((a82.Idle.Stack.length:Int)≤70)) (b0:=false) (fun hc1041 K=>?_) (fun hc1041 K=>?_) bj_and ?_
   ·refine .go 3 ?_
    refine .len ?_
    refine rO 2 ?_
    exact SafeOps.drop' 6 rfl rfl rfl K
   ·refine rO 6 ?_
    exact SafeOps.drop' 6 rfl rfl rfl K
   refine .go 1 ?_
   refine SafeOps.bjoinL 5 117 112 rfl (b:=((((((((((((((decide ((a82.Dice.L.length:Int)≤2000))&&(decide ((a82.T.length:Int)≤60)))&&(decide ((a82.Mem.length:Int)≤400)))&&(decide ((a82.Lists.Next.length:Int)≤100)))&&(decide ((a82.Lists.Head.length:Int)≤100)))&&(decide ((a82.Ten.length:Int)≤40)))&&(decide ((a82.Heap.length:Int)≤100)))&&(decide ((a82.Fds.length:Int)≤40)))&&(decide ((a82.Sems.length:Int)≤20)))&&(decide ((a82.Joins.length:Int)≤100)))&&(decide ((a82.W.length:Int)≤20)))&&(decide ((a82.Idle.Is.length:Int)≤70)))&&(decide ((a82.Idle.Stack.length:Int)≤70)))&&(decide ((a82.Seen.length:Int)≤2000)))) (b1:=decide ((a82.Seen.length:Int)≤2000)) (b0:=false) (fun hc1042 K=>?_) (fun hc1042 K=>?_) bj_and ?_
   ·refine .go 2 ?_
    refine .len ?_
    refine rO 2 ?_
    exact SafeOps.drop' 5 rfl rfl rfl K
   ·refine rO 5 ?_
    exact SafeOps.drop' 5 rfl rfl rfl K
   refine .go 1 ?_
   refine SafeOps.bjoinL 6 124 118 rfl (b:=(((((((((((((((decide ((a82.Dice.L.length:Int)≤2000))&&(decide ((a82.T.length:Int)≤60)))&&(decide ((a82.Mem.length:Int)≤400)))&&(decide ((a82.Lists.Next.length:Int)≤100)))&&(decide ((a82.Lists.Head.length:Int)≤100)))&&(decide ((a82.Ten.length:Int)≤40)))&&(decide ((a82.Heap.length:Int)≤100)))&&(decide ((a82.Fds.length:Int)≤40)))&&(decide ((a82.Sems.length:Int)≤20)))&&(decide ((a82.Joins.length:Int)≤100)))&&(decide ((a82.W.length:Int)≤20)))&&(decide ((a82.Idle.Is.length:Int)≤70)))&&(decide ((a82.Idle.Stack.length:Int)≤70)))&&(decide ((a82.Seen.length:Int)≤2000)))&&(decide ((a82.Ids.Gen.length:Int)≤300)))) (b1:=decide ((a82.Ids.Gen.length:Int)≤300)) (b0:=false) (fun hc1043 K=>?_) (fun hc1043 K=>?_) bj_and ?_
   ·refine .go 3 ?_
    refine .len ?_
    refine rO 2 ?_
    exact SafeOps.drop' 6 rfl rfl rfl K
   ·refine rO 6 ?_
    exact SafeOps.drop' 6 rfl rfl rfl K
   refine .go 1 ?_
   refine SafeOps.bjoinL 6 131 125 rfl (b:=((((((((((((((((decide ((a82.Dice.L.length:Int)≤2000))&&(decide ((a82.T.length:Int)≤60)))&&(decide ((a82.Mem.length:Int)≤400)))&&(decide ((a82.Lists.Next.length:Int)≤100)))&&(decide ((a82.Lists.Head.length:Int)≤100)))&&(decide ((a82.Ten.length:Int)≤40)))&&(decide ((a82.Heap.length:Int)≤100)))&&(decide ((a82.Fds.length:Int)≤40)))&&(decide ((a82.Sems.length:Int)≤20)))&&(decide ((a82.Joins.length:Int)≤100)))&&(decide ((a82.W.length:Int)≤20)))&&(decide ((a82.Idle.Is.length:Int)≤70)))&&(decide ((a82.Idle.Stack.length:Int)≤70)))&&(decide ((a82.Seen.length:Int)≤2000)))&&(decide ((a82.Ids.Gen.length:Int)≤300)))&&(decide ((a82.Ids.Live.length:Int)≤300)))) (b1:=decide ((a82.Ids.Live.length:Int)≤300)) (b0:=false) (fun hc1044 K=>?_) (fun hc1044 K=>?_) bj_and ?_
   ·refine .go 3 ?_
    refine .len ?_
    refine rO 2 ?_
    exact SafeOps.drop' 6 rfl rfl rfl K
   ·refine rO 6 ?_
    exact SafeOps.drop' 6 rfl rfl rfl K
   refine .go 1 ?_
   cases h
   exact retF
theorem r04_in_sc (a85:Int) (a86:Int) (a87:Int) (r:Bool) (h:r04_in a85 a86 a87=r):SC Tryz.prog gl 133 [I a85,I a86,I a87] (V.bool r):=by
 rw [r04_in] at h
 refine SC.go Tryz.func133 Tryz.call133 5 ?_
 refine .bjA 4 14 10 ?_
 refine .go 1 ?_
 cases h
 exact retF
theorem r04_may_sc (a88:api_Instr) (r:Bool) (h:r04_may a88=r):SC Tryz.prog gl 104 [V.agg a88.cells] (V.bool r):=by
 rw [r04_may] at h
 refine SC.go Tryz.func104 Tryz.call104 5 ?_
 refine .ifC h (fun hc1106 h=>?_) (fun hc1106 h=>?_)
 ·refine .go 2 ?_
  refine .cP (r04_in_sc a88.A 1 100 _ rfl) ?_
  refine .go 1 ?_
  refine .bjA 4 13 9 ?_
  refine .go 1 ?_
  cases h
  exact retF
 ·refine .go 3 ?_
  refine .ifC h (fun hc1109 h=>?_) (fun hc1109 h=>?_)
  ·refine .go 2 ?_
   refine .cP (r04_in_sc a88.A 0 15 _ rfl) ?_
   refine .go 1 ?_
   refine SafeOps.bjoinL 4 24 20 rfl (b:=((r04_in a88.A 0 15)&&(r04_in a88.B 0 3))) (b1:=r04_in a88.B 0 3) (b0:=false) (fun hc1110 K=>?_) (fun hc1110 K=>?_) bj_and ?_
   ·refine .go 2 ?_
    refine .cP (r04_in_sc a88.B 0 3 _ rfl) ?_
    refine rO 1 ?_
    exact SafeOps.drop' 4 rfl rfl rfl K
   ·refine rO 4 ?_
    exact SafeOps.drop' 4 rfl rfl rfl K
   refine .go 1 ?_
   cases h
   exact retF
  ·refine .go 4 ?_
   refine .bjO 4 32 28 ?_
   refine .go 0 ?_
   refine .ifC h (fun hc1113 h=>?_) (fun hc1113 h=>?_)
   ·refine .go 4 ?_
    refine .bjA 4 40 36 ?_
    refine .go 1 ?_
    cases h
    exact retF
   ·refine .go 3 ?_
    refine .ifC h (fun hc1116 h=>?_) (fun hc1116 h=>?_)
    ·refine .go 2 ?_
     refine .cP (r04_in_sc a88.A 1 1000 _ rfl) ?_
     refine .go 1 ?_
     refine .bjA 4 51 47 ?_
     refine .go 1 ?_
     cases h
     exact retF
    ·refine .go 3 ?_
     refine .ifC h (fun hc1119 h=>?_) (fun hc1119 h=>?_)
     ·refine .go 2 ?_
      refine .cP (r04_in_sc a88.A 0 15 _ rfl) ?_
      refine .go 1 ?_
      refine .bjA 4 62 58 ?_
      refine .go 1 ?_
      cases h
      exact retF
     ·refine .go 3 ?_
      refine .ifC h (fun hc1122 h=>?_) (fun hc1122 h=>?_)
      ·refine .go 2 ?_
       refine .cP (r04_in_sc a88.A 0 3 _ rfl) ?_
       refine .go 1 ?_
       refine .bjA 4 73 69 ?_
       refine .go 1 ?_
       cases h
       exact retF
      ·refine .go 4 ?_
       refine .bjO 4 81 77 ?_
       refine .go 1 ?_
       refine SafeOps.bjoinL 4 86 82 rfl (b:=(((a88.Op==7)||(a88.Op==8))&&(r04_in a88.A 0 7))) (b1:=r04_in a88.A 0 7) (b0:=false) (fun hc1125 K=>?_) (fun hc1125 K=>?_) bj_and ?_
       ·refine .go 2 ?_
        refine .cP (r04_in_sc a88.A 0 7 _ rfl) ?_
        refine rO 1 ?_
        exact SafeOps.drop' 4 rfl rfl rfl K
       ·refine rO 4 ?_
        exact SafeOps.drop' 4 rfl rfl rfl K
       refine .go 1 ?_
       refine .bjA 4 91 87 ?_
       refine .go 1 ?_
       cases h
       exact retF
theorem r04_Check_sc (a89:List api_Instr) (r:Int) (h:r04_Check a89=some r):SC Tryz.prog gl 57 [V.sl 3 (rws api_Instr.cells a89)] (I r):=by
 rw [r04_Check] at h
 refine SC.go Tryz.func57 Tryz.call57 2 ?_
 refine .len ?_
 refine .go 2 ?_
 refine SafeOps.bjoinL 4 12 8 rfl (b:=((decide ((a89.length:Int) < 1))||(decide ((a89.length:Int) > 32)))) (b1:=true) (b0:=decide ((a89.length:Int) > 32)) (fun hc1137 K=>?_) (fun hc1137 K=>?_) bj_or ?_
 ·refine rO 4 ?_
  exact SafeOps.drop' 4 rfl rfl rfl K
 ·refine .go 1 ?_
  refine .len ?_
  refine rO 2 ?_
  exact SafeOps.drop' 4 rfl rfl rfl K
 refine .go 0 ?_
 refine .ifC h (fun hc1138 h=>?_) (fun hc1138 h=>?_)
 ·refine .go 1 ?_
  cases h
  exact retF
 ·refine .go 1 ?_
  refine .len ?_
  refine .go 1 ?_
  refine Safe.loopS (fun(v90:Int)=>⟨Tryz.f57.ntmps,[(13,V.sl 3 (rws api_Instr.cells a89)),(14,I (a89.length:Int)),(15,I v90)],[],[],[]⟩) h covA ?_
  intro v90 ohr1147 h hr1147
  rw [r04_Check_s1] at h
  refine .go 1 ?_
  refine .ifC h (fun hc1148 h=>?_) (fun hc1148 h=>?_)
  ·refine .go 0 ?_
   refine okG h (fun hb1149 h=>?_)
   refine .ix hb1149 ?_
   refine .ld hb1149 ?_
   refine .go 3 ?_
   refine .cP (r04_may_sc (gt a89 v90) _ rfl) ?_
   refine .go 1 ?_
   refine .ifC h (fun hc1150 h=>?_) (fun hc1150 h=>?_)
   ·refine .go 1 ?_
    replace h:=inr_out h hr1147
    cases h
    exact retF
   ·refine .go 2 ?_
    exact lpK ⟨_,next_out h,covA⟩
  ·refine .go 0 ?_
   replace h:=inr_out h hr1147
   refine .go 1 ?_
   cases h
   exact retF
theorem r04_CheckAll_sc (a91:List (List api_Instr)) (r:Int) (h:r04_CheckAll a91=some r):SC Tryz.prog gl 29 [V.sl 1 (rws (fun l=>[V.sl 3 (rws api_Instr.cells l)]) a91)] (I r):=by
 rw [r04_CheckAll] at h
 refine SC.go Tryz.func29 Tryz.call29 2 ?_
 refine .len ?_
 refine .go 2 ?_
 refine SafeOps.bjoinL 4 14 10 rfl (b:=((decide ((a91.length:Int) < 1))||(decide ((a91.length:Int) > 16)))) (b1:=true) (b0:=decide ((a91.length:Int) > 16)) (fun hc1212 K=>?_) (fun hc1212 K=>?_) bj_or ?_
 ·refine rO 4 ?_
  exact SafeOps.drop' 4 rfl rfl rfl K
 ·refine .go 1 ?_
  refine .len ?_
  refine rO 2 ?_
  exact SafeOps.drop' 4 rfl rfl rfl K
 refine .go 0 ?_
 refine .ifC h (fun hc1213 h=>?_) (fun hc1213 h=>?_)
 ·refine .go 1 ?_
  cases h
  exact retF
 ·refine .go 1 ?_
  refine .len ?_
  refine .go 1 ?_
  refine Safe.loopS (fun(v92:Int)=>⟨Tryz.f29.ntmps,[(0,V.sl 1 (rws (fun l=>[V.sl 3 (rws api_Instr.cells l)]) a91)),(15,V.sl 1 (rws (fun l=>[V.sl 3 (rws api_Instr.cells l)]) a91)),(16,I (a91.length:Int)),(17,I v92)],[],[],[]⟩) h covA ?_
  intro v92 ohr1256 h hr1256
  rw [r04_CheckAll_s3] at h
  refine .go 1 ?_
  refine .ifC h (fun hc1257 h=>?_) (fun hc1257 h=>?_)
  ·refine .go 0 ?_
   refine okG h (fun hb1258 h=>?_)
   refine .ix hb1258 ?_
   refine .ld hb1258 ?_
   refine .go 2 ?_
   refine bindG h ?_
   intro x94 he1260 h
   refine .cP (r04_Check_sc (gt a91 v92) _ he1260) ?_
   refine .go 1 ?_
   refine .ifC h (fun hc1261 h=>?_) (fun hc1261 h=>?_)
   ·refine .go 1 ?_
    replace h:=inr_out h hr1256
    cases h
    exact retF
   ·refine .go 1 ?_
    refine .len ?_
    refine .go 1 ?_
    refine Safe.loopS (fun(v93:Int)=>⟨Tryz.f29.ntmps,[(0,V.sl 1 (rws (fun l=>[V.sl 3 (rws api_Instr.cells l)]) a91)),(15,V.sl 1 (rws (fun l=>[V.sl 3 (rws api_Instr.cells l)]) a91)),(16,I (a91.length:Int)),(17,I v92),(24,V.sl 3 (rws api_Instr.cells (gt a91 v92))),(25,I ((gt a91 v92).length:Int)),(26,I v93)],[],[],[]⟩) h covA ?_
    intro v93 ohr1272 h hr1272
    rw [r04_CheckAll_s4] at h
    refine .go 1 ?_
    refine .ifC h (fun hc1273 h=>?_) (fun hc1273 h=>?_)
    ·refine .go 0 ?_
     refine okG h (fun hb1274 h=>?_)
     refine .ix hb1274 ?_
     refine .ld hb1274 ?_
     refine .go 6 ?_
     refine SafeOps.bjoinL 6 39 33 rfl (b:=((((gt (gt a91 v92) v93).Op)==2)&&(decide (((gt (gt a91 v92) v93).A)≥(a91.length:Int))))) (b1:=decide (((gt (gt a91 v92) v93).A)≥(a91.length:Int))) (b0:=false) (fun hc1275 K=>?_) (fun hc1275 K=>?_) bj_and ?_
     ·refine .go 3 ?_
      refine .len ?_
      refine rO 2 ?_
      exact SafeOps.drop' 6 rfl rfl rfl K
     ·refine rO 6 ?_
      exact SafeOps.drop' 6 rfl rfl rfl K
     refine .go 0 ?_
     refine .ifC h (fun hc1276 h=>?_) (fun hc1276 h=>?_)
     ·refine .go 1 ?_
      replace h:=inr_out h hr1272
      replace h:=inr_out h hr1256
      cases h
      exact retF
     ·refine .go 2 ?_
      exact lpK ⟨_,next_out h,covA⟩
    ·refine .go 0 ?_
     replace h:=inr_out h hr1272
     refine .go 2 ?_
     exact lpK ⟨_,next_out h,covA⟩
  ·refine .go 0 ?_
   replace h:=inr_out h hr1256
   refine .go 1 ?_
   cases h
   exact retF
theorem r04_Run_sc (a95:List api_Instr) (r:List api_Instr) (h:r04_Run a95=some r):SC Tryz.prog gl 58 [V.sl 3 (rws api_Instr.cells a95)] (V.sl 3 (rws api_Instr.cells r)):=by
 rw [r04_Run] at h
 refine SC.go Tryz.func58 Tryz.call58 2 ?_
 refine .len ?_
 refine .go 1 ?_
 refine Safe.loopS (fun(v96:Int)=>⟨Tryz.f58.ntmps,[(0,V.sl 3 (rws api_Instr.cells a95)),(5,V.sl 3 (rws api_Instr.cells a95)),(6,I (a95.length:Int)),(7,I v96)],[],[],[]⟩) h covA ?_
 intro v96 ohr1336 h hr1336
 rw [r04_Run_s1] at h
 refine .go 1 ?_
 refine .ifC h (fun hc1337 h=>?_) (fun hc1337 h=>?_)
 ·refine .go 1 ?_
  refine okG h (fun hb1338 h=>?_)
  refine .ix hb1338 ?_
  refine .ld hb1338 ?_
  refine .go 6 ?_
  refine .ifC h (fun hc1339 h=>?_) (fun hc1339 h=>?_)
  ·refine .go 3 ?_
   refine okG h (fun hb1340 h=>?_)
   refine Q0 E_good rfl (v:=V.sl 3 (rws api_Instr.cells (sub a95 0 (IntKind.i64.wrap (v96+1))))) (.slH (f:=api_Instr.cells) rfl rfl rfl rfl rfl hb1340) ?_
   refine .go 1 ?_
   replace h:=inr_out h hr1336
   cases h
   exact retF
  ·refine .go 2 ?_
   exact lpK ⟨_,next_out h,covA⟩
 ·refine .go 0 ?_
  replace h:=inr_out h hr1336
  refine .go 2 ?_
  cases h
  exact retF
theorem r04_table_sc (a102:List (List api_Instr)) (r:List Int) (h:r04_table a102=some r):SC Tryz.prog gl 30 [V.sl 1 (rws (fun l=>[V.sl 3 (rws api_Instr.cells l)]) a102)] (V.own 1 (rws (fun n=>[I n]) r)):=by
 rw [r04_table] at h
 refine SC.go Tryz.func30 Tryz.call30 3 ?_
 refine .len ?_
 refine .go 1 ?_
 refine Safe.loopS (fun((v105,v106):(List Int)×Int)=>⟨Tryz.f30.ntmps,[(0,V.sl 1 (rws (fun l=>[V.sl 3 (rws api_Instr.cells l)]) a102)),(3,V.ref [7000,118,3] 0 (rws (fun n=>[I n]) v105).length),(9,I (a102.length:Int)),(10,I v106)],[([7000,118,3],Obj.rows 1 (rws (fun n=>[I n]) v105) false)],[],[]⟩) h (.empty [7000,118,3] 1 rfl (.cov ⟨rfl,rfl,(ut (upT_cons (.nilref _) (ut (ut upT_nil)))),(uo upOb_nil),upOut_nil,rfl⟩)) ?_
 rintro ⟨v105,v106⟩ ohr1893 h hr1893
 rw [r04_table_s2] at h
 refine .go 1 ?_
 refine .ifC h (fun hc1894 h=>?_) (fun hc1894 h=>?_)
 ·refine .go 1 ?_
  refine SafeOps.quiet1 E_good rfl rfl rfl (.litM (f:=(fun n=>[I n])) (xs:=[0]) rfl rfl (by decide) rfl rfl rfl rfl rfl) rfl ?_
  refine okG h (fun hb1895 h=>?_)
  refine SafeOps.appendM (fun n=>[I n]) (xs:=v105) (ys:=[0]) E_good rfl rfl rfl rfl rfl rfl rfl rfl rfl (.own rfl) (.own rfl) (fun _=>rfl) hb1895 ?_
  refine .go 3 ?_
  exact lpK ⟨_,next_out h,(.ren [14] [7000,118,3] covA)⟩
 ·refine .go 0 ?_
  replace h:=inr_out h hr1893
  refine .go 1 ?_
  refine .len ?_
  refine .go 1 ?_
  refine Safe.loopS (fun((v104,v103):(List Int)×Int)=>⟨Tryz.f30.ntmps,[(0,V.sl 1 (rws (fun l=>[V.sl 3 (rws api_Instr.cells l)]) a102)),(3,V.ref [7000,118,3] 0 (rws (fun n=>[I n]) v104).length),(17,I (a102.length:Int)),(18,I v103)],[([7000,118,3],Obj.rows 1 (rws (fun n=>[I n]) v104) false)],[],[]⟩) h covA ?_
  rintro ⟨v104,v103⟩ ohr2253 h hr2253
  rw [r04_table_s17] at h
  refine .go 1 ?_
  refine .ifC h (fun hc2254 h=>?_) (fun hc2254 h=>?_)
  ·refine .go 1 ?_
   refine .len ?_
   refine .go 1 ?_
   refine Safe.loopS (fun((v97,v98):(List Int)×Int)=>⟨Tryz.f30.ntmps,[(0,V.sl 1 (rws (fun l=>[V.sl 3 (rws api_Instr.cells l)]) a102)),(3,V.ref [7000,118,3] 0 (rws (fun n=>[I n]) v97).length),(17,I (a102.length:Int)),(18,I v103),(21,I (a102.length:Int)),(22,I v98)],[([7000,118,3],Obj.rows 1 (rws (fun n=>[I n]) v97) false)],[],[]⟩) h covA ?_
   rintro ⟨v97,v98⟩ ohr2373 h hr2373
   rw [r04_table_s22] at h
   refine .go 1 ?_
   refine .ifC h (fun hc2374 h=>?_) (fun hc2374 h=>?_)
   ·refine .go 5 ?_
    refine okG h (fun hb2375 h=>?_)
    refine .ix hb2375 ?_
    refine .ld hb2375 ?_
    refine bindG h ?_
    intro x99 he2377 h
    refine .cP (r04_Run_sc (gt a102 v98) _ he2377) ?_
    refine .len ?_
    refine .go 1 ?_
    refine Safe.loopS (fun((v100,v101):Int×Int)=>⟨Tryz.f30.ntmps,[(0,V.sl 1 (rws (fun l=>[V.sl 3 (rws api_Instr.cells l)]) a102)),(3,V.ref [7000,118,3] 0 (rws (fun n=>[I n]) v97).length),(4,I v98),(5,I v100),(17,I (a102.length:Int)),(18,I v103),(21,I (a102.length:Int)),(22,I v98),(29,V.sl 3 (rws api_Instr.cells x99)),(30,I (x99.length:Int)),(31,I v101)],[([7000,118,3],Obj.rows 1 (rws (fun n=>[I n]) v97) false)],[],[]⟩) h covA ?_
    rintro ⟨v100,v101⟩ ohr2422 h hr2422
    rw [r04_table_s24] at h
    refine .go 1 ?_
    refine .ifC h (fun hc2423 h=>?_) (fun hc2423 h=>?_)
    ·refine .go 0 ?_
     refine okG h (fun hb2424 h=>?_)
     refine .ix hb2424 ?_
     refine .ld hb2424 ?_
     refine .go 6 ?_
     refine .bjA 3 41 38 ?_
     refine .go 0 ?_
     refine .ifC h (fun hc2426 h=>?_) (fun hc2426 h=>?_)
     ·refine .go 3 ?_
      refine okG h (fun hb2427 h=>?_)
      refine Q0 E_good rfl (v:=V.ptr [7000,118,3] (0+Int.toNat ((gt x99 v101).A)) 0) (.idxRefM (f:=(fun n=>[I n])) (xs:=v97) rfl rfl rfl rfl rfl rfl hb2427) ?_
      refine Q0 E_good rfl (v:=I (gt v97 ((gt x99 v101).A))) (.load rfl rfl (.rowsM (f:=(fun n=>[I n])) (xs:=v97) hb2427 rfl rfl) rfl) ?_
      refine .go 1 ?_
      refine .ifC h (fun hc2428 h=>?_) (fun hc2428 h=>?_)
      ·refine .go 3 ?_
       exact lpK ⟨_,next_out h,covA⟩
      ·refine .go 4 ?_
       refine okG h (fun hb2429 h=>?_)
       refine Q0 E_good rfl (v:=V.ptr [7000,118,3] (0+Int.toNat ((gt x99 v101).A)) 0) (.idxRefM (f:=(fun n=>[I n])) (xs:=v97) rfl rfl rfl rfl rfl rfl hb2429) ?_
       refine Q0 E_good rfl (v:=I (gt v97 ((gt x99 v101).A))) (.load rfl rfl (.rowsM (f:=(fun n=>[I n])) (xs:=v97) hb2429 rfl rfl) rfl) ?_
       refine .go 5 ?_
       exact lpK ⟨_,next_out h,covA⟩
     ·refine .go 2 ?_
      exact lpK ⟨_,next_out h,covA⟩
    ·refine .go 0 ?_
     replace h:=inr_out h hr2422
     refine .go 3 ?_
     refine okG h (fun hb2430 h=>?_)
     refine Q0 E_good rfl (v:=V.ptr [7000,118,3] (0+Int.toNat v98) 0) (.idxRefM (f:=(fun n=>[I n])) (xs:=v97) rfl rfl rfl rfl rfl rfl hb2430) ?_
     refine SafeOps.store (z:=Obj.rows 1 (rws (fun n=>[I n]) (st v97 v98 v100)) false) E_good rfl rfl rfl rfl rfl rfl rfl (.rowsM (f:=(fun n=>[I n])) (xs:=v97) (y:=v100) hb2430 rfl rfl rfl rfl) ?_
     refine .see 3 (u:=V.ref [7000,118,3] 0 (rws (fun n=>[I n]) (st v97 v98 v100)).length) rfl (.len (by simp [rws,st])) ?_
     refine .see 57 (u:=V.ref [7000,118,3] 0 (rws (fun n=>[I n]) (st v97 v98 v100)).length) rfl (.len (by simp [rws,st])) ?_
     refine .go 2 ?_
     exact lpK ⟨_,next_out h,covA⟩
   ·refine .go 0 ?_
    replace h:=inr_out h hr2373
    refine .go 2 ?_
    exact lpK ⟨_,next_out h,covA⟩
  ·refine .go 0 ?_
   replace h:=inr_out h hr2253
   refine .go 2 ?_
   cases h
   refine retG ?_
   exact ⟨_,(.own rfl rfl),by simp⟩
theorem r04_Tasks_sc (a107:List (List api_Instr)) (a108:Int) (r:Int×Int) (h:r04_Tasks a107 a108=some r):SC Tryz.prog gl 18 [V.sl 1 (rws (fun l=>[V.sl 3 (rws api_Instr.cells l)]) a107),I a108] (V.tup [I r.1,I r.2]):=by
 rw [r04_Tasks] at h
 refine SC.go Tryz.func18 Tryz.call18 3 ?_
 refine bindG h ?_
 intro x109 he2437 h
 refine .cP (r04_CheckAll_sc a107 _ he2437) ?_
 refine .go 2 ?_
 refine .bjO 3 13 10 ?_
 refine .go 1 ?_
 refine SafeOps.bjoinL 5 19 14 rfl (b:=(((x109 != 0)||(decide (a108 < 0)))||(decide (a108≥(a107.length:Int))))) (b1:=true) (b0:=decide (a108≥(a107.length:Int))) (fun hc2439 K=>?_) (fun hc2439 K=>?_) bj_or ?_
 ·refine rO 5 ?_
  exact SafeOps.drop' 5 rfl rfl rfl K
 ·refine .go 2 ?_
  refine .len ?_
  refine rO 2 ?_
  exact SafeOps.drop' 5 rfl rfl rfl K
 refine .go 0 ?_
 refine .ifC h (fun hc2440 h=>?_) (fun hc2440 h=>?_)
 ·refine .go 2 ?_
  cases h
  exact retF
 ·refine .go 1 ?_
  refine bindG h ?_
  intro x110 he2442 h
  refine .cP (r04_table_sc a107 _ he2442) ?_
  refine .go 1 ?_
  refine okG h (fun hb2443 h=>?_)
  refine Q0 E_good rfl (v:=V.ptr [21,0] (0+Int.toNat a108) 0) (.idxRefM (f:=(fun n=>[I n])) (xs:=x110) rfl rfl rfl rfl rfl rfl hb2443) ?_
  refine Q0 E_good rfl (v:=I (gt x110 a108)) (.load rfl rfl (.rowsM (f:=(fun n=>[I n])) (xs:=x110) hb2443 rfl rfl) rfl) ?_
  refine .go 3 ?_
  refine .ifC h (fun hc2444 h=>?_) (fun hc2444 h=>?_)
  ·refine .go 2 ?_
   cases h
   exact retF
  ·refine .go 2 ?_
   refine .ifC h (fun hc2445 h=>?_) (fun hc2445 h=>?_)
   ·refine .go 2 ?_
    cases h
    exact retF
   ·refine .go 3 ?_
    cases h
    exact retF
theorem r04_Units_sc (a114:List api_Instr) (r:Int×Int) (h:r04_Units a114=some r):SC Tryz.prog gl 59 [V.sl 3 (rws api_Instr.cells a114)] (V.tup [I r.1,I r.2]):=by
 rw [r04_Units] at h
 refine SC.go Tryz.func59 Tryz.call59 3 ?_
 refine bindG h ?_
 intro x115 he2478 h
 refine .cP (r04_Check_sc a114 _ he2478) ?_
 refine .go 1 ?_
 refine .ifC h (fun hc2479 h=>?_) (fun hc2479 h=>?_)
 ·refine .go 2 ?_
  cases h
  exact retF
 ·refine .go 2 ?_
  refine bindG h ?_
  intro x111 he2481 h
  refine .cP (r04_Run_sc a114 _ he2481) ?_
  refine .len ?_
  refine .go 1 ?_
  refine Safe.loopS (fun((v112,v113):Int×Int)=>⟨Tryz.f59.ntmps,[(4,I v112),(11,V.sl 3 (rws api_Instr.cells x111)),(12,I (x111.length:Int)),(13,I v113)],[],[],[]⟩) h covA ?_
  rintro ⟨v112,v113⟩ ohr2492 h hr2492
  rw [r04_Units_s1] at h
  refine .go 1 ?_
  refine .ifC h (fun hc2493 h=>?_) (fun hc2493 h=>?_)
  ·refine .go 0 ?_
   refine okG h (fun hb2494 h=>?_)
   refine .ix hb2494 ?_
   refine .ld hb2494 ?_
   refine .go 5 ?_
   refine .ifC h (fun hc2495 h=>?_) (fun hc2495 h=>?_)
   ·refine .go 7 ?_
    exact lpK ⟨_,next_out h,covA⟩
   ·refine .go 5 ?_
    exact lpK ⟨_,next_out h,covA⟩
  ·refine .go 0 ?_
   replace h:=inr_out h hr2492
   refine .go 3 ?_
   cases h
   exact retF
theorem r24_sum_sc (a120:List (List api_Instr)) (a116:List Int) (a121:List api_Instr) (r:Int) (h:r24_sum a120 a116 a121=some r):SC Tryz.prog gl 31 [V.sl 1 (rws (fun l=>[V.sl 3 (rws api_Instr.cells l)]) a120),V.sl 1 (rws (fun n=>[I n]) a116),V.sl 3 (rws api_Instr.cells a121)] (I r):=by
 rw [r24_sum] at h
 refine SC.go Tryz.func31 Tryz.call31 2 ?_
 refine bindG h ?_
 rintro ⟨x122,x123⟩ he2527 h
 refine .cP (r04_Units_sc a121 _ he2527) ?_
 refine .go 7 ?_
 refine .ifC h (fun hc2528 h=>?_) (fun hc2528 h=>?_)
 ·refine .go 1 ?_
  cases h
  exact retF
 ·refine .go 4 ?_
  refine bindG h ?_
  intro x117 he2530 h
  refine .cP (r04_Run_sc a121 _ he2530) ?_
  refine .len ?_
  refine .go 1 ?_
  refine Safe.loopS (fun((v118,v119):Int×Int)=>⟨Tryz.f31.ntmps,[(1,V.sl 1 (rws (fun n=>[I n]) a116)),(9,I v118),(22,V.sl 3 (rws api_Instr.cells x117)),(23,I (x117.length:Int)),(24,I v119)],[],[],[]⟩) h covA ?_
  rintro ⟨v118,v119⟩ ohr2547 h hr2547
  rw [r24_sum_s1] at h
  refine .go 1 ?_
  refine .ifC h (fun hc2548 h=>?_) (fun hc2548 h=>?_)
  ·refine .go 0 ?_
   refine okG h (fun hb2549 h=>?_)
   refine .ix hb2549 ?_
   refine .ld hb2549 ?_
   refine .go 5 ?_
   refine .ifC h (fun hc2550 h=>?_) (fun hc2550 h=>?_)
   ·refine .go 3 ?_
    refine okG h (fun hb2551 h=>?_)
    refine .ix hb2551 ?_
    refine .ld hb2551 ?_
    refine .go 1 ?_
    refine .ifC h (fun hc2552 h=>?_) (fun hc2552 h=>?_)
    ·refine .go 1 ?_
     replace h:=inr_out h hr2547
     cases h
     exact retF
    ·refine .go 4 ?_
     refine okG h (fun hb2553 h=>?_)
     refine .ix hb2553 ?_
     refine .ld hb2553 ?_
     refine .go 5 ?_
     exact lpK ⟨_,next_out h,covA⟩
   ·refine .go 2 ?_
    exact lpK ⟨_,next_out h,covA⟩
  ·refine .go 0 ?_
   replace h:=inr_out h hr2547
   refine .go 2 ?_
   cases h
   exact retF
theorem r24_table_sc (a124:List (List api_Instr)) (r:List Int) (h:r24_table a124=some r):SC Tryz.prog gl 19 [V.sl 1 (rws (fun l=>[V.sl 3 (rws api_Instr.cells l)]) a124)] (V.own 1 (rws (fun n=>[I n]) r)):=by
 rw [r24_table] at h
 refine SC.go Tryz.func19 Tryz.call19 2 ?_
 refine .len ?_
 refine okG h (fun hb2619 h=>?_)
 refine SafeOps.quiet1 E_good rfl rfl rfl (.makeM (f:=(fun n=>[I n])) (d:=(0:Int)) rfl rfl rfl rfl hb2619 rfl rfl rfl) rfl ?_
 refine .go 2 ?_
 refine .len ?_
 refine .go 1 ?_
 refine Safe.loopS (fun((v129,v125):(List Int)×Int)=>⟨Tryz.f19.ntmps,[(0,V.sl 1 (rws (fun l=>[V.sl 3 (rws api_Instr.cells l)]) a124)),(3,V.ref [8] 0 (rws (fun n=>[I n]) v129).length),(10,I (a124.length:Int)),(11,I v125)],[([8],Obj.rows 1 (rws (fun n=>[I n]) v129) false)],[],[]⟩) h covA ?_
 rintro ⟨v129,v125⟩ ohr2665 h hr2665
 rw [r24_table_s3] at h
 refine .go 1 ?_
 refine .ifC h (fun hc2666 h=>?_) (fun hc2666 h=>?_)
 ·refine .go 1 ?_
  refine .len ?_
  refine .go 1 ?_
  refine Safe.loopS (fun((v126,v127):(List Int)×Int)=>⟨Tryz.f19.ntmps,[(0,V.sl 1 (rws (fun l=>[V.sl 3 (rws api_Instr.cells l)]) a124)),(3,V.ref [8] 0 (rws (fun n=>[I n]) v126).length),(10,I (a124.length:Int)),(11,I v125),(13,V.sl 1 (rws (fun l=>[V.sl 3 (rws api_Instr.cells l)]) a124)),(14,I (a124.length:Int)),(15,I v127)],[([8],Obj.rows 1 (rws (fun n=>[I n]) v126) false)],[],[]⟩) h covA ?_
  rintro ⟨v126,v127⟩ ohr2681 h hr2681
  rw [r24_table_s4] at h
  refine .go 1 ?_
  refine .ifC h (fun hc2682 h=>?_) (fun hc2682 h=>?_)
  ·refine .go 1 ?_
   refine okG h (fun hb2683 h=>?_)
   refine .ix hb2683 ?_
   refine .ld hb2683 ?_
   refine .go 7 ?_
   refine bindG h ?_
   intro x128 he2685 h
   refine .cS (r24_sum_sc a124 v126 (gt a124 v127) _ he2685) ?_
   refine okG h (fun hb2686 h=>?_)
   refine Q0 E_good rfl (v:=V.ptr [8] (0+Int.toNat v127) 0) (.idxRefM (f:=(fun n=>[I n])) (xs:=v126) rfl rfl rfl rfl rfl rfl hb2686) ?_
   refine SafeOps.store (z:=Obj.rows 1 (rws (fun n=>[I n]) (st v126 v127 x128)) false) E_good rfl rfl rfl rfl rfl rfl rfl (.rowsM (f:=(fun n=>[I n])) (xs:=v126) (y:=x128) hb2686 rfl rfl rfl rfl) ?_
   refine .see 3 (u:=V.ref [8] 0 (rws (fun n=>[I n]) (st v126 v127 x128)).length) rfl (.len (by simp [rws,st])) ?_
   refine .see 20 (u:=V.ref [8] 0 (rws (fun n=>[I n]) (st v126 v127 x128)).length) rfl (.len (by simp [rws,st])) ?_
   refine .see 23 (u:=V.ref [8] 0 (rws (fun n=>[I n]) (st v126 v127 x128)).length) rfl (.len (by simp [rws,st])) ?_
   refine .go 2 ?_
   exact lpK ⟨_,next_out h,covA⟩
  ·refine .go 0 ?_
   replace h:=inr_out h hr2681
   refine .go 2 ?_
   exact lpK ⟨_,next_out h,covA⟩
 ·refine .go 0 ?_
  replace h:=inr_out h hr2665
  refine .go 2 ?_
  cases h
  refine retG ?_
  exact ⟨_,(.own rfl rfl),by simp⟩
theorem r24_Full_sc (a130:List (List api_Instr)) (a131:Int) (r:Int×Int) (h:r24_Full a130 a131=some r):SC Tryz.prog gl 9 [V.sl 1 (rws (fun l=>[V.sl 3 (rws api_Instr.cells l)]) a130),I a131] (V.tup [I r.1,I r.2]):=by
 rw [r24_Full] at h
 refine SC.go Tryz.func9 Tryz.call9 4 ?_
 refine bindG h ?_
 rintro ⟨x132,x133⟩ he2693 h
 refine .cP (r04_Tasks_sc a130 a131 _ he2693) ?_
 refine .go 7 ?_
 refine .ifC h (fun hc2694 h=>?_) (fun hc2694 h=>?_)
 ·refine .go 3 ?_
  cases h
  exact retF
 ·refine .go 1 ?_
  refine bindG h ?_
  intro x134 he2696 h
  refine .cP (r24_table_sc a130 _ he2696) ?_
  refine .go 1 ?_
  refine okG h (fun hb2697 h=>?_)
  refine Q0 E_good rfl (v:=V.ptr [19,0] (0+Int.toNat a131) 0) (.idxRefM (f:=(fun n=>[I n])) (xs:=x134) rfl rfl rfl rfl rfl rfl hb2697) ?_
  refine Q0 E_good rfl (v:=I (gt x134 a131)) (.load rfl rfl (.rowsM (f:=(fun n=>[I n])) (xs:=x134) hb2697 rfl rfl) rfl) ?_
  refine .go 3 ?_
  refine .ifC h (fun hc2698 h=>?_) (fun hc2698 h=>?_)
  ·refine .go 2 ?_
   cases h
   exact retF
  ·refine .go 3 ?_
   cases h
   exact retF
theorem entry_within_sc (a135:Int) (a136:Int) (a137:Int) (r:Bool) (h:entry_within a135 a136 a137=r):SC Tryz.prog gl 105 [I a135,I a136,I a137] (V.bool r):=by
 rw [entry_within] at h
 refine SC.go Tryz.func105 Tryz.call105 5 ?_
 refine .bjA 4 14 10 ?_
 refine .go 1 ?_
 cases h
 exact retF
theorem lodge_within_int_sc (a138:Int) (a139:Int) (a140:Int) (r:Bool) (h:lodge_within_int a138 a139 a140=r):SC Tryz.prog gl 137 [I a138,I a139,I a140] (V.bool r):=by
 rw [lodge_within_int] at h
 refine SC.go Tryz.func137 Tryz.call137 5 ?_
 refine .bjA 4 14 10 ?_
 refine .go 1 ?_
 cases h
 exact retF
theorem lodge_within_int64_sc (a141:Int) (a142:Int) (a143:Int) (r:Bool) (h:lodge_within_int64 a141 a142 a143=r):SC Tryz.prog gl 138 [I a141,I a142,I a143] (V.bool r):=by
 rw [lodge_within_int64] at h
 refine SC.go Tryz.func138 Tryz.call138 5 ?_
 refine .bjA 4 14 10 ?_
 refine .go 1 ?_
 cases h
 exact retF
theorem lodge_odd_sc (a144:api_Tenant) (r:Bool) (h:lodge_odd a144=r):SC Tryz.prog gl 114 [V.agg a144.cells] (V.bool r):=by
 rw [lodge_odd] at h
 refine SC.go Tryz.func114 Tryz.call114 4 ?_
 refine .cP (lodge_within_int_sc a144.Weight 1 16 _ rfl) ?_
 refine .go 2 ?_
 refine SafeOps.bjoinL 5 12 7 rfl (b:=((!(lodge_within_int a144.Weight 1 16))||(!(lodge_within_int a144.Quota 0 256)))) (b1:=true) (b0:=(!(lodge_within_int a144.Quota 0 256))) (fun hc3046 K=>?_) (fun hc3046 K=>?_) bj_or ?_
 ·refine rO 5 ?_
  exact SafeOps.drop' 5 rfl rfl rfl K
 ·refine .go 2 ?_
  refine .cP (lodge_within_int_sc a144.Quota 0 256 _ rfl) ?_
  refine rO 2 ?_
  exact SafeOps.drop' 5 rfl rfl rfl K
 refine .go 1 ?_
 refine SafeOps.bjoinL 7 20 13 rfl (b:=(((!(lodge_within_int a144.Weight 1 16))||(!(lodge_within_int a144.Quota 0 256)))||(!(lodge_within_int a144.Live 0 a144.Quota)))) (b1:=true) (b0:=(!(lodge_within_int a144.Live 0 a144.Quota))) (fun hc3047 K=>?_) (fun hc3047 K=>?_) bj_or ?_
 ·refine rO 7 ?_
  exact SafeOps.drop' 7 rfl rfl rfl K
 ·refine .go 4 ?_
  refine .cP (lodge_within_int_sc a144.Live 0 a144.Quota _ rfl) ?_
  refine rO 2 ?_
  exact SafeOps.drop' 7 rfl rfl rfl K
 refine .go 1 ?_
 refine SafeOps.bjoinL 5 26 21 rfl (b:=((((!(lodge_within_int a144.Weight 1 16))||(!(lodge_within_int a144.Quota 0 256)))||(!(lodge_within_int a144.Live 0 a144.Quota)))||(!(lodge_within_int64 a144.Tag 0 1152921504606846976)))) (b1:=true) (b0:=(!(lodge_within_int64 a144.Tag 0 1152921504606846976))) (fun hc3048 K=>?_) (fun hc3048 K=>?_) bj_or ?_
 ·refine rO 5 ?_
  exact SafeOps.drop' 5 rfl rfl rfl K
 ·refine .go 2 ?_
  refine .cP (lodge_within_int64_sc a144.Tag 0 1152921504606846976 _ rfl) ?_
  refine rO 2 ?_
  exact SafeOps.drop' 5 rfl rfl rfl K
 refine .go 1 ?_
 refine SafeOps.bjoinL 5 32 27 rfl (b:=(((((!(lodge_within_int a144.Weight 1 16))||(!(lodge_within_int a144.Quota 0 256)))||(!(lodge_within_int a144.Live 0 a144.Quota)))||(!(lodge_within_int64 a144.Tag 0 1152921504606846976)))||(!(lodge_within_int64 a144.Ran 0 1099511627776)))) (b1:=true) (b0:=(!(lodge_within_int64 a144.Ran 0 1099511627776))) (fun hc3049 K=>?_) (fun hc3049 K=>?_) bj_or ?_
 ·refine rO 5 ?_
  exact SafeOps.drop' 5 rfl rfl rfl K
 ·refine .go 2 ?_
  refine .cP (lodge_within_int64_sc a144.Ran 0 1099511627776 _ rfl) ?_
  refine rO 2 ?_
  exact SafeOps.drop' 5 rfl rfl rfl K
 refine .go 1 ?_
 cases h
 exact retF
theorem slices_IndexFunc_api_Tenant_api_Tenant_odd114_sc (a145:List api_Tenant) (r:Int) (h:slices_IndexFunc_api_Tenant_api_Tenant_odd114 a145=some r):SC Tryz.prog gl 136 [V.sl 5 (rws api_Tenant.cells a145),V.fn 114 []] (I r):=by
 rw [slices_IndexFunc_api_Tenant_api_Tenant_odd114] at h
 refine SC.go Tryz.func136 Tryz.call136 2 ?_
 refine .len ?_
 refine .go 1 ?_
 refine Safe.loopS (fun(v146:Int)=>⟨Tryz.f136.ntmps,[(0,V.sl 5 (rws api_Tenant.cells a145)),(1,V.fn 114 []),(7,I (a145.length:Int)),(8,I v146)],[],[],[]⟩) h covA ?_
 intro v146 ohr3068 h hr3068
 rw [slices_IndexFunc_api_Tenant_api_Tenant_odd114_s1] at h
 refine .go 1 ?_
 refine .ifC h (fun hc3069 h=>?_) (fun hc3069 h=>?_)
 ·refine .go 5 ?_
  refine okG h (fun hb3070 h=>?_)
  refine .ix hb3070 ?_
  refine .ld hb3070 ?_
  refine .cP (lodge_odd_sc (gt a145 v146) _ rfl) ?_
  refine .go 0 ?_
  refine .ifC h (fun hc3071 h=>?_) (fun hc3071 h=>?_)
  ·refine .go 2 ?_
   replace h:=inr_out h hr3068
   cases h
   exact retF
  ·refine .go 2 ?_
   exact lpK ⟨_,next_out h,covA⟩
 ·refine .go 0 ?_
  replace h:=inr_out h hr3068
  refine .go 1 ?_
  cases h
  exact retF
theorem slices_ContainsFunc_api_Tenant_api_Tenant_odd114_sc (a147:List api_Tenant) (r:Bool) (h:slices_ContainsFunc_api_Tenant_api_Tenant_odd114 a147=some r):SC Tryz.prog gl 113 [V.sl 5 (rws api_Tenant.cells a147),V.fn 114 []] (V.bool r):=by
 rw [slices_ContainsFunc_api_Tenant_api_Tenant_odd114] at h
 refine SC.go Tryz.func113 Tryz.call113 3 ?_
 refine bindG h ?_
 intro x148 he3075 h
 refine .cP (slices_IndexFunc_api_Tenant_api_Tenant_odd114_sc a147 _ he3075) ?_
 refine .go 2 ?_
 cases h
 exact retF
theorem lodge_Check_sc (a149:List api_Tenant) (r:Int) (h:lodge_Check a149=some r):SC Tryz.prog gl 64 [V.sl 5 (rws api_Tenant.cells a149)] (I r):=by
 rw [lodge_Check] at h
 refine SC.go Tryz.func64 Tryz.call64 2 ?_
 refine .len ?_
 refine .go 2 ?_
 refine SafeOps.bjoinL 4 10 6 rfl (b:=((decide ((a149.length:Int) < 1))||(decide ((a149.length:Int) > 16)))) (b1:=true) (b0:=decide ((a149.length:Int) > 16)) (fun hc3086 K=>?_) (fun hc3086 K=>?_) bj_or ?_
 ·refine rO 4 ?_
  exact SafeOps.drop' 4 rfl rfl rfl K
 ·refine .go 1 ?_
  refine .len ?_
  refine rO 2 ?_
  exact SafeOps.drop' 4 rfl rfl rfl K
 refine .go 1 ?_
 refine SafeOps.ifD 11 h rfl (fun hc3087 h=>?_) (fun hc3087 h=>?_)
 ·refine .go 5 ?_
  cases h
  exact retF
 ·refine .go 1 ?_
  refine bindG h ?_
  intro x150 he3091 h
  refine .cP (slices_ContainsFunc_api_Tenant_api_Tenant_odd114_sc a149 _ he3091) ?_
  refine .go 1 ?_
  refine .ifC h (fun hc3092 h=>?_) (fun hc3092 h=>?_)
  ·refine .go 1 ?_
   cases h
   exact retF
  ·refine .go 1 ?_
   cases h
   exact retF
theorem lodge_New_sc (a151:List Int) (a152:List Int) (r:(List api_Tenant)×Int) (h:lodge_New a151 a152=some r):SC Tryz.prog gl 106 [V.sl 1 (rws (fun n=>[I n]) a151),V.sl 1 (rws (fun n=>[I n]) a152)] (V.tup [V.own 5 (rws api_Tenant.cells r.1),I r.2]):=by
 rw [lodge_New] at h
 refine SC.go Tryz.func106 Tryz.call106 3 ?_
 refine .len ?_
 refine .go 1 ?_
 refine .len ?_
 refine .go 2 ?_
 refine SafeOps.bjoinL 4 18 14 rfl (b:=(((a151.length:Int) != (a152.length:Int))||(decide ((a151.length:Int) > 16)))) (b1:=true) (b0:=decide ((a151.length:Int) > 16)) (fun hc3096 K=>?_) (fun hc3096 K=>?_) bj_or ?_
 ·refine rO 4 ?_
  exact SafeOps.drop' 4 rfl rfl rfl K
 ·refine .go 1 ?_
  refine .len ?_
  refine rO 2 ?_
  exact SafeOps.drop' 4 rfl rfl rfl K
 refine .go 0 ?_
 refine .ifC h (fun hc3097 h=>?_) (fun hc3097 h=>?_)
 ·refine .go 2 ?_
  cases h
  refine retG ?_
  exact ⟨_,(.tup (.cons (.nils _) (.cons (.free rfl) .nil))),by simp⟩
 ·refine .go 1 ?_
  refine .len ?_
  refine okG h (fun hb3098 h=>?_)
  refine SafeOps.quiet1 E_good rfl rfl rfl (.makeM (f:=api_Tenant.cells) (d:=api_Tenant.zero) rfl rfl rfl rfl hb3098 rfl rfl rfl) rfl ?_
  refine .go 2 ?_
  refine .len ?_
  refine .go 1 ?_
  refine Safe.loopS (fun((v153,v154):(List api_Tenant)×Int)=>⟨Tryz.f106.ntmps,[(0,V.sl 1 (rws (fun n=>[I n]) a151)),(1,V.sl 1 (rws (fun n=>[I n]) a152)),(6,V.ref [21] 0 (rws api_Tenant.cells v153).length),(23,I ((List.replicate (Int.toNat (a151.length:Int)) api_Tenant.zero).length:Int)),(24,I v154)],[([21],Obj.rows 5 (rws api_Tenant.cells v153) false)],[],[]⟩) h covA ?_
  rintro ⟨v153,v154⟩ ohr3128 h hr3128
  rw [lodge_New_s2] at h
  refine .go 1 ?_
  refine .ifC h (fun hc3129 h=>?_) (fun hc3129 h=>?_)
  ·refine .go 2 ?_
   refine Safe.regionD (n:=13) [(12,[21])] [] E_good mixed rfl ?_
   refine rA 9 (up 0 4) ?_
   refine okG h (fun hb3130 h=>?_)
   refine DT 4 [[21]] rfl rfl (v:=V.spt 1 (rws (fun n=>[I n]) a151) (Int.toNat v154) 0) (fun _ hz=>(.idxSlM (f:=(fun n=>[I n])) rfl rfl rfl rfl rfl hb3130)) ?_
   refine DT 5 [[21]] rfl rfl (v:=I (gt a151 v154)) (fun _ hz=>(.load rfl rfl (.sptM (f:=(fun n=>[I n])) hb3130 rfl) rfl)) ?_
   refine rA 5 [6,7] ?_
   refine okG h (fun hb3131 h=>?_)
   refine DT 8 [[21]] rfl rfl (v:=V.spt 1 (rws (fun n=>[I n]) a152) (Int.toNat v154) 0) (fun _ hz=>(.idxSlM (f:=(fun n=>[I n])) rfl rfl rfl rfl rfl hb3131)) ?_
   refine DT 9 [[21]] rfl rfl (v:=I (gt a152 v154)) (fun _ hz=>(.load rfl rfl (.sptM (f:=(fun n=>[I n])) hb3131 rfl) rfl)) ?_
   refine rA 2 [10] ?_
   refine okG h (fun hb3132 h=>?_)
   refine DT 11 [] rfl rfl (v:=V.ptr [21] (0+Int.toNat v154) 0) (fun _ hz=>(.idxRefM (f:=api_Tenant.cells) (xs:=v153) rfl rfl rfl (hz _ _ rfl rfl) rfl rfl hb3132)) ?_
   refine DAny.only (i:=12) rfl (by kernel_rfl) (.store (z:=Obj.rows 5 (rws api_Tenant.cells (st v153 v154 (api_Tenant.mk (gt a151 v154) (gt a152 v154) 0 0 0))) false) rfl rfl rfl rfl rfl rfl rfl (.rowsM (f:=api_Tenant.cells) (xs:=v153) (y:=(api_Tenant.mk (gt a151 v154) (gt a152 v154) 0 0 0)) hb3132 rfl rfl rfl rfl) rfl ?_)
   refine DAny.nil (by kernel_rfl) ?_
   refine .pop ?_
   refine .see 6 (u:=V.ref [21] 0 (rws api_Tenant.cells (st v153 v154 (api_Tenant.mk (gt a151 v154) (gt a152 v154) 0 0 0))).length) rfl (.len (by simp [rws,st])) ?_
   refine .see 27 (u:=V.ref [21] 0 (rws api_Tenant.cells (st v153 v154 (api_Tenant.mk (gt a151 v154) (gt a152 v154) 0 0 0))).length) rfl (.len (by simp [rws,st])) ?_
   refine .go 2 ?_
   exact lpK ⟨_,next_out h,covA⟩
  ·refine .go 0 ?_
   replace h:=inr_out h hr3128
   refine .go 1 ?_
   refine bindG h ?_
   intro x155 he3134 h
   refine .cS (lodge_Check_sc v153 _ he3134) ?_
   refine .go 3 ?_
   refine .ifC h (fun hc3135 h=>?_) (fun hc3135 h=>?_)
   ·refine .go 3 ?_
    cases h
    refine retG ?_
    exact ⟨_,(.tup (.cons (.nils _) (.cons (.free rfl) .nil))),by simp⟩
   ·refine .go 3 ?_
    cases h
    refine retG ?_
    exact ⟨_,(.tup (.cons (.own rfl rfl) (.cons (.free rfl) .nil))),by simp⟩
theorem sema_New_sc (a156:Int) (r:api_Sem×Int) (h:sema_New a156=r):SC Tryz.prog gl 108 [I a156] (V.tup [V.agg [I r.1.Free,V.own 1 (rws (fun n=>[I n]) r.1.Wait)],I r.2]):=by
 rw [sema_New] at h
 refine SC.go Tryz.func108 Tryz.call108 5 ?_
 refine .bjO 3 9 6 ?_
 refine .go 0 ?_
 refine .ifC h (fun hc3150 h=>?_) (fun hc3150 h=>?_)
 ·refine .go 3 ?_
  cases h
  refine retG ?_
  exact ⟨_,(.tup (.cons (.agg (.cons (.free rfl) (.cons (.nils _) .nil))) (.cons (.free rfl) .nil))),by simp⟩
 ·refine .go 4 ?_
  cases h
  refine retG ?_
  exact ⟨_,(.tup (.cons (.agg (.cons (.free rfl) (.cons (.nils _) .nil))) (.cons (.free rfl) .nil))),by simp⟩
theorem entry_Config_1_sc (a157:Int) (r:Bool) (h:entry_Config_1 a157=r):SC Tryz.prog gl 107 [I a157] (V.bool r):=by
 rw [entry_Config_1] at h
 refine SC.go Tryz.func107 Tryz.call107 2 ?_
 refine letG h ?_
 rintro ⟨x158,x159⟩ he3156 h
 refine .cP (sema_New_sc a157 _ he3156) ?_
 refine .go 9 ?_
 cases h
 exact retF
theorem slices_IndexFunc_int_int_1107_sc (a160:List Int) (r:Int) (h:slices_IndexFunc_int_int_1107 a160=some r):SC Tryz.prog gl 126 [V.sl 1 (rws (fun n=>[I n]) a160),V.fn 107 []] (I r):=by
 rw [slices_IndexFunc_int_int_1107] at h
 refine SC.go Tryz.func126 Tryz.call126 2 ?_
 refine .len ?_
 refine .go 1 ?_
 refine Safe.loopS (fun(v161:Int)=>⟨Tryz.f126.ntmps,[(0,V.sl 1 (rws (fun n=>[I n]) a160)),(1,V.fn 107 []),(7,I (a160.length:Int)),(8,I v161)],[],[],[]⟩) h covA ?_
 intro v161 ohr3175 h hr3175
 rw [slices_IndexFunc_int_int_1107_s1] at h
 refine .go 1 ?_
 refine .ifC h (fun hc3176 h=>?_) (fun hc3176 h=>?_)
 ·refine .go 5 ?_
  refine okG h (fun hb3177 h=>?_)
  refine .ix hb3177 ?_
  refine .ld hb3177 ?_
  refine .cP (entry_Config_1_sc (gt a160 v161) _ rfl) ?_
  refine .go 0 ?_
  refine .ifC h (fun hc3178 h=>?_) (fun hc3178 h=>?_)
  ·refine .go 2 ?_
   replace h:=inr_out h hr3175
   cases h
   exact retF
  ·refine .go 2 ?_
   exact lpK ⟨_,next_out h,covA⟩
 ·refine .go 0 ?_
  replace h:=inr_out h hr3175
  refine .go 1 ?_
  cases h
  exact retF
theorem slices_ContainsFunc_int_int_1107_sc (a162:List Int) (r:Bool) (h:slices_ContainsFunc_int_int_1107 a162=some r):SC Tryz.prog gl 74 [V.sl 1 (rws (fun n=>[I n]) a162),V.fn 107 []] (V.bool r):=by
 rw [slices_ContainsFunc_int_int_1107] at h
 refine SC.go Tryz.func74 Tryz.call74 3 ?_
 refine bindG h ?_
 intro x163 he3182 h
 refine .cP (slices_IndexFunc_int_int_1107_sc a162 _ he3182) ?_
 refine .go 2 ?_
 cases h
 exact retF
theorem entry_Config_sc (a169:api_Config) (r:Int) (h:entry_Config a169=some r):SC Tryz.prog gl 60 [V.agg a169.cells] (I r):=by
 rw [entry_Config] at h
 refine SC.go Tryz.func60 Tryz.call60 4 ?_
 refine .cP (entry_within_sc a169.Workers 1 64 _ rfl) ?_
 refine .go 1 ?_
 refine SafeOps.bjoinL 4 15 11 rfl (b:=((entry_within a169.Workers 1 64)&&(entry_within a169.Cap 1 1024))) (b1:=entry_within a169.Cap 1 1024) (b0:=false) (fun hc4923 K=>?_) (fun hc4923 K=>?_) bj_and ?_
 ·refine .go 2 ?_
  refine .cP (entry_within_sc a169.Cap 1 1024 _ rfl) ?_
  refine rO 1 ?_
  exact SafeOps.drop' 4 rfl rfl rfl K
 ·refine rO 4 ?_
  exact SafeOps.drop' 4 rfl rfl rfl K
 refine .go 1 ?_
 refine SafeOps.bjoinL 4 20 16 rfl (b:=(((entry_within a169.Workers 1 64)&&(entry_within a169.Cap 1 1024))&&(entry_within a169.Budget 1 100))) (b1:=entry_within a169.Budget 1 100) (b0:=false) (fun hc4924 K=>?_) (fun hc4924 K=>?_) bj_and ?_
 ·refine .go 2 ?_
  refine .cP (entry_within_sc a169.Budget 1 100 _ rfl) ?_
  refine rO 1 ?_
  exact SafeOps.drop' 4 rfl rfl rfl K
 ·refine rO 4 ?_
  exact SafeOps.drop' 4 rfl rfl rfl K
 refine .go 1 ?_
 refine SafeOps.bjoinL 4 25 21 rfl (b:=((((entry_within a169.Workers 1 64)&&(entry_within a169.Cap 1 1024))&&(entry_within a169.Budget 1 100))&&(entry_within a169.Tasks 1 256))) (b1:=entry_within a169.Tasks 1 256) (b0:=false) (fun hc4925 K=>?_) (fun hc4925 K=>?_) bj_and ?_
 ·refine .go 2 ?_
  refine .cP (entry_within_sc a169.Tasks 1 256 _ rfl) ?_
  refine rO 1 ?_
  exact SafeOps.drop' 4 rfl rfl rfl K
 ·refine rO 4 ?_
  exact SafeOps.drop' 4 rfl rfl rfl K
 refine .go 1 ?_
 refine SafeOps.bjoinL 4 30 26 rfl (b:=(((((entry_within a169.Workers 1 64)&&(entry_within a169.Cap 1 1024))&&(entry_within a169.Budget 1 100))&&(entry_within a169.Tasks 1 256))&&(entry_within a169.Fds 0 16))) (b1:=entry_within a169.Fds 0 16) (b0:=false) (fun hc4926 K=>?_) (fun hc4926 K=>?_) bj_and ?_
 ·refine .go 2 ?_
  refine .cP (entry_within_sc a169.Fds 0 16 _ rfl) ?_
  refine rO 1 ?_
  exact SafeOps.drop' 4 rfl rfl rfl K
 ·refine rO 4 ?_
  exact SafeOps.drop' 4 rfl rfl rfl K
 refine .go 4 ?_
 refine .bjO 8 41 33 ?_
 refine .go 1 ?_
 refine SafeOps.bjoinL 5 47 42 rfl (b:=(((!(((((entry_within a169.Workers 1 64)&&(entry_within a169.Cap 1 1024))&&(entry_within a169.Budget 1 100))&&(entry_within a169.Tasks 1 256))&&(entry_within a169.Fds 0 16)))||(decide ((IntKind.i64.wrap (a169.Workers*(IntKind.i64.wrap (a169.Cap+2)))) > 65536)))||(decide ((a169.Sems.length:Int) > 8)))) (b1:=true) (b0:=decide ((a169.Sems.length:Int) > 8)) (fun hc4928 K=>?_) (fun hc4928 K=>?_) bj_or ?_
 ·refine rO 5 ?_
  exact SafeOps.drop' 5 rfl rfl rfl K
 ·refine .go 2 ?_
  refine .len ?_
  refine rO 2 ?_
  exact SafeOps.drop' 5 rfl rfl rfl K
 refine .go 1 ?_
 refine SafeOps.ifD 48 h rfl (fun hc4929 h=>?_) (fun hc4929 h=>?_)
 ·refine .go 7 ?_
  cases h
  exact retF
 ·refine .go 2 ?_
  refine bindG h ?_
  intro x171 he4933 h
  refine .cP (code_CheckAll_sc a169.Progs _ he4933) ?_
  refine .go 2 ?_
  refine .ifC h (fun hc4934 h=>?_) (fun hc4934 h=>?_)
  ·refine .go 1 ?_
   cases h
   exact retF
  ·refine .go 4 ?_
   refine bindG h ?_
   rintro ⟨x172,x173⟩ he4937 h
   refine .cP (lodge_New_sc a169.Weights a169.Quotas _ he4937) ?_
   refine .go 7 ?_
   refine .ifC h (fun hc4938 h=>?_) (fun hc4938 h=>?_)
   ·refine .go 1 ?_
    cases h
    exact retF
   ·refine .go 7 ?_
    refine bindG h ?_
    intro x174 he4940 h
    refine .cP (slices_ContainsFunc_int_int_1107_sc a169.Sems _ he4940) ?_
    refine .go 1 ?_
    refine SafeOps.ifD 69 h rfl (fun hc4941 h=>?_) (fun hc4941 h=>?_)
    ·refine .go 7 ?_
     cases h
     exact retF
    ·refine .go 3 ?_
     refine .inl Tryz.func110 Tryz.call110 3 ?_
     refine .joinR 1 (fun(v164:Int)=>entry_Config_j196 v164=some r) (fun(v164:Int)=>⟨Tryz.f110.ntmps,[(7,I v164)],[],[(Tryz.f60.ntmps,[(69,V.bool false)])],[73]⟩) ?_ (fun HJ7147=>?_)
     ·intro v164 h
      rw [entry_Config_j196] at h
      refine .go 4 ?_
      refine .ifC h (fun hc7148 h=>?_) (fun hc7148 h=>?_)
      ·refine .go 1 ?_
       cases h
       exact retF
      ·refine .go 1 ?_
       cases h
       exact retF
     ·refine .inl Tryz.func134 Tryz.call134 2 ?_
      refine .len ?_
      refine .go 1 ?_
      refine Safe.loopS (fun(v165:Int)=>⟨Tryz.f134.ntmps,[(0,V.sl 1 (rws (fun l=>[V.sl 3 (rws api_Instr.cells l)]) a169.Progs)),(1,V.fn 111 [V.ptr [7] 0 0]),(7,I (a169.Progs.length:Int)),(8,I v165)],[([1],Obj.box a169.cells),([7],Obj.box [V.fn 109 [V.ptr [1] 0 0]])],[(Tryz.f110.ntmps,[]),(Tryz.f60.ntmps,[(69,V.bool false)])],[73,7]⟩) h covA ?_
      intro v165 ohr7437 h hr7437
      rw [entry_Config_s261] at h
      refine .go 1 ?_
      refine .ifC h (fun hc7438 h=>?_) (fun hc7438 h=>?_)
      ·refine .go 5 ?_
       refine okG h (fun hb7439 h=>?_)
       refine .ix hb7439 ?_
       refine .ld hb7439 ?_
       refine .inl Tryz.func111 Tryz.call111 3 ?_
       refine .inl Tryz.func38 Tryz.call38 3 ?_
       refine .joinR 1 (fun(v166:Int)=>entry_Config_j293 v165 v166=some ohr7437) (fun(v166:Int)=>⟨Tryz.f38.ntmps,[(7,I v166)],[([1],Obj.box a169.cells),([7],Obj.box [V.fn 109 [V.ptr [1] 0 0]])],[(Tryz.f111.ntmps,[]),(Tryz.f134.ntmps,[(0,V.sl 1 (rws (fun l=>[V.sl 3 (rws api_Instr.cells l)]) a169.Progs)),(1,V.fn 111 [V.ptr [7] 0 0]),(5,I v165),(7,I (a169.Progs.length:Int)),(8,I v165)]),(Tryz.f110.ntmps,[]),(Tryz.f60.ntmps,[(69,V.bool false)])],[73,7,16,6]⟩) ?_ (fun HJ7579=>?_)
       ·intro v166 h
        rw [entry_Config_j293] at h
        refine .go 5 ?_
        refine .ifC h (fun hc7580 h=>?_) (fun hc7580 h=>?_)
        ·refine .goN 3 ?_
         replace h:=inr_out h hr7437
         exact .got (HJ7147 (v165) h) covA
        ·refine .go 2 ?_
         exact lpK ⟨_,next_out h,covA⟩
       ·refine .inl Tryz.func80 Tryz.call80 2 ?_
        refine .len ?_
        refine .go 1 ?_
        refine Safe.loopS (fun(v167:Int)=>⟨Tryz.f80.ntmps,[(0,V.sl 3 (rws api_Instr.cells (gt a169.Progs v165))),(1,V.fn 109 [V.ptr [1] 0 0]),(7,I ((gt a169.Progs v165).length:Int)),(8,I v167)],[([1],Obj.box a169.cells),([7],Obj.box [V.fn 109 [V.ptr [1] 0 0]])],[(Tryz.f38.ntmps,[]),(Tryz.f111.ntmps,[]),(Tryz.f134.ntmps,[(0,V.sl 1 (rws (fun l=>[V.sl 3 (rws api_Instr.cells l)]) a169.Progs)),(1,V.fn 111 [V.ptr [7] 0 0]),(5,I v165),(7,I (a169.Progs.length:Int)),(8,I v165)]),(Tryz.f110.ntmps,[]),(Tryz.f60.ntmps,[(69,V.bool false)])],[73,7,16,6,7]⟩) h covA ?_
        intro v167 ohr7603 h hr7603
        rw [entry_Config_s298] at h
        refine .go 1 ?_
        refine .ifC h (fun hc7604 h=>?_) (fun hc7604 h=>?_)
        ·refine .go 5 ?_
         refine okG h (fun hb7605 h=>?_)
         refine .ix hb7605 ?_
         refine .ld hb7605 ?_
         refine .joinR 1 (fun(v168:Bool)=>entry_Config_j300 v165 v167 v168=some ohr7603) (fun(v168:Bool)=>⟨Tryz.f80.ntmps,[(0,V.sl 3 (rws api_Instr.cells (gt a169.Progs v165))),(1,V.fn 109 [V.ptr [1] 0 0]),(5,I v167),(7,I ((gt a169.Progs v165).length:Int)),(8,I v167),(16,V.bool v168)],[([1],Obj.box a169.cells),([7],Obj.box [V.fn 109 [V.ptr [1] 0 0]])],[(Tryz.f38.ntmps,[]),(Tryz.f111.ntmps,[]),(Tryz.f134.ntmps,[(0,V.sl 1 (rws (fun l=>[V.sl 3 (rws api_Instr.cells l)]) a169.Progs)),(1,V.fn 111 [V.ptr [7] 0 0]),(5,I v165),(7,I (a169.Progs.length:Int)),(8,I v165)]),(Tryz.f110.ntmps,[]),(Tryz.f60.ntmps,[(69,V.bool false)])],[73,7,16,6,7]⟩) ?_ (fun HJ7612=>?_)
         ·intro v168 h
          rw [entry_Config_j300] at h
          refine .go 0 ?_
          refine .ifC h (fun hc7613 h=>?_) (fun hc7613 h=>?_)
          ·refine .goN 3 ?_
           replace h:=inr_out h hr7603
           exact .got (HJ7579 (v167) h) covA
          ·refine .go 2 ?_
           exact lpK ⟨_,next_out h,covA⟩
         ·refine .inl Tryz.func109 Tryz.call109 6 ?_
          refine .ifC h (fun hc7614 h=>?_) (fun hc7614 h=>?_)
          ·refine .goN 7 ?_
           exact .got (HJ7612 (decide (((gt (gt a169.Progs v165) v167).A)≥a169.Fds)) h) covA
          ·refine .go 2 ?_
           refine .joinS (fun(v170:Bool)=>entry_Config_j301 a169 v165 v167 v170=some ohr7603) (fun(v170:Bool)=>⟨Tryz.f109.ntmps,[(1,V.ptr [1] 0 0),(2,V.ptr [73,7,16,6,7,16,2] 0 0),(13,V.bool v170)],[([1],Obj.box a169.cells),([7],Obj.box [V.fn 109 [V.ptr [1] 0 0]]),([73,7,16,6,7,16,2],Obj.box [I ((gt (gt a169.Progs v165) v167).Op),I ((gt (gt a169.Progs v165) v167).A),I ((gt (gt a169.Progs v165) v167).B)])],[(Tryz.f80.ntmps,[(0,V.sl 3 (rws api_Instr.cells (gt a169.Progs v165))),(1,V.fn 109 [V.ptr [1] 0 0]),(5,I v167),(7,I ((gt a169.Progs v165).length:Int)),(8,I v167)]),(Tryz.f38.ntmps,[]),(Tryz.f111.ntmps,[]),(Tryz.f134.ntmps,[(0,V.sl 1 (rws (fun l=>[V.sl 3 (rws api_Instr.cells l)]) a169.Progs)),(1,V.fn 111 [V.ptr [7] 0 0]),(5,I v165),(7,I (a169.Progs.length:Int)),(8,I v165)]),(Tryz.f110.ntmps,[]),(Tryz.f60.ntmps,[(69,V.bool false)])],[73,7,16,6,7,16]⟩) ?_ (fun HJ7616=>?_)
           ·intro v170 h
            rw [entry_Config_j301] at h
            refine .go 0 ?_
            refine .ifC h (fun hc7617 h=>?_) (fun hc7617 h=>?_)
            ·refine .go 4 ?_
             refine .len ?_
             refine .goN 3 ?_
             exact .got (HJ7612 (decide (((gt (gt a169.Progs v165) v167).A)≥(a169.Sems.length:Int))) h) covA
            ·refine .goN 2 ?_
             exact .got (HJ7612 (false) h) covA
           ·refine .ifC h (fun hc7618 h=>?_) (fun hc7618 h=>?_)
            ·refine .go 0 ?_
             exact .got (HJ7616 ((((gt (gt a169.Progs v165) v167).Op)==7)) h) covA
            ·refine .go 2 ?_
             exact .got (HJ7616 ((((gt (gt a169.Progs v165) v167).Op)==8)) h) covA
        ·refine .go 0 ?_
         replace h:=inr_out h hr7603
         refine .goN 2 ?_
         exact .got (HJ7579 (-1) h) covA
      ·refine .go 0 ?_
       replace h:=inr_out h hr7437
       refine .goN 2 ?_
       exact .got (HJ7147 (-1) h) covA
theorem dice_Check_sc (a175:api_Dice) (r:Int) (h:dice_Check a175=r):SC Tryz.prog gl 61 [V.agg a175.cells] (I r):=by
 rw [dice_Check] at h
 refine SC.go Tryz.func61 Tryz.call61 6 ?_
 refine SafeOps.bjoinL 7 13 6 rfl (b:=((decide (a175.At < 0))||(decide (a175.At > (a175.L.length:Int))))) (b1:=true) (b0:=decide (a175.At > (a175.L.length:Int))) (fun hc7624 K=>?_) (fun hc7624 K=>?_) bj_or ?_
 ·refine rO 7 ?_
  exact SafeOps.drop' 7 rfl rfl rfl K
 ·refine .go 4 ?_
  refine .len ?_
  refine rO 2 ?_
  exact SafeOps.drop' 7 rfl rfl rfl K
 refine .go 0 ?_
 refine .ifC h (fun hc7625 h=>?_) (fun hc7625 h=>?_)
 ·refine .go 1 ?_
  cases h
  exact retF
 ·refine .go 1 ?_
  cases h
  exact retF
theorem slot_Check_sc (a176:api_Places) (r:Int) (h:slot_Check a176=some r):SC Tryz.prog gl 62 [V.agg a176.cells] (I r):=by
 rw [slot_Check] at h
 refine SC.go Tryz.func62 Tryz.call62 4 ?_
 refine .len ?_
 refine .go 2 ?_
 refine SafeOps.bjoinL 5 15 10 rfl (b:=((decide ((a176.Gen.length:Int) < 1))||(decide ((a176.Gen.length:Int) > 256)))) (b1:=true) (b0:=decide ((a176.Gen.length:Int) > 256)) (fun hc7670 K=>?_) (fun hc7670 K=>?_) bj_or ?_
 ·refine rO 5 ?_
  exact SafeOps.drop' 5 rfl rfl rfl K
 ·refine .go 2 ?_
  refine .len ?_
  refine rO 2 ?_
  exact SafeOps.drop' 5 rfl rfl rfl K
 refine .go 1 ?_
 refine SafeOps.bjoinL 8 24 16 rfl (b:=(((decide ((a176.Gen.length:Int) < 1))||(decide ((a176.Gen.length:Int) > 256)))||((a176.Live.length:Int) != (a176.Gen.length:Int)))) (b1:=true) (b0:=((a176.Live.length:Int) != (a176.Gen.length:Int))) (fun hc7671 K=>?_) (fun hc7671 K=>?_) bj_or ?_
 ·refine rO 8 ?_
  exact SafeOps.drop' 8 rfl rfl rfl K
 ·refine .go 2 ?_
  refine .len ?_
  refine .go 2 ?_
  refine .len ?_
  refine rO 2 ?_
  exact SafeOps.drop' 8 rfl rfl rfl K
 refine .go 0 ?_
 refine .ifC h (fun hc7672 h=>?_) (fun hc7672 h=>?_)
 ·refine .go 1 ?_
  cases h
  exact retF
 ·refine .go 2 ?_
  refine .len ?_
  refine .go 1 ?_
  refine Safe.loopS (fun(v177:Int)=>⟨Tryz.f62.ntmps,[(1,V.ptr [1] 0 0),(26,V.sl 1 (rws (fun n=>[I n]) a176.Gen)),(27,I (a176.Gen.length:Int)),(28,I v177)],[([1],Obj.box a176.cells)],[],[]⟩) h covA ?_
  intro v177 ohr7691 h hr7691
  rw [slot_Check_s3] at h
  refine .go 1 ?_
  refine .ifC h (fun hc7692 h=>?_) (fun hc7692 h=>?_)
  ·refine .go 1 ?_
   refine okG h (fun hb7693 h=>?_)
   refine .ix hb7693 ?_
   refine .ld hb7693 ?_
   refine .go 6 ?_
   refine okG h (fun hb7694 h=>?_)
   refine .ix hb7694 ?_
   refine .ld hb7694 ?_
   refine .go 0 ?_
   refine .joinS (fun(v178:Int)=>slot_Check_j4 a176 v177 v178=some ohr7691) (fun(v178:Int)=>⟨Tryz.f62.ntmps,[(1,V.ptr [1] 0 0),(4,I (gt a176.Gen v177)),(5,I v178),(26,V.sl 1 (rws (fun n=>[I n]) a176.Gen)),(27,I (a176.Gen.length:Int)),(28,I v177)],[([1],Obj.box a176.cells)],[],[]⟩) ?_ (fun HJ7696=>?_)
   ·intro v178 h
    rw [slot_Check_j4] at h
    refine .go 3 ?_
    refine .bjO 4 46 42 ?_
    refine .go 0 ?_
    refine .ifC h (fun hc7698 h=>?_) (fun hc7698 h=>?_)
    ·refine .go 1 ?_
     replace h:=inr_out h hr7691
     cases h
     exact retF
    ·refine .go 2 ?_
     exact lpK ⟨_,next_out h,covA⟩
   ·refine .ifC h (fun hc7699 h=>?_) (fun hc7699 h=>?_)
    ·refine .go 3 ?_
     exact .got (HJ7696 (1099511627775) h) covA
    ·refine .go 0 ?_
     exact .got (HJ7696 (1099511627776) h) covA
  ·refine .go 0 ?_
   replace h:=inr_out h hr7691
   refine .go 1 ?_
   cases h
   exact retF
theorem chain_Check_sc (a179:api_Chains) (r:Int) (h:chain_Check a179=some r):SC Tryz.prog gl 63 [V.agg a179.cells] (I r):=by
 rw [chain_Check] at h
 refine SC.go Tryz.func63 Tryz.call63 4 ?_
 refine .len ?_
 refine .go 2 ?_
 refine SafeOps.bjoinL 5 21 16 rfl (b:=((decide ((a179.Next.length:Int) > 1024))||(decide ((a179.Head.length:Int) < 1)))) (b1:=true) (b0:=decide ((a179.Head.length:Int) < 1)) (fun hc8416 K=>?_) (fun hc8416 K=>?_) bj_or ?_
 ·refine rO 5 ?_
  exact SafeOps.drop' 5 rfl rfl rfl K
 ·refine .go 2 ?_
  refine .len ?_
  refine rO 2 ?_
  exact SafeOps.drop' 5 rfl rfl rfl K
 refine .go 1 ?_
 refine SafeOps.bjoinL 5 27 22 rfl (b:=(((decide ((a179.Next.length:Int) > 1024))||(decide ((a179.Head.length:Int) < 1)))||(decide ((a179.Head.length:Int) > 256)))) (b1:=true) (b0:=decide ((a179.Head.length:Int) > 256)) (fun hc8417 K=>?_) (fun hc8417 K=>?_) bj_or ?_
 ·refine rO 5 ?_
  exact SafeOps.drop' 5 rfl rfl rfl K
 ·refine .go 2 ?_
  refine .len ?_
  refine rO 2 ?_
  exact SafeOps.drop' 5 rfl rfl rfl K
 refine .go 1 ?_
 refine SafeOps.bjoinL 8 36 28 rfl (b:=((((decide ((a179.Next.length:Int) > 1024))||(decide ((a179.Head.length:Int) < 1)))||(decide ((a179.Head.length:Int) > 256)))||((a179.Tail.length:Int) != (a179.Head.length:Int)))) (b1:=true) (b0:=((a179.Tail.length:Int) != (a179.Head.length:Int))) (fun hc8418 K=>?_) (fun hc8418 K=>?_) bj_or ?_
 ·refine rO 8 ?_
  exact SafeOps.drop' 8 rfl rfl rfl K
 ·refine .go 2 ?_
  refine .len ?_
  refine .go 2 ?_
  refine .len ?_
  refine rO 2 ?_
  exact SafeOps.drop' 8 rfl rfl rfl K
 refine .go 0 ?_
 refine .ifC h (fun hc8419 h=>?_) (fun hc8419 h=>?_)
 ·refine .go 1 ?_
  cases h
  exact retF
 ·refine .go 2 ?_
  refine .len ?_
  refine okG h (fun hb8420 h=>?_)
  refine SafeOps.quiet1 E_good rfl rfl rfl (.makeM (f:=(fun b=>[V.bool b])) (d:=false) rfl rfl rfl rfl hb8420 rfl rfl rfl) rfl ?_
  refine .go 4 ?_
  refine .len ?_
  refine .go 1 ?_
  refine Safe.loopS (fun((v180,v190):Int×(List Bool))=>⟨Tryz.f63.ntmps,[(1,V.ptr [1] 0 0),(2,V.ptr [2] 0 0),(3,V.ptr [3] 0 0),(42,V.sl 1 (rws (fun n=>[I n]) a179.Head)),(43,I (a179.Head.length:Int)),(44,I v180)],[([1],Obj.box a179.cells),([2],Obj.box [I 0]),([3],Obj.box [V.ref [40] 0 (rws (fun b=>[V.bool b]) v190).length]),([40],Obj.rows 1 (rws (fun b=>[V.bool b]) v190) false)],[],[]⟩) h covA ?_
  rintro ⟨v180,v190⟩ ohr8975 h hr8975
  rw [chain_Check_s17] at h
  refine .go 1 ?_
  refine .ifC h (fun hc8976 h=>?_) (fun hc8976 h=>?_)
  ·refine .go 1 ?_
   refine okG h (fun hb8977 h=>?_)
   refine .ix hb8977 ?_
   refine .ld hb8977 ?_
   refine .go 9 ?_
   refine .inl Tryz.func112 Tryz.call112 6 ?_
   refine .joinB 2 (fun((v181,v182,v183):(List Bool)×Int×Int)=>chain_Check_j19 a179 v180 v181 v182 v183=some ohr8975) (fun((v181,v182,v183):(List Bool)×Int×Int)=>⟨Tryz.f63.ntmps,[(1,V.ptr [1] 0 0),(2,V.ptr [2] 0 0),(3,V.ptr [3] 0 0),(4,I v180),(6,V.ptr [6] 0 0),(7,V.ptr [7] 0 0),(42,V.sl 1 (rws (fun n=>[I n]) a179.Head)),(43,I (a179.Head.length:Int)),(44,I v180)],[([1],Obj.box a179.cells),([2],Obj.box [I 0]),([3],Obj.box [V.ref [40] 0 (rws (fun b=>[V.bool b]) v181).length]),([6],Obj.box [I v182]),([7],Obj.box [I v183]),([40],Obj.rows 1 (rws (fun b=>[V.bool b]) v181) false)],[],[]⟩) ?_ (fun HJ9031=>?_)
   ·rintro ⟨v181,v182,v183⟩ h
    dsimp only at h
    rw [chain_Check_j19] at h
    refine .go 0 ?_
    refine Safe.regionD (n:=11) [] [] E_good mixed rfl ?_
    refine rA 8 (up 0 3) ?_
    refine DAny.ifD 70 h rfl (fun hc9032 h=>?_) (fun hc9032 h=>?_)
    ·refine rA 0 (up 3 8) ?_
     refine DAny.nil (by kernel_rfl) ?_
     refine .go 2 ?_
     replace h:=inr_out h hr8975
     cases h
     exact retF
    ·refine rA 5 (up 3 3) ?_
     refine okG h (fun hb9033 h=>?_)
     refine DT 6 [] rfl rfl (v:=V.spt 1 (rws (fun n=>[I n]) a179.Tail) (Int.toNat v180) 0) (fun _ hz=>(.idxSlM (f:=(fun n=>[I n])) rfl rfl rfl rfl rfl hb9033)) ?_
     refine DT 7 [] rfl rfl (v:=I (gt a179.Tail v180)) (fun _ hz=>(.load rfl rfl (.sptM (f:=(fun n=>[I n])) hb9033 rfl) rfl)) ?_
     refine rA 0 (up 8 3) ?_
     refine DAny.nil (by kernel_rfl) ?_
     refine .go 0 ?_
     refine .ifC h (fun hc9034 h=>?_) (fun hc9034 h=>?_)
     ·refine .go 1 ?_
      replace h:=inr_out h hr8975
      cases h
      exact retF
     ·refine .go 2 ?_
      exact lpK ⟨_,next_out h,covA⟩
   ·refine .go 0 ?_
    refine Safe.rangeFunc (k:=9053) rfl rfl Tryz.func135 rfl (fun _ _=>Tryz.call135 _ _) rfl rfl rfl ?_
    refine .go0 0 ?_
    refine Safe.regionD (n:=7) [] [] E_good mixed rfl ?_
    refine rA 4 (up 0 3) ?_
    refine okG h (fun hb9035 h=>?_)
    refine DT 3 [] rfl rfl (v:=V.spt 1 (rws (fun n=>[I n]) a179.Head) (Int.toNat v180) 0) (fun _ hz=>(.idxSlM (f:=(fun n=>[I n])) rfl rfl rfl rfl rfl hb9035)) ?_
    refine DT 4 [] rfl rfl (v:=I (gt a179.Head v180)) (fun _ hz=>(.load rfl rfl (.sptM (f:=(fun n=>[I n])) hb9035 rfl) rfl)) ?_
    refine rA 0 [5,6] ?_
    refine DAny.nil (by kernel_rfl) ?_
    refine .go 2 ?_
    refine .len ?_
    refine .go 2 ?_
    refine Safe.loopS (fun((v184,v185,v186,v187,v188,v189):Int×Int×Int×(List Bool)×Int×Int)=>⟨Tryz.f135.ntmps,[(0,V.yld [9053]),(1,V.ptr [52,2] 0 0),(4,I v184),(5,I v185),(14,I (IntKind.i64.wrap ((a179.Next.length:Int)+1))),(15,I v186)],[([1],Obj.box a179.cells),([2],Obj.box [I 0]),([3],Obj.box [V.ref [40] 0 (rws (fun b=>[V.bool b]) v187).length]),([6],Obj.box [I v188]),([7],Obj.box [I v189]),([40],Obj.rows 1 (rws (fun b=>[V.bool b]) v187) false),([52,2],Obj.box a179.cells),([9053],Go.AM.Obj.loop Tryz.f63.ntmps [(1,V.ptr [1] 0 0),(2,V.ptr [2] 0 0),(3,V.ptr [3] 0 0),(6,V.ptr [6] 0 0),(7,V.ptr [7] 0 0)] [53,54] (rfA Tryz.f63 0) (rfB Tryz.f63 0) .ready none)],[(1,[(0,V.yld [9053])]),(Tryz.f63.ntmps,[(1,V.ptr [1] 0 0),(2,V.ptr [2] 0 0),(3,V.ptr [3] 0 0),(4,I v180),(6,V.ptr [6] 0 0),(7,V.ptr [7] 0 0),(42,V.sl 1 (rws (fun n=>[I n]) a179.Head)),(43,I (a179.Head.length:Int)),(44,I v180)])],[9053,0]⟩) h (.cov ⟨rfl,rfl,(ut (ut (ut (ut (ut (ut upT_nil)))))),(uo (uo (uo (uo (uo (uo (uo (upOb_cons rfl (by exact .loop (ut (ut (ut (ut (ut upT_nil)))))) upOb_nil)))))))),(upOut_cons rfl (ut upT_nil) (upOut_cons rfl (ut (ut (ut (ut (ut (ut (ut (ut (ut upT_nil))))))))) upOut_nil)),rfl⟩) ?_
    rintro ⟨v184,v185,v186,v187,v188,v189⟩ ohr9072 h hr9072
    rw [chain_Check_s20] at h
    refine .go 1 ?_
    refine .ifC h (fun hc9073 h=>?_) (fun hc9073 h=>?_)
    ·refine .go 3 ?_
     refine SafeOps.bjoinL 6 25 19 rfl (b:=((decide (v185 < 0))||(decide (v185≥(a179.Next.length:Int))))) (b1:=true) (b0:=decide (v185≥(a179.Next.length:Int))) (fun hc9074 K=>?_) (fun hc9074 K=>?_) bj_or ?_
     ·refine rO 6 ?_
      exact SafeOps.drop' 6 rfl rfl rfl K
     ·refine .go 3 ?_
      refine .len ?_
      refine rO 2 ?_
      exact SafeOps.drop' 6 rfl rfl rfl K
     refine .go 1 ?_
     refine SafeOps.ifD 26 h rfl (fun hc9075 h=>?_) (fun hc9075 h=>?_)
     ·refine .go 7 ?_
      refine rfQ.n (.inr rfl) rfl rfl (fun hbusy=>by cases hbusy) ?_
      replace h:=inr_out h hr9072
      refine .go 0 ?_
      exact .got (HJ9031 (v187,v188,v189) h) covA
     ·refine .go 3 ?_
      refine SafeOps.yield rfl rfl rfl rfl rfl rfl rfl rfl ?_
      refine .go0 1 ?_
      refine asgQ.go rfl rfl ?_
      refine .go0 2 ?_
      refine okG h (fun hb9080 h=>?_)
      refine Q0 E_good rfl (v:=V.ptr [40] (0+Int.toNat v185) 0) (.idxRefM (f:=(fun b=>[V.bool b])) (xs:=v187) rfl rfl rfl rfl rfl rfl hb9080) ?_
      refine Q0 E_good rfl (v:=V.bool (gt v187 v185)) (.load rfl rfl (.rowsM (f:=(fun b=>[V.bool b])) (xs:=v187) hb9080 rfl rfl) rfl) ?_
      refine .go 0 ?_
      refine .ifC h (fun hc9081 h=>?_) (fun hc9081 h=>?_)
      ·refine .go 1 ?_
       refine roundQ.go rfl rfl rfl rfl rfl ?_
       refine .go 3 ?_
       refine rfQ.j (.inr rfl) rfl rfl (fun hbusy=>by cases hbusy) ?_
       replace h:=inr_out h hr9072
       refine .go 0 ?_
       replace h:=inr_out h hr8975
       cases h
       exact retF
      ·refine .go 2 ?_
       refine okG h (fun hb9082 h=>?_)
       refine Q0 E_good rfl (v:=V.ptr [40] (0+Int.toNat v185) 0) (.idxRefM (f:=(fun b=>[V.bool b])) (xs:=v187) rfl rfl rfl rfl rfl rfl hb9082) ?_
       refine SafeOps.store (z:=Obj.rows 1 (rws (fun b=>[V.bool b]) (st v187 v185 true)) false) E_good rfl rfl rfl rfl rfl rfl rfl (.rowsM (f:=(fun b=>[V.bool b])) (xs:=v187) (y:=true) hb9082 rfl rfl rfl rfl) ?_
       refine .see 55 (u:=V.ref [40] 0 (rws (fun b=>[V.bool b]) (st v187 v185 true)).length) rfl (.len (by simp [rws,st])) ?_
       refine .see 59 (u:=V.ref [40] 0 (rws (fun b=>[V.bool b]) (st v187 v185 true)).length) rfl (.len (by simp [rws,st])) ?_
       refine .seeB [3] [V.ref [40] 0 (rws (fun b=>[V.bool b]) (st v187 v185 true)).length] rfl (.cons (.len (by simp [rws,st])) .nil) ?_
       refine .go 0 ?_
       refine Safe.regionD (n:=8) [(6,[6]),(7,[7])] [] E_good mixed rfl ?_
       refine rA 4 (up 0 4) ?_
       refine okG h (fun hb9083 h=>?_)
       refine DT 4 [[6],[7]] rfl rfl (v:=V.spt 1 (rws (fun n=>[I n]) a179.Next) (Int.toNat v185) 0) (fun _ hz=>(.idxSlM (f:=(fun n=>[I n])) rfl rfl rfl rfl rfl hb9083)) ?_
       refine DT 5 [[6],[7]] rfl rfl (v:=I (gt a179.Next v185)) (fun _ hz=>(.load rfl rfl (.sptM (f:=(fun n=>[I n])) hb9083 rfl) rfl)) ?_
       refine .sto 6 ?_
       refine .sto 7 ?_
       refine DAny.nil (by kernel_rfl) ?_
       refine .go 0 ?_
       refine roundQ.go rfl rfl rfl rfl rfl ?_
       refine .go 3 ?_
       refine Safe.regionD (n:=8) [] [] E_good mixed rfl ?_
       refine rA 4 (up 0 4) ?_
       refine okG h (fun hb9084 h=>?_)
       refine DT 4 [] rfl rfl (v:=V.spt 1 (rws (fun n=>[I n]) a179.Next) (Int.toNat v185) 0) (fun _ hz=>(.idxSlM (f:=(fun n=>[I n])) rfl rfl rfl rfl rfl hb9084)) ?_
       refine DT 5 [] rfl rfl (v:=I (gt a179.Next v185)) (fun _ hz=>(.load rfl rfl (.sptM (f:=(fun n=>[I n])) hb9084 rfl) rfl)) ?_
       refine rA 0 [6,7] ?_
       refine DAny.nil (by kernel_rfl) ?_
       refine .go 2 ?_
       exact lpK ⟨_,next_out h,(.cov ⟨rfl,rfl,(ut (ut (ut (ut (ut (ut upT_nil)))))),(uo (uo (uo (uo (uo (uo (uo (upOb_cons rfl (by exact .loop (ut (ut (ut (ut (ut upT_nil)))))) upOb_nil)))))))),(upOut_cons rfl (ut upT_nil) (upOut_cons rfl (ut (ut (ut (ut (ut (ut (ut (ut (ut upT_nil))))))))) upOut_nil)),rfl⟩)⟩
    ·refine .go 0 ?_
     replace h:=inr_out h hr9072
     refine .go 0 ?_
     refine rfQ.n (.inl rfl) rfl rfl (fun hbusy=>by cases hbusy) ?_
     refine .go 0 ?_
     exact .got (HJ9031 (v187,v188,v189) h) covA
  ·refine .go 0 ?_
   replace h:=inr_out h hr8975
   refine .go 1 ?_
   refine .len ?_
   refine .go 1 ?_
   refine Safe.loopS (fun(v191:Int)=>⟨Tryz.f63.ntmps,[(1,V.ptr [1] 0 0),(2,V.ptr [2] 0 0),(80,V.ref [40] 0 (rws (fun b=>[V.bool b]) v190).length),(81,I (v190.length:Int)),(82,I v191)],[([1],Obj.box a179.cells),([2],Obj.box [I 0]),([40],Obj.rows 1 (rws (fun b=>[V.bool b]) v190) false)],[],[]⟩) h covA ?_
   intro v191 ohr9099 h hr9099
   rw [chain_Check_s21] at h
   refine .go 1 ?_
   refine .ifC h (fun hc9100 h=>?_) (fun hc9100 h=>?_)
   ·refine .go 1 ?_
    refine okG h (fun hb9101 h=>?_)
    refine Q0 E_good rfl (v:=V.ptr [40] (0+Int.toNat v191) 0) (.idxRefM (f:=(fun b=>[V.bool b])) (xs:=v190) rfl rfl rfl rfl rfl rfl hb9101) ?_
    refine Q0 E_good rfl (v:=V.bool (gt v190 v191)) (.load rfl rfl (.rowsM (f:=(fun b=>[V.bool b])) (xs:=v190) hb9101 rfl rfl) rfl) ?_
    refine .go 5 ?_
    refine SafeOps.ifD 89 h rfl (fun hc9102 h=>?_) (fun hc9102 h=>?_)
    ·refine .go 3 ?_
     refine okG h (fun hb9104 h=>?_)
     refine .ix hb9104 ?_
     refine .ld hb9104 ?_
     refine .go 2 ?_
     refine .ifC h (fun hc9105 h=>?_) (fun hc9105 h=>?_)
     ·refine .go 1 ?_
      replace h:=inr_out h hr9099
      cases h
      exact retF
     ·refine .go 2 ?_
      exact lpK ⟨_,next_out h,covA⟩
    ·refine .go 10 ?_
     exact lpK ⟨_,next_out h,covA⟩
   ·refine .go 0 ?_
    replace h:=inr_out h hr9099
    refine .go 1 ?_
    cases h
    exact retF
theorem heap_may_sc (a192:api_Timer) (r:Bool) (h:heap_may a192=r):SC Tryz.prog gl 115 [V.agg a192.cells] (V.bool r):=by
 rw [heap_may] at h
 refine SC.go Tryz.func115 Tryz.call115 6 ?_
 refine .bjA 4 10 6 ?_
 refine .go 1 ?_
 refine .bjA 4 15 11 ?_
 refine .go 1 ?_
 cases h
 exact retF
theorem cmp_isNaN_int64_sc (a193:Int) (r:Bool) (h:cmp_isNaN_int64 a193=r):SC Tryz.prog gl 149 [I a193] (V.bool r):=by
 rw [cmp_isNaN_int64] at h
 refine SC.go Tryz.func149 Tryz.call149 5 ?_
 cases h
 exact retF
theorem cmp_Compare_int64_sc (a194:Int) (a195:Int) (r:Int) (h:cmp_Compare_int64 a194 a195=r):SC Tryz.prog gl 140 [I a194,I a195] (I r):=by
 rw [cmp_Compare_int64] at h
 refine SC.go Tryz.func140 Tryz.call140 2 ?_
 refine .cP (cmp_isNaN_int64_sc a194 _ rfl) ?_
 refine .go 2 ?_
 refine .cP (cmp_isNaN_int64_sc a195 _ rfl) ?_
 refine .go 2 ?_
 refine .ifC h (fun hc9143 h=>?_) (fun hc9143 h=>?_)
 ·refine .go 1 ?_
  refine .ifC h (fun hc9144 h=>?_) (fun hc9144 h=>?_)
  ·refine .go 1 ?_
   cases h
   exact retF
  ·refine .go 1 ?_
   cases h
   exact retF
 ·refine .go 1 ?_
  refine .ifC h (fun hc9145 h=>?_) (fun hc9145 h=>?_)
  ·refine .go 1 ?_
   cases h
   exact retF
  ·refine .go 3 ?_
   refine .ifC h (fun hc9146 h=>?_) (fun hc9146 h=>?_)
   ·refine .go 1 ?_
    cases h
    exact retF
   ·refine .go 3 ?_
    refine .ifC h (fun hc9147 h=>?_) (fun hc9147 h=>?_)
    ·refine .go 1 ?_
     cases h
     exact retF
    ·refine .go 1 ?_
     cases h
     exact retF
theorem cmp_Or_int_sc (a196:List Int) (r:Int) (h:cmp_Or_int a196=some r):SC Tryz.prog gl 139 [V.sl 1 (rws (fun n=>[I n]) a196)] (I r):=by
 rw [cmp_Or_int] at h
 refine SC.go Tryz.func139 Tryz.call139 3 ?_
 refine .len ?_
 refine .go 1 ?_
 refine Safe.loopS (fun(v197:Int)=>⟨Tryz.f139.ntmps,[(3,I 0),(6,V.sl 1 (rws (fun n=>[I n]) a196)),(7,I (a196.length:Int)),(8,I v197)],[],[],[]⟩) h covA ?_
 intro v197 ohr9170 h hr9170
 rw [cmp_Or_int_s1] at h
 refine .go 1 ?_
 refine .ifC h (fun hc9171 h=>?_) (fun hc9171 h=>?_)
 ·refine .go 0 ?_
  refine okG h (fun hb9172 h=>?_)
  refine .ix hb9172 ?_
  refine .ld hb9172 ?_
  refine .go 4 ?_
  refine .ifC h (fun hc9173 h=>?_) (fun hc9173 h=>?_)
  ·refine .go 2 ?_
   replace h:=inr_out h hr9170
   cases h
   exact retF
  ·refine .go 2 ?_
   exact lpK ⟨_,next_out h,covA⟩
 ·refine .go 0 ?_
  replace h:=inr_out h hr9170
  refine .go 2 ?_
  cases h
  exact retF
theorem heap_order_sc (a198:api_Timer) (a199:api_Timer) (r:Int) (h:heap_order a198 a199=some r):SC Tryz.prog gl 116 [V.agg a198.cells,V.agg a199.cells] (I r):=by
 rw [heap_order] at h
 refine SC.go Tryz.func116 Tryz.call116 3 ?_
 refine Safe.regionD (n:=13) [] [] E_good mixed rfl ?_
 refine rA 9 (up 0 4) ?_
 refine .cP (cmp_Compare_int64_sc a198.At a199.At _ rfl) 4 ?_
 refine rA 4 (up 5 4) ?_
 refine .cP (cmp_Compare_int64_sc a198.Id a199.Id _ rfl) 9 ?_
 refine DAny.only (i:=10) rfl (by kernel_rfl) (.quiet rfl rfl rfl (.litM (f:=(fun n=>[I n])) (xs:=[cmp_Compare_int64 a198.At a199.At,cmp_Compare_int64 a198.Id a199.Id]) rfl rfl (by decide) rfl rfl rfl rfl rfl) rfl ?_)
 refine bindG h ?_
 intro x200 he9177 h
 refine DT 11 [] rfl rfl (v:=I x200) (fun _ hz=>(.callS rfl (.cons (.full (hz _ _ rfl rfl) rfl) .nil) (cmp_Or_int_sc [cmp_Compare_int64 a198.At a199.At,cmp_Compare_int64 a198.Id a199.Id] _ he9177) (.plain rfl) rfl)) ?_
 refine rA 0 [12] ?_
 refine DAny.nil (by kernel_rfl) ?_
 refine .go 0 ?_
 cases h
 exact retF
theorem heap_Check_sc (a201:List api_Timer) (r:Int) (h:heap_Check a201=some r):SC Tryz.prog gl 65 [V.sl 2 (rws api_Timer.cells a201)] (I r):=by
 rw [heap_Check] at h
 refine SC.go Tryz.func65 Tryz.call65 2 ?_
 refine .len ?_
 refine .go 1 ?_
 refine .ifC h (fun hc9193 h=>?_) (fun hc9193 h=>?_)
 ·refine .go 1 ?_
  cases h
  exact retF
 ·refine .go 0 ?_
  refine SafeOps.quiet1 E_good rfl rfl rfl (.mkMapM (fun n:Int=>I n) (fun b:Bool=>V.bool b)) rfl ?_
  refine .go 2 ?_
  refine .len ?_
  refine .go 1 ?_
  refine Safe.loopS (fun((v202,v203):Int×(List (Int×Bool)))=>⟨Tryz.f65.ntmps,[(0,V.sl 2 (rws api_Timer.cells a201)),(3,V.mapr [9]),(10,V.sl 2 (rws api_Timer.cells a201)),(11,I (a201.length:Int)),(12,I v202)],[([9],Go.AM.Obj.map (mps (fun n:Int=>I n) (fun b:Bool=>V.bool b) v203))],[],[]⟩) h covA ?_
  rintro ⟨v202,v203⟩ ohr9211 h hr9211
  rw [heap_Check_s1] at h
  refine .go 1 ?_
  refine .ifC h (fun hc9212 h=>?_) (fun hc9212 h=>?_)
  ·refine .go 1 ?_
   refine okG h (fun hb9213 h=>?_)
   refine .ix hb9213 ?_
   refine .ld hb9213 ?_
   refine .go 3 ?_
   refine Safe.regionD (n:=24) [] [] E_good mixed rfl ?_
   refine rA 23 [0] ?_
   refine .cP (heap_may_sc (gt a201 v202) _ rfl) 1 ?_
   refine rA 20 [2,3] ?_
   refine DAny.ifD 20 h rfl (fun hc9214 h=>?_) (fun hc9214 h=>?_)
   ·refine rA 0 (up 4 20) ?_
    refine DAny.nil (by kernel_rfl) ?_
    refine .go 2 ?_
    replace h:=inr_out h hr9211
    cases h
    exact retF
   ·refine rA 17 (up 4 3) ?_
    refine DT 7 [] rfl rfl (v:=V.bool ((mget v203 ((gt a201 v202).Id)).getD false)) (fun _ hz=>(.lookM (fv:=(fun b:Bool=>V.bool b)) (m:=v203) (kk:=(gt a201 v202).Id) (z0:=false) (keyI .i64) rfl rfl rfl rfl rfl rfl (hz _ _ rfl rfl) rfl rfl rfl)) ?_
    refine rA 14 [8,9] ?_
    refine DAny.ifD 26 h rfl (fun hc9215 h=>?_) (fun hc9215 h=>?_)
    ·refine rA 0 (up 10 14) ?_
     refine DAny.nil (by kernel_rfl) ?_
     refine .go 2 ?_
     replace h:=inr_out h hr9211
     cases h
     exact retF
    ·refine rA 11 (up 10 3) ?_
     refine DAny.ifD 29 h rfl (fun hc9216 h=>?_) (fun hc9216 h=>?_)
     ·refine rA 7 (up 13 4) ?_
      refine DT 17 [] rfl rfl (v:=I (IntKind.i64.wrap (Int.tdiv (IntKind.i64.wrap (v202 - 1)) 4))) (fun _ hz=>(.quoV rfl rfl (by decide))) ?_
      refine okG h (fun hb9217 h=>?_)
      refine DT 18 [] rfl rfl (v:=V.spt 2 (rws api_Timer.cells a201) (Int.toNat (IntKind.i64.wrap (Int.tdiv (IntKind.i64.wrap (v202 - 1)) 4))) 0) (fun _ hz=>(.idxSlM (f:=api_Timer.cells) rfl rfl rfl rfl rfl hb9217)) ?_
      refine DT 19 [] rfl rfl (v:=V.agg [I ((gt a201 (IntKind.i64.wrap (Int.tdiv (IntKind.i64.wrap (v202 - 1)) 4))).At),I ((gt a201 (IntKind.i64.wrap (Int.tdiv (IntKind.i64.wrap (v202 - 1)) 4))).Id)]) (fun _ hz=>(.load rfl rfl (.sptM (f:=api_Timer.cells) hb9217 rfl) rfl)) ?_
      refine bindG h ?_
      intro x204 he9219 h
      refine .cP (heap_order_sc (gt a201 v202) (gt a201 (IntKind.i64.wrap (Int.tdiv (IntKind.i64.wrap (v202 - 1)) 4))) _ he9219) 20 ?_
      refine rA 0 (up 21 3) ?_
      refine DAny.nil (by kernel_rfl) ?_
      refine .go 0 ?_
      refine .ifC h (fun hc9220 h=>?_) (fun hc9220 h=>?_)
      ·refine .go 1 ?_
       replace h:=inr_out h hr9211
       cases h
       exact retF
      ·refine .go 3 ?_
       refine SafeOps.mputM (fun n:Int=>I n) (fun b:Bool=>V.bool b) v203 ((gt a201 v202).Id) true E_good (keyI .i64) rfl (.inl rfl) rfl rfl rfl rfl rfl rfl rfl rfl rfl ?_
       refine .go 2 ?_
       exact lpK ⟨_,next_out h,covA⟩
     ·refine rA 0 (up 13 11) ?_
      refine DAny.nil (by kernel_rfl) ?_
      refine .go 4 ?_
      refine SafeOps.mputM (fun n:Int=>I n) (fun b:Bool=>V.bool b) v203 ((gt a201 v202).Id) true E_good (keyI .i64) rfl (.inl rfl) rfl rfl rfl rfl rfl rfl rfl rfl rfl ?_
      refine .go 2 ?_
      exact lpK ⟨_,next_out h,covA⟩
  ·refine .go 0 ?_
   replace h:=inr_out h hr9211
   refine .go 1 ?_
   cases h
   exact retF
theorem poll_shut_sc  (r:api_Fd) (h:poll_shut =r):SC Tryz.prog gl 117 [] (V.agg (api_Fd.cells r)):=by
 rw [poll_shut] at h
 refine SC.go Tryz.func117 Tryz.call117 3 ?_
 cases h
 exact retF
theorem okT145:(eqOk Tryz.prog E 20 145&&!Tryz.prog.eqGuardType Tryz.prog.depth 145)=true:=by kernel_rfl
theorem poll_Check_sc (a205:List api_Fd) (r:Int) (h:poll_Check a205=some r):SC Tryz.prog gl 66 [V.sl 3 (rws api_Fd.cells a205)] (I r):=by
 rw [poll_Check] at h
 refine SC.go Tryz.func66 Tryz.call66 1 ?_
 refine SafeOps.quiet1 E_good rfl rfl rfl (.mkMapM (fun n:Int=>I n) (fun b:Bool=>V.bool b)) rfl ?_
 refine .go 2 ?_
 refine .len ?_
 refine .go 1 ?_
 refine Safe.loopS (fun((v206,v207):Int×(List (Int×Bool)))=>⟨Tryz.f66.ntmps,[(0,V.sl 3 (rws api_Fd.cells a205)),(3,V.mapr [7]),(8,V.sl 3 (rws api_Fd.cells a205)),(9,I (a205.length:Int)),(10,I v206)],[([7],Go.AM.Obj.map (mps (fun n:Int=>I n) (fun b:Bool=>V.bool b) v207))],[],[]⟩) h covA ?_
 rintro ⟨v206,v207⟩ ohr9410 h hr9410
 rw [poll_Check_s2] at h
 refine .go 1 ?_
 refine .ifC h (fun hc9411 h=>?_) (fun hc9411 h=>?_)
 ·refine .go 0 ?_
  refine okG h (fun hb9412 h=>?_)
  refine .ix hb9412 ?_
  refine .ld hb9412 ?_
  refine .go 2 ?_
  refine Safe.regionD (n:=23) [] [] E_good mixed rfl ?_
  refine rA 19 (up 0 4) ?_
  refine DAny.ifD 17 h rfl (fun hc9413 h=>?_) (fun hc9413 h=>?_)
  ·refine rA 0 (up 4 19) ?_
   refine DAny.nil (by kernel_rfl) ?_
   refine .go 9 ?_
   replace h:=inr_out h hr9410
   cases h
   exact retF
  ·refine rA 15 (up 4 4) ?_
   refine DAny.ifD 21 h rfl (fun hc9414 h=>?_) (fun hc9414 h=>?_)
   ·refine rA 14 [8] ?_
    refine letG h ?_
    intro x208 he9416 h
    refine .cP (poll_shut_sc  _ he9416) 9 ?_
    refine DT 10 [] rfl rfl (v:=V.bool (!(api_Fd.beq (gt a205 v206) x208))) (fun _ hz=>(.neA rfl rfl rfl rfl okT145 rfl)) ?_
    refine rA 9 (up 11 3) ?_
    refine DAny.ifD 27 h rfl (fun hc9417 h=>?_) (fun hc9417 h=>?_)
    ·refine rA 0 (up 14 9) ?_
     refine DAny.nil (by kernel_rfl) ?_
     refine .go 9 ?_
     replace h:=inr_out h hr9410
     cases h
     exact retF
    ·refine rA 6 (up 14 3) ?_
     refine DAny.ifD 30 h rfl (fun hc9418 h=>?_) (fun hc9418 h=>?_)
     ·refine rA 0 (up 17 6) ?_
      refine DAny.nil (by kernel_rfl) ?_
      refine .go 2 ?_
      refine SafeOps.bjoinL 5 42 37 rfl (b:=((((gt a205 v206).Who) != (-1))||((mget v207 ((gt a205 v206).Who)).getD false))) (b1:=true) (b0:=((mget v207 ((gt a205 v206).Who)).getD false)) (fun hc9419 K=>?_) (fun hc9419 K=>?_) bj_or ?_
      ·refine rO 5 ?_
       exact SafeOps.drop' 5 rfl rfl rfl K
      ·refine .go 3 ?_
       refine Q0 E_good rfl (v:=V.bool ((mget v207 ((gt a205 v206).Who)).getD false)) (.lookM (fv:=(fun b:Bool=>V.bool b)) (m:=v207) (kk:=(gt a205 v206).Who) (z0:=false) (keyI .i64) rfl rfl rfl rfl rfl rfl rfl rfl rfl rfl) ?_
       refine rO 1 ?_
       exact SafeOps.drop' 5 rfl rfl rfl K
      refine .go 0 ?_
      refine .ifC h (fun hc9420 h=>?_) (fun hc9420 h=>?_)
      ·refine .go 1 ?_
       replace h:=inr_out h hr9410
       cases h
       exact retF
      ·refine .go 6 ?_
       refine SafeOps.mputM (fun n:Int=>I n) (fun b:Bool=>V.bool b) v207 ((gt a205 v206).Who) (((gt a205 v206).Who) != (-1)) E_good (keyI .i64) rfl (.inl rfl) rfl rfl rfl rfl rfl rfl rfl rfl rfl ?_
       refine .go 2 ?_
       exact lpK ⟨_,next_out h,covA⟩
     ·refine rA 0 (up 17 6) ?_
      refine DAny.nil (by kernel_rfl) ?_
      refine .go 5 ?_
      refine Q0 E_good rfl (v:=V.bool ((mget v207 ((gt a205 v206).Who)).getD false)) (.lookM (fv:=(fun b:Bool=>V.bool b)) (m:=v207) (kk:=(gt a205 v206).Who) (z0:=false) (keyI .i64) rfl rfl rfl rfl rfl rfl rfl rfl rfl rfl) ?_
      refine .go 1 ?_
      refine .ifC h (fun hc9421 h=>?_) (fun hc9421 h=>?_)
      ·refine .go 1 ?_
       replace h:=inr_out h hr9410
       cases h
       exact retF
      ·refine .go 6 ?_
       refine SafeOps.mputM (fun n:Int=>I n) (fun b:Bool=>V.bool b) v207 ((gt a205 v206).Who) (((gt a205 v206).Who) != (-1)) E_good (keyI .i64) rfl (.inl rfl) rfl rfl rfl rfl rfl rfl rfl rfl rfl ?_
       refine .go 2 ?_
       exact lpK ⟨_,next_out h,covA⟩
   ·refine rA 6 (up 8 9) ?_
    refine DAny.ifD 30 h rfl (fun hc9422 h=>?_) (fun hc9422 h=>?_)
    ·refine rA 0 (up 17 6) ?_
     refine DAny.nil (by kernel_rfl) ?_
     refine .go 2 ?_
     refine SafeOps.bjoinL 5 42 37 rfl (b:=((((gt a205 v206).Who) != (-1))||((mget v207 ((gt a205 v206).Who)).getD false))) (b1:=true) (b0:=((mget v207 ((gt a205 v206).Who)).getD false)) (fun hc9423 K=>?_) (fun hc9423 K=>?_) bj_or ?_
     ·refine rO 5 ?_
      exact SafeOps.drop' 5 rfl rfl rfl K
     ·refine .go 3 ?_
      refine Q0 E_good rfl (v:=V.bool ((mget v207 ((gt a205 v206).Who)).getD false)) (.lookM (fv:=(fun b:Bool=>V.bool b)) (m:=v207) (kk:=(gt a205 v206).Who) (z0:=false) (keyI .i64) rfl rfl rfl rfl rfl rfl rfl rfl rfl rfl) ?_
      refine rO 1 ?_
      exact SafeOps.drop' 5 rfl rfl rfl K
     refine .go 0 ?_
     refine .ifC h (fun hc9424 h=>?_) (fun hc9424 h=>?_)
     ·refine .go 1 ?_
      replace h:=inr_out h hr9410
      cases h
      exact retF
     ·refine .go 6 ?_
      refine SafeOps.mputM (fun n:Int=>I n) (fun b:Bool=>V.bool b) v207 ((gt a205 v206).Who) (((gt a205 v206).Who) != (-1)) E_good (keyI .i64) rfl (.inl rfl) rfl rfl rfl rfl rfl rfl rfl rfl rfl ?_
      refine .go 2 ?_
      exact lpK ⟨_,next_out h,covA⟩
    ·refine rA 0 (up 17 6) ?_
     refine DAny.nil (by kernel_rfl) ?_
     refine .go 5 ?_
     refine Q0 E_good rfl (v:=V.bool ((mget v207 ((gt a205 v206).Who)).getD false)) (.lookM (fv:=(fun b:Bool=>V.bool b)) (m:=v207) (kk:=(gt a205 v206).Who) (z0:=false) (keyI .i64) rfl rfl rfl rfl rfl rfl rfl rfl rfl rfl) ?_
     refine .go 1 ?_
     refine .ifC h (fun hc9425 h=>?_) (fun hc9425 h=>?_)
     ·refine .go 1 ?_
      replace h:=inr_out h hr9410
      cases h
      exact retF
     ·refine .go 6 ?_
      refine SafeOps.mputM (fun n:Int=>I n) (fun b:Bool=>V.bool b) v207 ((gt a205 v206).Who) (((gt a205 v206).Who) != (-1)) E_good (keyI .i64) rfl (.inl rfl) rfl rfl rfl rfl rfl rfl rfl rfl rfl ?_
      refine .go 2 ?_
      exact lpK ⟨_,next_out h,covA⟩
 ·refine .go 0 ?_
  replace h:=inr_out h hr9410
  refine .go 1 ?_
  refine .len ?_
  refine .go 1 ?_
  refine .ifC h (fun hc9426 h=>?_) (fun hc9426 h=>?_)
  ·refine .go 1 ?_
   cases h
   exact retF
  ·refine .go 1 ?_
   cases h
   exact retF
theorem joins_Check_sc (a215:List api_Join) (r:Int) (h:joins_Check a215=some r):SC Tryz.prog gl 67 [V.sl 2 (rws api_Join.cells a215)] (I r):=by
 rw [joins_Check] at h
 refine SC.go Tryz.func67 Tryz.call67 2 ?_
 refine .inl Tryz.func118 Tryz.call118 3 ?_
 refine .inl Tryz.func141 Tryz.call141 2 ?_
 refine SafeOps.quiet1 E_good rfl rfl rfl (.mkMapM (fun n:Int=>I n) (fun n:Int=>I n)) rfl ?_
 refine .go 2 ?_
 refine .len ?_
 refine .go 1 ?_
 refine Safe.loopS (fun((v216,v210):Int×(List (Int×Int)))=>⟨Tryz.f141.ntmps,[(0,V.sl 2 (rws api_Join.cells a215)),(4,V.mapr [7,9,9]),(10,V.sl 2 (rws api_Join.cells a215)),(11,I (a215.length:Int)),(12,I v216)],[([7,9,9],Go.AM.Obj.map (mps (fun n:Int=>I n) (fun n:Int=>I n) v210))],[(Tryz.f118.ntmps,[]),(Tryz.f67.ntmps,[])],[7,9]⟩) h covA ?_
 rintro ⟨v216,v210⟩ ohr9782 h hr9782
 rw [joins_Check_s10] at h
 refine .go 1 ?_
 refine .ifC h (fun hc9783 h=>?_) (fun hc9783 h=>?_)
 ·refine .go 0 ?_
  refine okG h (fun hb9784 h=>?_)
  refine .ix hb9784 ?_
  refine .ld hb9784 ?_
  refine .go 5 ?_
  refine Q0 E_good rfl (v:=V.tup [I ((mget v210 ((gt a215 v216).Who)).getD 0),V.bool ((mget v210 ((gt a215 v216).Who)).isSome)]) (.lookM2 (fv:=(fun n:Int=>I n)) (m:=v210) (kk:=(gt a215 v216).Who) (z0:=0) (keyI .i64) rfl rfl rfl rfl rfl rfl rfl rfl rfl rfl) ?_
  refine .go 7 ?_
  refine .bjO 7 31 24 ?_
  refine .go 0 ?_
  refine .ifC h (fun hc9786 h=>?_) (fun hc9786 h=>?_)
  ·refine .go 3 ?_
   replace h:=inr_out h hr9782
   refine .go 18 ?_
   cases h
   exact retF
  ·refine .go 5 ?_
   refine SafeOps.mputM (fun n:Int=>I n) (fun n:Int=>I n) v210 ((gt a215 v216).Who) ((gt a215 v216).On) E_good (keyI .i64) rfl (.inl rfl) rfl rfl rfl rfl rfl rfl rfl rfl rfl ?_
   refine .go 2 ?_
   exact lpK ⟨_,next_out h,covA⟩
 ·refine .go 0 ?_
  replace h:=inr_out h hr9782
  refine .go 2 ?_
  refine .len ?_
  refine .go 11 ?_
  refine .ifC h (fun hc9787 h=>?_) (fun hc9787 h=>?_)
  ·refine .go 10 ?_
   cases h
   exact retF
  ·refine .go 1 ?_
   refine SafeOps.rangeM E_good rfl rfl rfl rfl rfl rfl rfl rfl (fun ms9788 ck9788 hl9788 hs9788=>?_)
   replace hl9788:ms9788.size=v210.length:=by simpa [mps] using hl9788
   refine .go 0 ?_
   refine bindG h ?_
   intro b218 hb9789 h09789
   refine Safe.loopMS hb9789 hl9788 hs9788 (fun seen9789=>⟨Tryz.f118.ntmps,[(4,V.mapr [7,9,9]),(15,V.itr [7,15])],[([7,9,9],Go.AM.Obj.gmap (mps (fun n:Int=>I n) (fun n:Int=>I n) v210) ms9788 ck9788),([7,15],Go.AM.Obj.iter (some [7,9,9]) (mps (fun n:Int=>I n) (fun n:Int=>I n) v210) ms9788 ck9788 ck9788 seen9789)],[(Tryz.f67.ntmps,[])],[7]⟩) covA ?_
   intro seen9789 hF9789
   refine .go 0 ?_
   refine SafeOps.nextM (fun n:Int=>I n) (fun n:Int=>I n) rfl rfl rfl rfl rfl rfl rfl (fun im9789 hi9789 k211 v217 hkv9789 hns9789=>?_) (fun hall9789=>?_)
   ·obtain ⟨c9789,hc9789,hcb9789⟩:=anyO_get hb9789 hi9789 hkv9789
    have h:(whileO (joins_Check_s13 v210 k211) (((mget v210 k211).getD 0),(mget v210 k211).isSome,0))=some c9789:=hc9789
    refine Q0 E_good rfl (v:=V.bool true) (.fn rfl) ?_
    refine .go 1 ?_
    refine SafeOps.entryM (fun n:Int=>I n) (fun n:Int=>I n) (i:=im9789) (k:=k211) (v:=v217) rfl rfl rfl rfl rfl rfl rfl hi9789 hkv9789 ?_
    refine .go 5 ?_
    refine .joinR 1 (fun(v209:Bool)=>joins_Check_j12 v209=some c9789) (fun(v209:Bool)=>⟨Tryz.f118.ntmps,[(4,V.mapr [7,9,9]),(15,V.itr [7,15]),(23,V.bool v209)],[([7,9,9],Go.AM.Obj.gmap (mps (fun n:Int=>I n) (fun n:Int=>I n) v210) ms9788 ck9788),([7,15],Go.AM.Obj.iter (some [7,9,9]) (mps (fun n:Int=>I n) (fun n:Int=>I n) v210) ms9788 ck9788 ck9788 (seen9789.push (bornAt ms9788 im9789)))],[(Tryz.f67.ntmps,[])],[7]⟩) ?_ (fun HJ9813=>?_)
    ·intro v209 h
     rw [joins_Check_j12] at h
     refine .go 0 ?_
     refine .ifC h (fun hc9814 h=>?_) (fun hc9814 h=>?_)
     ·refine .go 3 ?_
      have hct9789:=(Option.some.inj h).symm
      replace h:=ifT_out h09789 (hcb9789 hct9789)
      refine .go 7 ?_
      cases h
      exact retF
     ·refine .go 0 ?_
      exact lpK ⟨im9789,hi9789,k211,v217,hkv9789,hns9789,hc9789.trans h.symm,covA⟩
    ·refine .inl Tryz.func142 Tryz.call142 4 ?_
     refine .inl Tryz.func150 Tryz.call150 6 ?_
     refine Safe.rangeFunc (k:=9011) rfl rfl Tryz.func166 rfl (fun _ _=>Tryz.call166 _ _) rfl rfl rfl ?_
     refine .go0 2 ?_
     refine .quietG [7,9,9] (v:=V.tup [I ((mget v210 k211).getD 0),V.bool ((mget v210 k211).isSome)]) (.lookM2 (fv:=(fun n:Int=>I n)) (m:=v210) (kk:=k211) (z0:=0) (keyI .i64) rfl rfl rfl rfl rfl rfl rfl rfl rfl rfl) ?_
     refine .go 6 ?_
     refine .quietG [7,9,9] (v:=I (v210.length:Int)) (.lenMM (fk:=(fun n:Int=>I n)) (fv:=(fun n:Int=>I n)) (m:=v210) rfl rfl rfl) ?_
     refine .go 1 ?_
     refine Safe.loopS (fun((v212,v213,v214):Int×Bool×Int)=>⟨Tryz.f166.ntmps,[(0,V.yld [7,23,9011]),(1,V.ptr [7,23,10,2] 0 0),(4,I v212),(5,V.bool v213),(13,I (v210.length:Int)),(14,I v214)],[([7,9,9],Go.AM.Obj.gmap (mps (fun n:Int=>I n) (fun n:Int=>I n) v210) ms9788 ck9788),([7,15],Go.AM.Obj.iter (some [7,9,9]) (mps (fun n:Int=>I n) (fun n:Int=>I n) v210) ms9788 ck9788 ck9788 (seen9789.push (bornAt ms9788 im9789))),([7,23,5],Obj.box [I k211]),([7,23,6],Obj.box [V.bool false]),([7,23,10,2],Obj.box [V.mapr [7,9,9]]),([7,23,9011],Go.AM.Obj.loop Tryz.f142.ntmps [(5,V.ptr [7,23,5] 0 0),(6,V.ptr [7,23,6] 0 0)] [11] (rfA Tryz.f142 0) (rfB Tryz.f142 0) .ready none)],[(1,[(0,V.yld [7,23,9011])]),(Tryz.f142.ntmps,[(6,V.ptr [7,23,6] 0 0)]),(Tryz.f118.ntmps,[(4,V.mapr [7,9,9]),(15,V.itr [7,15])]),(Tryz.f67.ntmps,[])],[7,23,9011,0]⟩) h (.cov ⟨rfl,rfl,(ut (ut (ut (ut (ut (ut upT_nil)))))),(uo (uo (uo (uo (uo (upOb_cons rfl (by exact .loop (ut (ut upT_nil))) upOb_nil)))))),(upOut_cons rfl (ut upT_nil) (upOut_cons rfl (ut upT_nil) (upOut_cons rfl (ut (ut upT_nil)) (upOut_cons rfl upT_nil upOut_nil)))),rfl⟩) ?_
     rintro ⟨v212,v213,v214⟩ ohr9829 h hr9829
     rw [joins_Check_s13] at h
     refine .go 1 ?_
     refine .ifC h (fun hc9830 h=>?_) (fun hc9830 h=>?_)
     ·refine .go 3 ?_
      refine SafeOps.ifD 18 h rfl (fun hc9831 h=>?_) (fun hc9831 h=>?_)
      ·refine .go 6 ?_
       refine rfQ.n (.inr rfl) rfl rfl (fun hbusy=>by cases hbusy) ?_
       replace h:=inr_out h hr9829
       refine .goN 2 ?_
       exact .got (HJ9813 (false) h) covA
      ·refine .go 2 ?_
       refine SafeOps.yield rfl rfl rfl rfl rfl rfl rfl rfl ?_
       refine .go0 1 ?_
       refine asgQ.go rfl rfl ?_
       refine .go0 3 ?_
       refine .ifC h (fun hc9833 h=>?_) (fun hc9833 h=>?_)
       ·refine .go 1 ?_
        refine roundQ.go rfl rfl rfl rfl rfl ?_
        refine .go 3 ?_
        refine rfQ.j (.inr rfl) rfl rfl (fun hbusy=>by cases hbusy) ?_
        replace h:=inr_out h hr9829
        refine .goN 1 ?_
        exact .got (HJ9813 (true) h) covA
       ·refine .go 0 ?_
        refine roundQ.go rfl rfl rfl rfl rfl ?_
        refine .go 5 ?_
        refine .quietG [7,9,9] (v:=V.tup [I ((mget v210 v212).getD 0),V.bool ((mget v210 v212).isSome)]) (.lookM2 (fv:=(fun n:Int=>I n)) (m:=v210) (kk:=v212) (z0:=0) (keyI .i64) rfl rfl rfl rfl rfl rfl rfl rfl rfl rfl) ?_
        refine .go 7 ?_
        exact lpK ⟨_,next_out h,(.cov ⟨rfl,rfl,(ut (ut (ut (ut (ut (ut upT_nil)))))),(uo (uo (uo (uo (uo (upOb_cons rfl (by exact .loop (ut (ut upT_nil))) upOb_nil)))))),(upOut_cons rfl (ut upT_nil) (upOut_cons rfl (ut upT_nil) (upOut_cons rfl (ut (ut upT_nil)) (upOut_cons rfl upT_nil upOut_nil)))),rfl⟩)⟩
     ·refine .go 0 ?_
      replace h:=inr_out h hr9829
      refine .go 0 ?_
      refine rfQ.n (.inl rfl) rfl rfl (fun hbusy=>by cases hbusy) ?_
      refine .goN 2 ?_
      exact .got (HJ9813 (false) h) covA
   ·replace h:=ifF_out h09789 (anyO_none hb9789 (fun i hi=>hF9789 i hi (hall9789 i hi)))
    refine Q0 E_good rfl (v:=V.bool false) (.fn rfl) ?_
    refine .ungm [7,9,9] rfl rfl ?_
    refine .go 12 ?_
    cases h
    exact retF
theorem idle_counted_sc (a219:api_Idle) (r:A4_Int×Bool) (h:idle_counted a219=some r):SC Tryz.prog gl 119 [V.agg a219.cells] (V.tup [V.agg (A4_Int.cells r.1),V.bool r.2]):=by
 rw [idle_counted] at h
 refine SC.go Tryz.func119 Tryz.call119 5 ?_
 refine .len ?_
 refine .go 1 ?_
 refine Safe.loopS (fun((v220,v221,v222,v223,v224):Int×Int×Int×Int×Int)=>⟨Tryz.f119.ntmps,[(2,V.ptr [2] 0 0),(7,V.sl 1 (rws (fun n=>[I n]) a219.Is)),(8,I (a219.Is.length:Int)),(9,I v220)],[([2],Obj.box [I v221,I v222,I v223,I v224])],[],[]⟩) h covA ?_
 rintro ⟨v220,v221,v222,v223,v224⟩ ohr9890 h hr9890
 rw [idle_counted_s1] at h
 refine .go 1 ?_
 refine .ifC h (fun hc9891 h=>?_) (fun hc9891 h=>?_)
 ·refine .go 0 ?_
  refine okG h (fun hb9892 h=>?_)
  refine .ix hb9892 ?_
  refine .ld hb9892 ?_
  refine .go 4 ?_
  refine .bjO 3 18 15 ?_
  refine .go 0 ?_
  refine .ifC h (fun hc9894 h=>?_) (fun hc9894 h=>?_)
  ·refine .go 3 ?_
   replace h:=inr_out h hr9890
   cases h
   exact retF
  ·refine .go 1 ?_
   refine okG h (fun hb9895 h=>?_)
   refine Q0 E_good rfl (v:=V.ptr [2] 0 (0+Int.toNat (gt a219.Is v220)*1)) (.idxArrM rfl rfl rfl rfl rfl rfl 4 rfl hb9895) ?_
   refine Q0 E_good rfl (v:=I (if (gt a219.Is v220)=0 then v221 else (if (gt a219.Is v220)=1 then v222 else (if (gt a219.Is v220)=2 then v223 else v224)))) (.load rfl rfl (.boxM (cs:=[I (if (gt a219.Is v220)=0 then v221 else (if (gt a219.Is v220)=1 then v222 else (if (gt a219.Is v220)=2 then v223 else v224)))]) rfl (by have hq:(gt a219.Is v220)=0∨(gt a219.Is v220)=1∨(gt a219.Is v220)=2∨(gt a219.Is v220)=3:=(by omega);rcases hq with hq|hq|hq|hq<;>simp only [hq]<;>rfl)) rfl) ?_
   refine .go 1 ?_
   refine okG h (fun hb9896 h=>?_)
   refine Q0 E_good rfl (v:=V.ptr [2] 0 (0+Int.toNat (gt a219.Is v220)*1)) (.idxArrM rfl rfl rfl rfl rfl rfl 4 rfl hb9896) ?_
   refine SafeOps.store (z:=Obj.box [I (if (gt a219.Is v220)=0 then IntKind.i64.wrap ((if (gt a219.Is v220)=0 then v221 else (if (gt a219.Is v220)=1 then v222 else (if (gt a219.Is v220)=2 then v223 else v224)))+1) else v221),I (if (gt a219.Is v220)=1 then IntKind.i64.wrap ((if (gt a219.Is v220)=0 then v221 else (if (gt a219.Is v220)=1 then v222 else (if (gt a219.Is v220)=2 then v223 else v224)))+1) else v222),I (if (gt a219.Is v220)=2 then IntKind.i64.wrap ((if (gt a219.Is v220)=0 then v221 else (if (gt a219.Is v220)=1 then v222 else (if (gt a219.Is v220)=2 then v223 else v224)))+1) else v223),I (if (gt a219.Is v220)=3 then IntKind.i64.wrap ((if (gt a219.Is v220)=0 then v221 else (if (gt a219.Is v220)=1 then v222 else (if (gt a219.Is v220)=2 then v223 else v224)))+1) else v224)]) E_good rfl rfl rfl rfl rfl rfl rfl (.boxM (c:=4) rfl rfl (by have:=hb9896;show (0+Int.toNat (gt a219.Is v220)*1)+1≤4;omega) (by have hq:(gt a219.Is v220)=0∨(gt a219.Is v220)=1∨(gt a219.Is v220)=2∨(gt a219.Is v220)=3:=(by omega);rcases hq with hq|hq|hq|hq<;>simp only [hq]<;>rfl)) ?_
   refine .go 2 ?_
   exact lpK ⟨_,next_out h,covA⟩
 ·refine .go 0 ?_
  replace h:=inr_out h hr9890
  refine .go 3 ?_
  cases h
  exact retF
theorem idle_tally_fits_sc (a225:A4_Int) (r:Bool) (h:idle_tally_fits a225=r):SC Tryz.prog gl 120 [V.agg a225.cells] (V.bool r):=by
 rw [idle_tally_fits] at h
 refine SC.go Tryz.func120 Tryz.call120 2 ?_
 refine Q0 E_good rfl (v:=V.ptr [1] 0 1) (.idxArrM rfl rfl rfl rfl rfl rfl 4 rfl (by decide)) ?_
 refine .go 1 ?_
 refine Q0 E_good rfl (v:=V.ptr [1] 0 0) (.idxArrM rfl rfl rfl rfl rfl rfl 4 rfl (by decide)) ?_
 refine .go 1 ?_
 refine Q0 E_good rfl (v:=V.ptr [1] 0 1) (.idxArrM rfl rfl rfl rfl rfl rfl 4 rfl (by decide)) ?_
 refine .go 2 ?_
 refine Q0 E_good rfl (v:=V.ptr [1] 0 2) (.idxArrM rfl rfl rfl rfl rfl rfl 4 rfl (by decide)) ?_
 refine .go 3 ?_
 refine Q0 E_good rfl (v:=I (IntKind.i64.wrap (Int.tdiv (IntKind.i64.wrap ((IntKind.i64.wrap ((IntKind.i64.wrap (a225.a0+a225.a1))+a225.a2))+1)) 2))) (.quoV rfl rfl (by decide)) ?_
 refine .go 2 ?_
 cases h
 exact retF
theorem idle_Check_sc (a226:api_Idle) (r:Int) (h:idle_Check a226=some r):SC Tryz.prog gl 68 [V.agg a226.cells] (I r):=by
 rw [idle_Check] at h
 refine SC.go Tryz.func68 Tryz.call68 3 ?_
 refine bindG h ?_
 rintro ⟨x230,x231⟩ he9953 h
 refine .cP (idle_counted_sc a226 _ he9953) ?_
 refine .go 9 ?_
 refine SafeOps.bjoinL 5 20 15 rfl (b:=((!x231)||(decide ((a226.Is.length:Int) < 1)))) (b1:=true) (b0:=decide ((a226.Is.length:Int) < 1)) (fun hc9954 K=>?_) (fun hc9954 K=>?_) bj_or ?_
 ·refine rO 5 ?_
  exact SafeOps.drop' 5 rfl rfl rfl K
 ·refine .go 2 ?_
  refine .len ?_
  refine rO 2 ?_
  exact SafeOps.drop' 5 rfl rfl rfl K
 refine .go 1 ?_
 refine SafeOps.bjoinL 5 26 21 rfl (b:=(((!x231)||(decide ((a226.Is.length:Int) < 1)))||(decide ((a226.Is.length:Int) > 64)))) (b1:=true) (b0:=decide ((a226.Is.length:Int) > 64)) (fun hc9955 K=>?_) (fun hc9955 K=>?_) bj_or ?_
 ·refine rO 5 ?_
  exact SafeOps.drop' 5 rfl rfl rfl K
 ·refine .go 2 ?_
  refine .len ?_
  refine rO 2 ?_
  exact SafeOps.drop' 5 rfl rfl rfl K
 refine .go 1 ?_
 refine SafeOps.bjoinL 4 31 27 rfl (b:=((((!x231)||(decide ((a226.Is.length:Int) < 1)))||(decide ((a226.Is.length:Int) > 64)))||(!(idle_tally_fits x230)))) (b1:=true) (b0:=(!(idle_tally_fits x230))) (fun hc9956 K=>?_) (fun hc9956 K=>?_) bj_or ?_
 ·refine rO 4 ?_
  exact SafeOps.drop' 4 rfl rfl rfl K
 ·refine .go 1 ?_
  refine .cP (idle_tally_fits_sc x230 _ rfl) ?_
  refine rO 2 ?_
  exact SafeOps.drop' 4 rfl rfl rfl K
 refine .go 1 ?_
 refine SafeOps.bjoinL 10 42 32 rfl (b:=(((((!x231)||(decide ((a226.Is.length:Int) < 1)))||(decide ((a226.Is.length:Int) > 64)))||(!(idle_tally_fits x230)))||((a226.Stack.length:Int) != (IntKind.i64.wrap (x230.a2+x230.a3))))) (b1:=true) (b0:=((a226.Stack.length:Int) != (IntKind.i64.wrap (x230.a2+x230.a3)))) (fun hc9957 K=>?_) (fun hc9957 K=>?_) bj_or ?_
 ·refine rO 10 ?_
  exact SafeOps.drop' 10 rfl rfl rfl K
 ·refine .go 2 ?_
  refine .len ?_
  refine Q0 E_good rfl (v:=V.ptr [3] 0 2) (.idxArrM rfl rfl rfl rfl rfl rfl 4 rfl (by decide)) ?_
  refine .go 1 ?_
  refine Q0 E_good rfl (v:=V.ptr [3] 0 3) (.idxArrM rfl rfl rfl rfl rfl rfl 4 rfl (by decide)) ?_
  refine rO 4 ?_
  exact SafeOps.drop' 10 rfl rfl rfl K
 refine .go 0 ?_
 refine .ifC h (fun hc9958 h=>?_) (fun hc9958 h=>?_)
 ·refine .go 1 ?_
  cases h
  exact retF
 ·refine .go 2 ?_
  refine .len ?_
  refine okG h (fun hb9959 h=>?_)
  refine SafeOps.quiet1 E_good rfl rfl rfl (.makeM (f:=(fun b=>[V.bool b])) (d:=false) rfl rfl rfl rfl hb9959 rfl rfl rfl) rfl ?_
  refine .go 3 ?_
  refine .len ?_
  refine .go 1 ?_
  refine Safe.loopS (fun((v227,v228):(List Bool)×Int)=>⟨Tryz.f68.ntmps,[(1,V.ptr [1] 0 0),(5,V.ref [46] 0 (rws (fun b=>[V.bool b]) v227).length),(48,V.sl 1 (rws (fun n=>[I n]) a226.Stack)),(49,I (a226.Stack.length:Int)),(50,I v228)],[([1],Obj.box a226.cells),([46],Obj.rows 1 (rws (fun b=>[V.bool b]) v227) false)],[],[]⟩) h covA ?_
  rintro ⟨v227,v228⟩ ohr9990 h hr9990
  rw [idle_Check_s3] at h
  refine .go 1 ?_
  refine .ifC h (fun hc9991 h=>?_) (fun hc9991 h=>?_)
  ·refine .go 0 ?_
   refine okG h (fun hb9992 h=>?_)
   refine .ix hb9992 ?_
   refine .ld hb9992 ?_
   refine .go 4 ?_
   refine SafeOps.bjoinL 5 61 56 rfl (b:=((decide ((gt a226.Stack v228) < 0))||(decide ((gt a226.Stack v228)≥(v227.length:Int))))) (b1:=true) (b0:=decide ((gt a226.Stack v228)≥(v227.length:Int))) (fun hc9993 K=>?_) (fun hc9993 K=>?_) bj_or ?_
   ·refine rO 5 ?_
    exact SafeOps.drop' 5 rfl rfl rfl K
   ·refine .go 2 ?_
    refine .len ?_
    refine rO 2 ?_
    exact SafeOps.drop' 5 rfl rfl rfl K
   refine .go 1 ?_
   refine SafeOps.bsplit 5 67 (fun b229=>idle_Check_j4 a226 v227 v228 b229=some ohr9990) (fun HJ9997=>?_) (fun b229 h=>?_)
   ·refine SafeOps.ifD 62 h rfl (fun hc9994 h=>?_) (fun hc9994 h=>?_)
    ·refine rO 5 ?_
     exact SafeOps.drop' 5 rfl rfl rfl (SafeOps.unk 62 rfl hc9994 (HJ9997 _ h))
    ·refine .go 2 ?_
     refine okG h (fun hb10003 h=>?_)
     refine Q0 E_good rfl (v:=V.ptr [46] (0+Int.toNat (gt a226.Stack v228)) 0) (.idxRefM (f:=(fun b=>[V.bool b])) (xs:=v227) rfl rfl rfl rfl rfl rfl hb10003) ?_
     refine Q0 E_good rfl (v:=V.bool (gt v227 (gt a226.Stack v228))) (.load rfl rfl (.rowsM (f:=(fun b=>[V.bool b])) (xs:=v227) hb10003 rfl rfl) rfl) ?_
     refine rO 1 ?_
     exact SafeOps.drop' 5 rfl rfl rfl (SafeOps.unk 62 rfl hc9994 (HJ9997 _ h))
   ·replace h:idle_Check_j4 a226 v227 v228 b229=some ohr9990:=h
    rw [idle_Check_j4] at h
    refine .go 1 ?_
    refine SafeOps.ifD 68 h rfl (fun hc9998 h=>?_) (fun hc9998 h=>?_)
    ·refine .go 9 ?_
     replace h:=inr_out h hr9990
     cases h
     exact retF
    ·refine .go 3 ?_
     refine okG h (fun hb10000 h=>?_)
     refine .ix hb10000 ?_
     refine .ld hb10000 ?_
     refine .go 2 ?_
     refine .ifC h (fun hc10001 h=>?_) (fun hc10001 h=>?_)
     ·refine .go 1 ?_
      replace h:=inr_out h hr9990
      cases h
      exact retF
     ·refine .go 2 ?_
      refine okG h (fun hb10002 h=>?_)
      refine Q0 E_good rfl (v:=V.ptr [46] (0+Int.toNat (gt a226.Stack v228)) 0) (.idxRefM (f:=(fun b=>[V.bool b])) (xs:=v227) rfl rfl rfl rfl rfl rfl hb10002) ?_
      refine SafeOps.store (z:=Obj.rows 1 (rws (fun b=>[V.bool b]) (st v227 (gt a226.Stack v228) true)) false) E_good rfl rfl rfl rfl rfl rfl rfl (.rowsM (f:=(fun b=>[V.bool b])) (xs:=v227) (y:=true) hb10002 rfl rfl rfl rfl) ?_
      refine .see 5 (u:=V.ref [46] 0 (rws (fun b=>[V.bool b]) (st v227 (gt a226.Stack v228) true)).length) rfl (.len (by simp [rws,st])) ?_
      refine .see 76 (u:=V.ref [46] 0 (rws (fun b=>[V.bool b]) (st v227 (gt a226.Stack v228) true)).length) rfl (.len (by simp [rws,st])) ?_
      refine .go 2 ?_
      exact lpK ⟨_,next_out h,covA⟩
  ·refine .go 0 ?_
   replace h:=inr_out h hr9990
   refine .go 1 ?_
   cases h
   exact retF
theorem sema_Check_sc (a232:api_Sem) (r:Int) (h:sema_Check a232=some r):SC Tryz.prog gl 70 [V.agg a232.cells] (I r):=by
 rw [sema_Check] at h
 refine SC.go Tryz.func70 Tryz.call70 6 ?_
 refine .bjO 4 13 9 ?_
 refine .go 1 ?_
 refine SafeOps.bjoinL 5 19 14 rfl (b:=(((decide (a232.Free < 0))||(decide (a232.Free > 1000)))||(decide ((a232.Wait.length:Int) > 256)))) (b1:=true) (b0:=decide ((a232.Wait.length:Int) > 256)) (fun hc10107 K=>?_) (fun hc10107 K=>?_) bj_or ?_
 ·refine rO 5 ?_
  exact SafeOps.drop' 5 rfl rfl rfl K
 ·refine .go 2 ?_
  refine .len ?_
  refine rO 2 ?_
  exact SafeOps.drop' 5 rfl rfl rfl K
 refine .go 1 ?_
 refine SafeOps.bjoinL 8 28 20 rfl (b:=((((decide (a232.Free < 0))||(decide (a232.Free > 1000)))||(decide ((a232.Wait.length:Int) > 256)))||(decide ((if (a232.Wait.length:Int) < a232.Free then (a232.Wait.length:Int) else a232.Free) > 0)))) (b1:=true) (b0:=decide ((if (a232.Wait.length:Int) < a232.Free then (a232.Wait.length:Int) else a232.Free) > 0)) (fun hc10108 K=>?_) (fun hc10108 K=>?_) bj_or ?_
 ·refine rO 8 ?_
  exact SafeOps.drop' 8 rfl rfl rfl K
 ·refine .go 4 ?_
  refine .len ?_
  refine rO 3 ?_
  exact SafeOps.drop' 8 rfl rfl rfl K
 refine .go 0 ?_
 refine .ifC h (fun hc10109 h=>?_) (fun hc10109 h=>?_)
 ·refine .go 1 ?_
  cases h
  exact retF
 ·refine .go 0 ?_
  refine SafeOps.quiet1 E_good rfl rfl rfl (.mkMapM (fun n:Int=>I n) (fun b:Bool=>V.bool b)) rfl ?_
  refine SafeOps.mputM (fun n:Int=>I n) (fun b:Bool=>V.bool b) [] (-1) true E_good (keyI .i64) rfl (.inr rfl) rfl rfl rfl rfl rfl rfl rfl rfl rfl ?_
  refine .go 4 ?_
  refine .len ?_
  refine .go 1 ?_
  refine Safe.loopS (fun((v233,v234):Int×(List (Int×Bool)))=>⟨Tryz.f70.ntmps,[(3,V.mapr [29]),(32,V.sl 1 (rws (fun n=>[I n]) a232.Wait)),(33,I (a232.Wait.length:Int)),(34,I v233)],[([29],Go.AM.Obj.map (mps (fun n:Int=>I n) (fun b:Bool=>V.bool b) v234))],[],[]⟩) h covA ?_
  rintro ⟨v233,v234⟩ ohr10122 h hr10122
  rw [sema_Check_s1] at h
  refine .go 1 ?_
  refine .ifC h (fun hc10123 h=>?_) (fun hc10123 h=>?_)
  ·refine .go 0 ?_
   refine okG h (fun hb10124 h=>?_)
   refine .ix hb10124 ?_
   refine .ld hb10124 ?_
   refine .go 4 ?_
   refine SafeOps.bjoinL 4 44 40 rfl (b:=((decide ((gt a232.Wait v233) < 0))||((mget v234 (gt a232.Wait v233)).getD false))) (b1:=true) (b0:=((mget v234 (gt a232.Wait v233)).getD false)) (fun hc10125 K=>?_) (fun hc10125 K=>?_) bj_or ?_
   ·refine rO 4 ?_
    exact SafeOps.drop' 4 rfl rfl rfl K
   ·refine .go 2 ?_
    refine Q0 E_good rfl (v:=V.bool ((mget v234 (gt a232.Wait v233)).getD false)) (.lookM (fv:=(fun b:Bool=>V.bool b)) (m:=v234) (kk:=(gt a232.Wait v233)) (z0:=false) (keyI .i64) rfl rfl rfl rfl rfl rfl rfl rfl rfl rfl) ?_
    refine rO 1 ?_
    exact SafeOps.drop' 4 rfl rfl rfl K
   refine .go 0 ?_
   refine .ifC h (fun hc10126 h=>?_) (fun hc10126 h=>?_)
   ·refine .go 1 ?_
    replace h:=inr_out h hr10122
    cases h
    exact retF
   ·refine .go 2 ?_
    refine SafeOps.mputM (fun n:Int=>I n) (fun b:Bool=>V.bool b) v234 (gt a232.Wait v233) true E_good (keyI .i64) rfl (.inl rfl) rfl rfl rfl rfl rfl rfl rfl rfl rfl ?_
    refine .go 2 ?_
    exact lpK ⟨_,next_out h,covA⟩
  ·refine .go 0 ?_
   replace h:=inr_out h hr10122
   refine .go 1 ?_
   cases h
   exact retF
theorem crew_checker_parts_1_sc (a235:api_Sem) (r:Bool) (h:crew_checker_parts_1 a235=some r):SC Tryz.prog gl 69 [V.agg a235.cells] (V.bool r):=by
 rw [crew_checker_parts_1] at h
 refine SC.go Tryz.func69 Tryz.call69 3 ?_
 refine bindG h ?_
 intro x236 he10130 h
 refine .cP (sema_Check_sc a235 _ he10130) ?_
 refine .go 2 ?_
 cases h
 exact retF
theorem slices_IndexFunc_api_Sem_api_Sem_169_sc (a237:List api_Sem) (r:Int) (h:slices_IndexFunc_api_Sem_api_Sem_169 a237=some r):SC Tryz.prog gl 121 [V.sl 2 (rws api_Sem.cells a237),V.fn 69 []] (I r):=by
 rw [slices_IndexFunc_api_Sem_api_Sem_169] at h
 refine SC.go Tryz.func121 Tryz.call121 2 ?_
 refine .len ?_
 refine .go 1 ?_
 refine Safe.loopS (fun(v238:Int)=>⟨Tryz.f121.ntmps,[(0,V.sl 2 (rws api_Sem.cells a237)),(1,V.fn 69 []),(7,I (a237.length:Int)),(8,I v238)],[],[],[]⟩) h covA ?_
 intro v238 ohr10159 h hr10159
 rw [slices_IndexFunc_api_Sem_api_Sem_169_s1] at h
 refine .go 1 ?_
 refine .ifC h (fun hc10160 h=>?_) (fun hc10160 h=>?_)
 ·refine .go 5 ?_
  refine okG h (fun hb10161 h=>?_)
  refine .ix hb10161 ?_
  refine .ld hb10161 ?_
  refine bindG h ?_
  intro x239 he10163 h
  refine .cP (crew_checker_parts_1_sc (gt a237 v238) _ he10163) ?_
  refine .go 0 ?_
  refine .ifC h (fun hc10164 h=>?_) (fun hc10164 h=>?_)
  ·refine .go 2 ?_
   replace h:=inr_out h hr10159
   cases h
   exact retF
  ·refine .go 2 ?_
   exact lpK ⟨_,next_out h,covA⟩
 ·refine .go 0 ?_
  replace h:=inr_out h hr10159
  refine .go 1 ?_
  cases h
  exact retF
theorem slices_ContainsFunc_api_Sem_api_Sem_169_sc (a240:List api_Sem) (r:Bool) (h:slices_ContainsFunc_api_Sem_api_Sem_169 a240=some r):SC Tryz.prog gl 71 [V.sl 2 (rws api_Sem.cells a240),V.fn 69 []] (V.bool r):=by
 rw [slices_ContainsFunc_api_Sem_api_Sem_169] at h
 refine SC.go Tryz.func71 Tryz.call71 3 ?_
 refine bindG h ?_
 intro x241 he10168 h
 refine .cP (slices_IndexFunc_api_Sem_api_Sem_169_sc a240 _ he10168) ?_
 refine .go 2 ?_
 cases h
 exact retF
theorem crew_checker_parts_sc (a242:crew_checker) (r:Bool) (h:crew_checker_parts a242=some r):SC Tryz.prog gl 32 [V.agg a242.cells] (V.bool r):=by
 rw [crew_checker_parts] at h
 refine SC.go Tryz.func32 Tryz.call32 2 ?_
 refine Safe.regionD (n:=8) [(6,[3]),(7,[4])] [] E_good mixed rfl ?_
 refine rA 4 (up 0 4) ?_
 skip
 refine DAny.pair (i:=4) (j:=5) rfl rfl (by kernel_rfl) (by kernel_rfl) (by kernel_rfl) (by decide) rfl rfl rfl rfl rfl rfl (.alloc rfl rfl) (.alloc rfl rfl) rfl rfl rfl rfl (by kernel_rfl) (by kernel_rfl) (by decide) ?_
 refine .sto 6 ?_
 refine .sto 7 ?_
 refine DAny.nil (by kernel_rfl) ?_
 refine .go 0 ?_
 refine Safe.regionD (n:=28) [] [] E_good mixed rfl ?_
 refine rA 27 [0] ?_
 refine bindG h ?_
 intro x245 he10174 h
 refine .cP (entry_Config_sc a242.c _ he10174) 1 ?_
 refine rA 24 [2,3] ?_
 refine .cP (dice_Check_sc a242.w.Dice _ rfl) 4 ?_
 refine rA 21 [5,6] ?_
 refine bindG h ?_
 intro x246 he10176 h
 refine .cP (slot_Check_sc a242.w.Ids _ he10176) 7 ?_
 refine rA 18 [8,9] ?_
 refine bindG h ?_
 intro x247 he10178 h
 refine .cP (chain_Check_sc a242.w.Lists _ he10178) 10 ?_
 refine rA 15 [11,12] ?_
 refine bindG h ?_
 intro x248 he10180 h
 refine .cP (lodge_Check_sc a242.w.Ten _ he10180) 13 ?_
 refine rA 12 [14,15] ?_
 refine bindG h ?_
 intro x249 he10182 h
 refine .cP (heap_Check_sc a242.w.Heap _ he10182) 16 ?_
 refine rA 9 [17,18] ?_
 refine bindG h ?_
 intro x250 he10184 h
 refine .cP (poll_Check_sc a242.w.Fds _ he10184) 19 ?_
 refine rA 6 [20,21] ?_
 refine bindG h ?_
 intro x251 he10186 h
 refine .cP (joins_Check_sc a242.w.Joins _ he10186) 22 ?_
 refine rA 3 [23,24] ?_
 refine bindG h ?_
 intro x252 he10188 h
 refine .cP (idle_Check_sc a242.w.Idle _ he10188) 25 ?_
 refine rA 0 [26,27] ?_
 refine DAny.nil (by kernel_rfl) ?_
 refine .go 0 ?_
 refine Safe.loopS (fun(v253:Int)=>⟨Tryz.f32.ntmps,[(3,V.ptr [3] 0 0),(4,V.ptr [4] 0 0),(41,V.agg [I x245,I (dice_Check a242.w.Dice),I x246,I x247,I x248,I x249,I x250,I x251,I x252]),(42,I v253)],[([3],Obj.box [I a242.c.Workers,I a242.c.Cap,I a242.c.Budget,V.sl 1 (rws (fun n=>[I n]) a242.c.Weights),V.sl 1 (rws (fun n=>[I n]) a242.c.Quotas),V.sl 1 (rws (fun l=>[V.sl 3 (rws api_Instr.cells l)]) a242.c.Progs),I a242.c.Tasks,I a242.c.Fds,V.sl 1 (rws (fun n=>[I n]) a242.c.Sems)]),([4],Obj.box [I a242.w.Now,V.sl 1 (rws (fun n=>[V.int .u8 n]) a242.w.Dice.L),I a242.w.Dice.At,V.sl 1 (rws (fun n=>[I n]) a242.w.Ids.Gen),V.sl 1 (rws (fun b=>[V.bool b]) a242.w.Ids.Live),V.sl 11 (rws api_Task.cells a242.w.T),V.sl 1 (rws (fun n=>[I n]) a242.w.Mem),V.sl 1 (rws (fun n=>[I n]) a242.w.Lists.Next),V.sl 1 (rws (fun n=>[I n]) a242.w.Lists.Head),V.sl 1 (rws (fun n=>[I n]) a242.w.Lists.Tail),V.sl 5 (rws api_Tenant.cells a242.w.Ten),V.sl 2 (rws api_Timer.cells a242.w.Heap),V.sl 3 (rws api_Fd.cells a242.w.Fds),V.sl 2 (rws api_Sem.cells a242.w.Sems),V.sl 2 (rws api_Join.cells a242.w.Joins),V.sl 1 (rws (fun n=>[I n]) a242.w.Idle.Is),V.sl 1 (rws (fun n=>[I n]) a242.w.Idle.Stack),V.sl 14 (rws api_Worker.cells a242.w.W),V.bool a242.w.Down,V.sl 3 (rws api_Event.cells a242.w.Seen)])],[],[]⟩) h covA ?_
 intro v253 ohr10205 h hr10205
 rw [crew_checker_parts_s2] at h
 refine .go 1 ?_
 refine .ifC h (fun hc10206 h=>?_) (fun hc10206 h=>?_)
 ·refine .go 0 ?_
  refine okG h (fun hb10207 h=>?_)
  refine Q0 E_good rfl (v:=I (if v253=0 then x245 else (if v253=1 then dice_Check a242.w.Dice else (if v253=2 then x246 else (if v253=3 then x247 else (if v253=4 then x248 else (if v253=5 then x249 else (if v253=6 then x250 else (if v253=7 then x251 else x252))))))))) (.idxVM (us:=[I (if v253=0 then x245 else (if v253=1 then dice_Check a242.w.Dice else (if v253=2 then x246 else (if v253=3 then x247 else (if v253=4 then x248 else (if v253=5 then x249 else (if v253=6 then x250 else (if v253=7 then x251 else x252))))))))]) rfl rfl rfl rfl rfl 9 rfl hb10207 (by have hq:v253=0∨v253=1∨v253=2∨v253=3∨v253=4∨v253=5∨v253=6∨v253=7∨v253=8:=(by omega);rcases hq with hq|hq|hq|hq|hq|hq|hq|hq|hq<;>simp only [hq]<;>rfl) rfl) ?_
  refine .go 3 ?_
  refine .ifC h (fun hc10208 h=>?_) (fun hc10208 h=>?_)
  ·refine .go 1 ?_
   replace h:=inr_out h hr10205
   cases h
   exact retF
  ·refine .go 2 ?_
   exact lpK ⟨_,next_out h,covA⟩
 ·refine .go 0 ?_
  replace h:=inr_out h hr10205
  refine .go 4 ?_
  refine .len ?_
  refine .go 5 ?_
  refine .len ?_
  refine .go 6 ?_
  refine .len ?_
  refine .go 6 ?_
  refine .len ?_
  refine .go 2 ?_
  refine .len ?_
  refine .go 3 ?_
  refine .len ?_
  refine .go 9 ?_
  refine .len ?_
  refine .go 2 ?_
  refine .len ?_
  refine .go 3 ?_
  refine .len ?_
  refine .go 5 ?_
  refine .len ?_
  refine .go 2 ?_
  refine .len ?_
  refine .go 4 ?_
  refine .len ?_
  refine .go 5 ?_
  refine .len ?_
  refine .go 8 ?_
  refine Safe.loopS (fun(v243:Int)=>⟨Tryz.f32.ntmps,[(4,V.ptr [4] 0 0),(7,V.fn 69 []),(120,V.agg [I (a242.w.Ids.Gen.length:Int),I a242.c.Tasks,I (a242.w.T.length:Int),I a242.c.Tasks,I (a242.w.Lists.Next.length:Int),I a242.c.Tasks,I (a242.w.Lists.Head.length:Int),I (a242.c.Weights.length:Int),I (a242.w.Mem.length:Int),I (IntKind.i64.wrap (a242.c.Workers*(IntKind.i64.wrap (a242.c.Cap+2)))),I (a242.w.Ten.length:Int),I (a242.c.Weights.length:Int),I (a242.w.Fds.length:Int),I a242.c.Fds,I (a242.w.Sems.length:Int),I (a242.c.Sems.length:Int),I (a242.w.Idle.Is.length:Int),I a242.c.Workers,I (a242.w.W.length:Int),I a242.c.Workers]),(121,I v243)],[([4],Obj.box [I a242.w.Now,V.sl 1 (rws (fun n=>[V.int .u8 n]) a242.w.Dice.L),I a242.w.Dice.At,V.sl 1 (rws (fun n=>[I n]) a242.w.Ids.Gen),V.sl 1 (rws (fun b=>[V.bool b]) a242.w.Ids.Live),V.sl 11 (rws api_Task.cells a242.w.T),V.sl 1 (rws (fun n=>[I n]) a242.w.Mem),V.sl 1 (rws (fun n=>[I n]) a242.w.Lists.Next),V.sl 1 (rws (fun n=>[I n]) a242.w.Lists.Head),V.sl 1 (rws (fun n=>[I n]) a242.w.Lists.Tail),V.sl 5 (rws api_Tenant.cells a242.w.Ten),V.sl 2 (rws api_Timer.cells a242.w.Heap),V.sl 3 (rws api_Fd.cells a242.w.Fds),V.sl 2 (rws api_Sem.cells a242.w.Sems),V.sl 2 (rws api_Join.cells a242.w.Joins),V.sl 1 (rws (fun n=>[I n]) a242.w.Idle.Is),V.sl 1 (rws (fun n=>[I n]) a242.w.Idle.Stack),V.sl 14 (rws api_Worker.cells a242.w.W),V.bool a242.w.Down,V.sl 3 (rws api_Event.cells a242.w.Seen)])],[],[]⟩) h covA ?_
  intro v243 ohr10225 h hr10225
  rw [crew_checker_parts_s4] at h
  refine .go 1 ?_
  refine .ifC h (fun hc10226 h=>?_) (fun hc10226 h=>?_)
  ·refine .go 0 ?_
   refine okG h (fun hb10227 h=>?_)
   refine Q0 E_good rfl (v:=V.agg [I (if v243=0 then (a242.w.Ids.Gen.length:Int) else (if v243=1 then (a242.w.T.length:Int) else (if v243=2 then (a242.w.Lists.Next.length:Int) else (if v243=3 then (a242.w.Lists.Head.length:Int) else (if v243=4 then (a242.w.Mem.length:Int) else (if v243=5 then (a242.w.Ten.length:Int) else (if v243=6 then (a242.w.Fds.length:Int) else (if v243=7 then (a242.w.Sems.length:Int) else (if v243=8 then (a242.w.Idle.Is.length:Int) else (a242.w.W.length:Int)))))))))),I (if v243=0 then a242.c.Tasks else (if v243=1 then a242.c.Tasks else (if v243=2 then a242.c.Tasks else (if v243=3 then (a242.c.Weights.length:Int) else (if v243=4 then IntKind.i64.wrap (a242.c.Workers*(IntKind.i64.wrap (a242.c.Cap+2))) else (if v243=5 then (a242.c.Weights.length:Int) else (if v243=6 then a242.c.Fds else (if v243=7 then (a242.c.Sems.length:Int) else (if v243=8 then a242.c.Workers else a242.c.Workers)))))))))]) (.idxVM (us:=[I (if v243=0 then (a242.w.Ids.Gen.length:Int) else (if v243=1 then (a242.w.T.length:Int) else (if v243=2 then (a242.w.Lists.Next.length:Int) else (if v243=3 then (a242.w.Lists.Head.length:Int) else (if v243=4 then (a242.w.Mem.length:Int) else (if v243=5 then (a242.w.Ten.length:Int) else (if v243=6 then (a242.w.Fds.length:Int) else (if v243=7 then (a242.w.Sems.length:Int) else (if v243=8 then (a242.w.Idle.Is.length:Int) else (a242.w.W.length:Int)))))))))),I (if v243=0 then a242.c.Tasks else (if v243=1 then a242.c.Tasks else (if v243=2 then a242.c.Tasks else (if v243=3 then (a242.c.Weights.length:Int) else (if v243=4 then IntKind.i64.wrap (a242.c.Workers*(IntKind.i64.wrap (a242.c.Cap+2))) else (if v243=5 then (a242.c.Weights.length:Int) else (if v243=6 then a242.c.Fds else (if v243=7 then (a242.c.Sems.length:Int) else (if v243=8 then a242.c.Workers else a242.c.Workers)))))))))]) rfl rfl rfl rfl rfl 10 rfl hb10227 (by have hq:v243=0∨v243=1∨v243=2∨v243=3∨v243=4∨v243=5∨v243=6∨v243=7∨v243=8∨v243=9:=(by omega);rcases hq with hq|hq|hq|hq|hq|hq|hq|hq|hq|hq<;>simp only [hq]<;>rfl) rfl) ?_
   refine .go 2 ?_
   refine Q0 E_good rfl (v:=V.ptr [10] 0 0) (.idxArrM rfl rfl rfl rfl rfl rfl 2 rfl (by decide)) ?_
   refine .go 1 ?_
   refine Q0 E_good rfl (v:=V.ptr [10] 0 1) (.idxArrM rfl rfl rfl rfl rfl rfl 2 rfl (by decide)) ?_
   refine .go 2 ?_
   refine .ifC h (fun hc10228 h=>?_) (fun hc10228 h=>?_)
   ·refine .go 1 ?_
    replace h:=inr_out h hr10225
    cases h
    exact retF
   ·refine .go 2 ?_
    exact lpK ⟨_,next_out h,covA⟩
  ·refine .go 0 ?_
   replace h:=inr_out h hr10225
   refine .go 4 ?_
   refine .bjA 4 137 133 ?_
   refine .go 1 ?_
   refine SafeOps.bjoinL 5 143 138 rfl (b:=(((decide (a242.w.Now≥0))&&(decide (a242.w.Now≤1125899906842624)))&&(decide ((a242.w.Seen.length:Int)≤65536)))) (b1:=decide ((a242.w.Seen.length:Int)≤65536)) (b0:=false) (fun hc10230 K=>?_) (fun hc10230 K=>?_) bj_and ?_
   ·refine .go 2 ?_
    refine .len ?_
    refine rO 2 ?_
    exact SafeOps.drop' 5 rfl rfl rfl K
   ·refine rO 5 ?_
    exact SafeOps.drop' 5 rfl rfl rfl K
   refine .go 1 ?_
   refine SafeOps.ifD 144 h rfl (fun hc10231 h=>?_) (fun hc10231 h=>?_)
   ·refine .go 3 ?_
    refine bindG h ?_
    intro x244 he10235 h
    refine .cP (slices_ContainsFunc_api_Sem_api_Sem_169_sc a242.w.Sems _ he10235) ?_
    refine .go 3 ?_
    cases h
    exact retF
   ·refine .go 7 ?_
    cases h
    exact retF
theorem okT75:(eqOk Tryz.prog E 20 75&&!Tryz.prog.eqGuardType Tryz.prog.depth 75)=true:=by kernel_rfl
theorem life_below_sc (a254:Int) (a255:Int) (r:Bool) (h:life_below a254 a255=r):SC Tryz.prog gl 122 [I a254,I a255] (V.bool r):=by
 rw [life_below] at h
 refine SC.go Tryz.func122 Tryz.call122 4 ?_
 refine .bjA 4 11 7 ?_
 refine .go 1 ?_
 cases h
 exact retF
theorem life_state_sc (a256:Int) (r:Bool) (h:life_state a256=r):SC Tryz.prog gl 123 [I a256] (V.bool r):=by
 rw [life_state] at h
 refine SC.go Tryz.func123 Tryz.call123 4 ?_
 refine .bjA 3 8 5 ?_
 refine .go 1 ?_
 cases h
 exact retF
theorem slices_Min_int64_int64_sc (a257:List Int) (r:Int) (h:slices_Min_int64_int64 a257=some r):SC Tryz.prog gl 124 [V.sl 1 (rws (fun n=>[I n]) a257)] (I r):=by
 rw [slices_Min_int64_int64] at h
 refine SC.go Tryz.func124 Tryz.call124 2 ?_
 refine .len ?_
 refine .go 1 ?_
 refine .ifC h (fun hc10275 h=>?_) (fun hc10275 h=>?_)
 ·refine .go 0 ?_
  cases h
 ·refine .go 1 ?_
  refine okG h (fun hb10276 h=>?_)
  refine .ix hb10276 ?_
  refine .ld hb10276 ?_
  refine .go 2 ?_
  refine Safe.loopS (fun((v258,v259):Int×Int)=>⟨Tryz.f124.ntmps,[(0,V.sl 1 (rws (fun n=>[I n]) a257)),(3,I v258),(4,I v259)],[],[],[]⟩) h covA ?_
  rintro ⟨v258,v259⟩ ohr10285 h hr10285
  rw [slices_Min_int64_int64_s1] at h
  refine .go 2 ?_
  refine .len ?_
  refine .go 1 ?_
  refine .ifC h (fun hc10286 h=>?_) (fun hc10286 h=>?_)
  ·refine .go 3 ?_
   refine okG h (fun hb10287 h=>?_)
   refine .ix hb10287 ?_
   refine .ld hb10287 ?_
   refine .go 5 ?_
   exact lpK ⟨_,next_out h,covA⟩
  ·refine .go 0 ?_
   replace h:=inr_out h hr10285
   refine .go 2 ?_
   cases h
   exact retF
theorem life_Check_sc (a260:api_Task) (r:Int) (h:life_Check a260=some r):SC Tryz.prog gl 72 [V.agg a260.cells] (I r):=by
 rw [life_Check] at h
 refine SC.go Tryz.func72 Tryz.call72 6 ?_
 refine SafeOps.bjoinL 4 11 7 rfl (b:=((decide (a260.Id≥0))&&(life_below a260.Tenant 16))) (b1:=life_below a260.Tenant 16) (b0:=false) (fun hc10802 K=>?_) (fun hc10802 K=>?_) bj_and ?_
 ·refine .go 2 ?_
  refine .cP (life_below_sc a260.Tenant 16 _ rfl) ?_
  refine rO 1 ?_
  exact SafeOps.drop' 4 rfl rfl rfl K
 ·refine rO 4 ?_
  exact SafeOps.drop' 4 rfl rfl rfl K
 refine .go 1 ?_
 refine SafeOps.bjoinL 4 16 12 rfl (b:=(((decide (a260.Id≥0))&&(life_below a260.Tenant 16))&&(life_below a260.Prog 16))) (b1:=life_below a260.Prog 16) (b0:=false) (fun hc10803 K=>?_) (fun hc10803 K=>?_) bj_and ?_
 ·refine .go 2 ?_
  refine .cP (life_below_sc a260.Prog 16 _ rfl) ?_
  refine rO 1 ?_
  exact SafeOps.drop' 4 rfl rfl rfl K
 ·refine rO 4 ?_
  exact SafeOps.drop' 4 rfl rfl rfl K
 refine .go 1 ?_
 refine SafeOps.bjoinL 4 21 17 rfl (b:=((((decide (a260.Id≥0))&&(life_below a260.Tenant 16))&&(life_below a260.Prog 16))&&(life_below a260.Pc 33))) (b1:=life_below a260.Pc 33) (b0:=false) (fun hc10804 K=>?_) (fun hc10804 K=>?_) bj_and ?_
 ·refine .go 2 ?_
  refine .cP (life_below_sc a260.Pc 33 _ rfl) ?_
  refine rO 1 ?_
  exact SafeOps.drop' 4 rfl rfl rfl K
 ·refine rO 4 ?_
  exact SafeOps.drop' 4 rfl rfl rfl K
 refine .go 1 ?_
 refine SafeOps.bjoinL 4 26 22 rfl (b:=(((((decide (a260.Id≥0))&&(life_below a260.Tenant 16))&&(life_below a260.Prog 16))&&(life_below a260.Pc 33))&&(life_below a260.Unit 100))) (b1:=life_below a260.Unit 100) (b0:=false) (fun hc10805 K=>?_) (fun hc10805 K=>?_) bj_and ?_
 ·refine .go 2 ?_
  refine .cP (life_below_sc a260.Unit 100 _ rfl) ?_
  refine rO 1 ?_
  exact SafeOps.drop' 4 rfl rfl rfl K
 ·refine rO 4 ?_
  exact SafeOps.drop' 4 rfl rfl rfl K
 refine .go 1 ?_
 refine SafeOps.bjoinL 4 31 27 rfl (b:=((((((decide (a260.Id≥0))&&(life_below a260.Tenant 16))&&(life_below a260.Prog 16))&&(life_below a260.Pc 33))&&(life_below a260.Unit 100))&&(life_state a260.State))) (b1:=life_state a260.State) (b0:=false) (fun hc10806 K=>?_) (fun hc10806 K=>?_) bj_and ?_
 ·refine .go 2 ?_
  refine .cP (life_state_sc a260.State _ rfl) ?_
  refine rO 1 ?_
  exact SafeOps.drop' 4 rfl rfl rfl K
 ·refine rO 4 ?_
  exact SafeOps.drop' 4 rfl rfl rfl K
 refine .go 1 ?_
 refine .bjA 4 36 32 ?_
 refine .go 1 ?_
 refine .bjA 4 41 37 ?_
 refine .go 4 ?_
 refine SafeOps.ifD 44 h rfl (fun hc10809 h=>?_) (fun hc10809 h=>?_)
 ·refine .go 7 ?_
  cases h
  exact retF
 ·refine .go 1 ?_
  refine Q0 E_good rfl (v:=V.bref [1] 5 1 4) (.slArrM rfl rfl rfl rfl rfl rfl rfl) ?_
  refine bindG h ?_
  intro x261 he10813 h
  refine .cS (slices_Min_int64_int64_sc [a260.Keeps.a0,a260.Keeps.a1,a260.Keeps.a2,a260.Keeps.a3] _ he10813) ?_
  refine .go 2 ?_
  refine .ifC h (fun hc10814 h=>?_) (fun hc10814 h=>?_)
  ·refine .go 1 ?_
   cases h
   exact retF
  ·refine .go 1 ?_
   cases h
   exact retF
theorem step_Next_sc (a262:api_Task) (a266:List api_Instr) (r:api_Instr×Int) (h:step_Next a262 a266=some r):SC Tryz.prog gl 36 [V.agg a262.cells,V.sl 3 (rws api_Instr.cells a266)] (V.tup [V.agg (api_Instr.cells r.1),I r.2]):=by
 rw [step_Next] at h
 refine SC.go Tryz.func36 Tryz.call36 4 ?_
 refine bindG h ?_
 intro x268 he10848 h
 refine .cP (life_Check_sc a262 _ he10848) ?_
 refine .go 2 ?_
 refine SafeOps.bsplit 4 14 (fun b267=>step_Next_j1 a262 a266 b267=some r) (fun HJ10853=>?_) (fun b267 h=>?_)
 ·refine SafeOps.ifD 10 h rfl (fun hc10849 h=>?_) (fun hc10849 h=>?_)
  ·refine rO 4 ?_
   exact SafeOps.drop' 4 rfl rfl rfl (SafeOps.unk 10 rfl hc10849 (HJ10853 _ h))
  ·refine .go 1 ?_
   refine bindG h ?_
   intro x269 he10867 h
   refine .cP (code_Check_sc a266 _ he10867) ?_
   refine rO 2 ?_
   exact SafeOps.drop' 4 rfl rfl rfl (SafeOps.unk 10 rfl hc10849 (HJ10853 _ h))
 ·replace h:step_Next_j1 a262 a266 b267=some r:=h
  rw [step_Next_j1] at h
  refine .go 1 ?_
  refine SafeOps.bjoinL 6 21 15 rfl (b:=(b267||(decide (a262.Pc > (a266.length:Int))))) (b1:=true) (b0:=decide (a262.Pc > (a266.length:Int))) (fun hc10854 K=>?_) (fun hc10854 K=>?_) bj_or ?_
  ·refine rO 6 ?_
   exact SafeOps.drop' 6 rfl rfl rfl K
  ·refine .go 3 ?_
   refine .len ?_
   refine rO 2 ?_
   exact SafeOps.drop' 6 rfl rfl rfl K
  refine .go 0 ?_
  refine .ifC h (fun hc10855 h=>?_) (fun hc10855 h=>?_)
  ·refine .go 3 ?_
   cases h
   exact retF
  ·refine .go 6 ?_
   refine .len ?_
   refine .go 1 ?_
   refine .joinS (fun((v263,v264,v265):Int×Int×Int)=>step_Next_j2 a262 v263 v264 v265=some r) (fun((v263,v264,v265):Int×Int×Int)=>⟨Tryz.f36.ntmps,[(2,V.ptr [2] 0 0),(4,V.ptr [4] 0 0),(6,V.ptr [6] 0 0)],[([2],Obj.box a262.cells),([4],Obj.box [I 0,I 0,I 0]),([6],Obj.box [I v263,I v264,I v265])],[],[]⟩) ?_ (fun HJ10860=>?_)
   ·rintro ⟨v263,v264,v265⟩ h
    dsimp only at h
    rw [step_Next_j2] at h
    refine .go 4 ?_
    refine SafeOps.bjoinL 11 48 37 rfl (b:=((decide (a262.Unit > 0))&&((v263 != 1)||(decide (a262.Unit≥v264))))) (b1:=((v263 != 1)||(decide (a262.Unit≥v264)))) (b0:=false) (fun hc10861 K=>?_) (fun hc10861 K=>?_) bj_and ?_
    ·refine .go 4 ?_
     refine .bjO 6 47 41 ?_
     refine rO 1 ?_
     exact SafeOps.drop' 6 rfl rfl rfl K
    ·refine rO 11 ?_
     exact SafeOps.drop' 11 rfl rfl rfl K
    refine .go 0 ?_
    refine .ifC h (fun hc10863 h=>?_) (fun hc10863 h=>?_)
    ·refine .go 3 ?_
     cases h
     exact retF
    ·refine .go 3 ?_
     cases h
     exact retF
   ·refine .ifC h (fun hc10864 h=>?_) (fun hc10864 h=>?_)
    ·refine .go 3 ?_
     refine okG h (fun hb10865 h=>?_)
     refine .ix hb10865 ?_
     refine .ld hb10865 ?_
     refine .go 1 ?_
     exact .got (HJ10860 ((gt a266 a262.Pc).Op,(gt a266 a262.Pc).A,(gt a266 a262.Pc).B) h) covA
    ·refine .go 0 ?_
     exact .got (HJ10860 (9,0,0) h) covA
theorem crew_checker_task_sc (a270:crew_checker) (a271:Int) (r:Bool) (h:crew_checker_task a270 a271=some r):SC Tryz.prog gl 33 [V.agg a270.cells,I a271] (V.bool r):=by
 rw [crew_checker_task] at h
 refine SC.go Tryz.func33 Tryz.call33 6 ?_
 refine okG h (fun hb10875 h=>?_)
 refine .ix hb10875 ?_
 refine .ld hb10875 ?_
 refine .go 7 ?_
 refine okG h (fun hb10876 h=>?_)
 refine .ix hb10876 ?_
 refine .ld hb10876 ?_
 refine .go 1 ?_
 refine .ifC h (fun hc10877 h=>?_) (fun hc10877 h=>?_)
 ·refine .go 2 ?_
  refine Q0 E_good rfl (v:=V.bool (api_Task.beq (gt a270.w.T a271) api_Task.zero)) (.eqA rfl rfl rfl rfl okT75 rfl) ?_
  refine .go 1 ?_
  cases h
  exact retF
 ·refine .go 0 ?_
  refine Safe.regionD (n:=41) [] [] E_good mixed rfl ?_
  refine rA 40 [0] ?_
  refine bindG h ?_
  intro x272 he10879 h
  refine .cP (life_Check_sc (gt a270.w.T a271) _ he10879) 1 ?_
  refine rA 37 [2,3] ?_
  refine DAny.ifD 28 h rfl (fun hc10880 h=>?_) (fun hc10880 h=>?_)
  ·refine rA 0 (up 4 37) ?_
   refine DAny.nil (by kernel_rfl) ?_
   refine .go 2 ?_
   cases h
   exact retF
  ·refine rA 32 (up 4 5) ?_
   refine DAny.ifD 33 h rfl (fun hc10881 h=>?_) (fun hc10881 h=>?_)
   ·refine rA 0 (up 9 32) ?_
    refine DAny.nil (by kernel_rfl) ?_
    refine .go 2 ?_
    cases h
    exact retF
   ·refine rA 25 (up 9 7) ?_
    refine okG h (fun hb10882 h=>?_)
    refine DT 16 [] rfl rfl (v:=V.spt 1 (rws (fun n=>[I n]) a270.w.Ids.Gen) (Int.toNat a271) 0) (fun _ hz=>(.idxSlM (f:=(fun n=>[I n])) rfl rfl rfl rfl rfl hb10882)) ?_
    refine DT 17 [] rfl rfl (v:=I (gt a270.w.Ids.Gen a271)) (fun _ hz=>(.load rfl rfl (.sptM (f:=(fun n=>[I n])) hb10882 rfl) rfl)) ?_
    refine rA 17 (up 18 6) ?_
    refine DAny.ifD 48 h rfl (fun hc10883 h=>?_) (fun hc10883 h=>?_)
    ·refine rA 0 (up 24 17) ?_
     refine DAny.nil (by kernel_rfl) ?_
     refine .go 2 ?_
     cases h
     exact retF
    ·refine rA 12 (up 24 5) ?_
     refine DT 29 [] rfl rfl (v:=I (a270.c.Weights.length:Int)) (fun _ hz=>(.fnE rfl lenE)) ?_
     refine rA 8 (up 30 3) ?_
     refine DAny.ifD 57 h rfl (fun hc10884 h=>?_) (fun hc10884 h=>?_)
     ·refine rA 0 (up 33 8) ?_
      refine DAny.nil (by kernel_rfl) ?_
      refine .go 2 ?_
      cases h
      exact retF
     ·refine rA 3 (up 33 5) ?_
      refine DT 38 [] rfl rfl (v:=I (a270.c.Progs.length:Int)) (fun _ hz=>(.fnE rfl lenE)) ?_
      refine rA 0 [39,40] ?_
      refine DAny.nil (by kernel_rfl) ?_
      refine .go 0 ?_
      refine .ifC h (fun hc10885 h=>?_) (fun hc10885 h=>?_)
      ·refine .go 1 ?_
       cases h
       exact retF
      ·refine .go 0 ?_
       refine Safe.regionD (n:=15) [(13,[6])] [] E_good mixed rfl ?_
       refine rA 9 (up 0 6) ?_
       refine okG h (fun hb10886 h=>?_)
       refine DT 6 [[6]] rfl rfl (v:=V.spt 1 (rws (fun l=>[V.sl 3 (rws api_Instr.cells l)]) a270.c.Progs) (Int.toNat ((gt a270.w.T a271).Prog)) 0) (fun _ hz=>(.idxSlM (f:=(fun l=>[V.sl 3 (rws api_Instr.cells l)])) rfl rfl rfl rfl rfl hb10886)) ?_
       refine DT 7 [[6]] rfl rfl (v:=V.sl 3 (rws api_Instr.cells (gt a270.c.Progs ((gt a270.w.T a271).Prog)))) (fun _ hz=>(.load rfl rfl (.sptM (f:=(fun l=>[V.sl 3 (rws api_Instr.cells l)])) hb10886 rfl) rfl)) ?_
       refine bindG h ?_
       rintro ⟨x273,x274⟩ he10889 h
       refine .cP (step_Next_sc (gt a270.w.T a271) (gt a270.c.Progs ((gt a270.w.T a271).Prog)) _ he10889) 8 ?_
       refine rA 3 (up 9 3) ?_
       refine DAny.only (i:=12) rfl (by kernel_rfl) (.quiet rfl rfl rfl (.alloc rfl rfl) rfl ?_)
       refine .sto 13 ?_
       refine rA 0 [14] ?_
       refine DAny.nil (by kernel_rfl) ?_
       refine .go 3 ?_
       cases h
       exact retF
theorem slices_Clone_int_int_sc (xs:List Int) (r:List Int) (h:slices_Clone_int_int xs=some r):SC Tryz.prog gl 145 [V.sl 1 (rws (fun n=>[I n]) xs)] (V.own 1 (rws (fun n=>[I n]) r)):=by
 rw [slices_Clone_int_int] at h
 refine okG h (fun hf h=>?_)
 cases h
 refine SC.go Tryz.func145 Tryz.call145 0 ?_
 refine Q0 E_good rfl (v:=V.nils) (.fn rfl) ?_
 refine .go 0 ?_
 refine Q0 E_good rfl (v:=V.sl 1 (rws (fun n=>[I n]) xs)) (.fn rfl) ?_
 refine SafeOps.nilcmp E_good rfl rfl rfl rfl rfl rfl rfl (fun b hb=>?_)
 refine .go 0 ?_
 cases b with
 | true =>
  have hx:xs=[]:=List.map_eq_nil_iff.1 (hb rfl)
  subst hx
  refine .go 1 ?_
  refine Q0 E_good rfl (v:=V.nils) (.fn rfl) ?_
  refine .go 0 ?_
  refine retG ?_
  exact ⟨_,(.nils _),by simp⟩
 | false =>
  refine .go 1 ?_
  refine SafeOps.quiet1 E_good rfl rfl rfl (.litM (f:=(fun n=>[I n])) (xs:=[]) rfl rfl (by decide) rfl rfl rfl rfl rfl) rfl ?_
  refine Q0 E_good rfl (v:=V.sl 1 (rws (fun n=>[I n]) xs)) (.fn rfl) ?_
  refine SafeOps.appendM (fun n=>[I n]) (xs:=[]) (ys:=xs) E_good rfl rfl rfl rfl rfl rfl rfl rfl rfl (.own rfl) (.sl _) (fun _=>rfl) hf ?_
  refine Q0 E_good rfl (v:=V.ref [7] 0 (rws (fun n=>[I n]) ([]++xs)).length) (.fn rfl) ?_
  refine .go 0 ?_
  refine retG ?_
  exact ⟨_,.own rfl rfl,by simp⟩
theorem chain_own_sc (a275:api_Chains) (a284:List Int) (a280:List Int) (r:api_Chains×Int) (h:chain_own a275 a284 a280=some r):SC Tryz.prog gl 125 [V.agg a275.cells,V.sl 1 (rws (fun n=>[I n]) a284),V.sl 1 (rws (fun n=>[I n]) a280)] (V.tup [V.agg [V.own 1 (rws (fun n=>[I n]) r.1.Next),V.own 1 (rws (fun n=>[I n]) r.1.Head),V.own 1 (rws (fun n=>[I n]) r.1.Tail)],I r.2]):=by
 rw [chain_own] at h
 refine SC.go Tryz.func125 Tryz.call125 5 ?_
 refine bindG h ?_
 intro x286 he11037 h
 refine .cP (chain_Check_sc a275 _ he11037) ?_
 refine .go 2 ?_
 refine .joinR 8 (fun(v282:Bool)=>chain_own_j5 a275 a280 v282=some r) (fun(v282:Bool)=>⟨Tryz.f125.ntmps,[(2,V.sl 1 (rws (fun n=>[I n]) a280)),(3,V.ptr [3] 0 0),(6,V.ptr [6] 0 0),(8,V.fn 143 []),(20,V.bool v282)],[([3],Obj.box a275.cells),([6],Obj.box [V.nils,V.nils,V.nils])],[],[]⟩) ?_ (fun HJ11304=>?_)
 ·intro v282 h
  rw [chain_own_j5] at h
  refine .go 1 ?_
  refine SafeOps.ifD 21 h rfl (fun hc11305 h=>?_) (fun hc11305 h=>?_)
  ·refine .go 12 ?_
   cases h
   refine retG ?_
   exact ⟨_,(.tup (.cons (.agg (.cons (.nils _) (.cons (.nils _) (.cons (.nils _) .nil)))) (.cons (.free rfl) .nil))),by simp⟩
  ·refine .go 4 ?_
   refine .len ?_
   refine .inl Tryz.func143 Tryz.call143 5 ?_
   refine .inl Tryz.func74 Tryz.call74 3 ?_
   refine .joinR 1 (fun(v276:Int)=>chain_own_j9 a275 v276=some r) (fun(v276:Int)=>⟨Tryz.f74.ntmps,[(7,I v276)],[([3],Obj.box a275.cells),([6],Obj.box [V.nils,V.nils,V.nils])],[(Tryz.f125.ntmps,[(3,V.ptr [3] 0 0),(6,V.ptr [6] 0 0),(21,V.bool false)])],[28]⟩) ?_ (fun HJ11403=>?_)
   ·intro v276 h
    rw [chain_own_j9] at h
    refine .go 4 ?_
    refine .ifC h (fun hc11404 h=>?_) (fun hc11404 h=>?_)
    ·refine .go 3 ?_
     cases h
     refine retG ?_
     exact ⟨_,(.tup (.cons (.agg (.cons (.nils _) (.cons (.nils _) (.cons (.nils _) .nil)))) (.cons (.free rfl) .nil))),by simp⟩
    ·refine .go 0 ?_
     refine Safe.regionD (n:=12) [(10,[6])] [] E_good mixed rfl ?_
     refine rA 6 [0,1,3,4,6,7] ?_
     refine bindG h ?_
     intro x277 he11406 h
     refine DAny.only (i:=2) rfl (by kernel_rfl) (.quiet rfl rfl rfl (v:=V.ref [33,0] 0 (rws (fun n=>[I n]) x277).length) (.callP rfl rfl (slices_Clone_int_int_sc a275.Next _ he11406) rfl) rfl ?_)
     refine bindG h ?_
     intro x278 he11408 h
     refine DAny.only (i:=5) rfl (by kernel_rfl) (.quiet rfl rfl rfl (v:=V.ref [36,0] 0 (rws (fun n=>[I n]) x278).length) (.callP rfl rfl (slices_Clone_int_int_sc a275.Head _ he11408) rfl) rfl ?_)
     refine bindG h ?_
     intro x279 he11410 h
     refine DAny.only (i:=8) rfl (by kernel_rfl) (.quiet rfl rfl rfl (v:=V.ref [39,0] 0 (rws (fun n=>[I n]) x279).length) (.callP rfl rfl (slices_Clone_int_int_sc a275.Tail _ he11410) rfl) rfl ?_)
     refine rA 2 [9] ?_
     refine .sto 10 ?_
     refine rA 0 [11] ?_
     refine DAny.nil (by kernel_rfl) ?_
     refine .go 0 ?_
     cases h
     refine retG ?_
     exact ⟨_,(.tup (.cons (.agg (.cons (.own rfl rfl) (.cons (.own rfl rfl) (.cons (.own rfl rfl) .nil)))) (.cons (.free rfl) .nil))),by simp⟩
   ·refine .inl Tryz.func126 Tryz.call126 2 ?_
    refine .len ?_
    refine .go 1 ?_
    refine Safe.loopS (fun(v281:Int)=>⟨Tryz.f126.ntmps,[(0,V.sl 1 (rws (fun n=>[I n]) a280)),(1,V.fn 144 [V.ptr [27,1] 0 0]),(7,I (a280.length:Int)),(8,I v281)],[([3],Obj.box a275.cells),([6],Obj.box [V.nils,V.nils,V.nils]),([27,1],Obj.box [I (a275.Next.length:Int)])],[(Tryz.f74.ntmps,[]),(Tryz.f125.ntmps,[(3,V.ptr [3] 0 0),(6,V.ptr [6] 0 0),(21,V.bool false)])],[28,7]⟩) h covA ?_
    intro v281 ohr11423 h hr11423
    rw [chain_own_s10] at h
    refine .go 1 ?_
    refine .ifC h (fun hc11424 h=>?_) (fun hc11424 h=>?_)
    ·refine .go 5 ?_
     refine okG h (fun hb11425 h=>?_)
     refine .ix hb11425 ?_
     refine .ld hb11425 ?_
     refine .inl Tryz.func144 Tryz.call144 4 ?_
     refine .bjO 4 10 6 ?_
     refine .go 2 ?_
     refine .ifC h (fun hc11428 h=>?_) (fun hc11428 h=>?_)
     ·refine .goN 3 ?_
      replace h:=inr_out h hr11423
      exact .got (HJ11403 (v281) h) covA
     ·refine .go 2 ?_
      exact lpK ⟨_,next_out h,covA⟩
    ·refine .go 0 ?_
     replace h:=inr_out h hr11423
     refine .goN 2 ?_
     exact .got (HJ11403 (-1) h) covA
 ·refine SafeOps.ifD 12 h rfl (fun hc11038 h=>?_) (fun hc11038 h=>?_)
  ·refine .goN 8 ?_
   exact .got (HJ11304 (true) h) covA
  ·refine .go 4 ?_
   refine .len ?_
   refine .inl Tryz.func143 Tryz.call143 5 ?_
   refine .inl Tryz.func74 Tryz.call74 3 ?_
   refine .joinR 1 (fun(v283:Int)=>chain_own_j14 a275 a280 v283=some r) (fun(v283:Int)=>⟨Tryz.f74.ntmps,[(7,I v283)],[([3],Obj.box a275.cells),([6],Obj.box [V.nils,V.nils,V.nils])],[(Tryz.f125.ntmps,[(2,V.sl 1 (rws (fun n=>[I n]) a280)),(3,V.ptr [3] 0 0),(6,V.ptr [6] 0 0),(8,V.fn 143 []),(12,V.bool false)])],[19]⟩) ?_ (fun HJ11468=>?_)
   ·intro v283 h
    rw [chain_own_j14] at h
    refine .goN 4 ?_
    exact .got (HJ11304 (decide (v283≥0)) h) covA
   ·refine .inl Tryz.func126 Tryz.call126 2 ?_
    refine .len ?_
    refine .go 1 ?_
    refine Safe.loopS (fun(v285:Int)=>⟨Tryz.f126.ntmps,[(0,V.sl 1 (rws (fun n=>[I n]) a284)),(1,V.fn 144 [V.ptr [18,1] 0 0]),(7,I (a284.length:Int)),(8,I v285)],[([3],Obj.box a275.cells),([6],Obj.box [V.nils,V.nils,V.nils]),([18,1],Obj.box [I (a275.Head.length:Int)])],[(Tryz.f74.ntmps,[]),(Tryz.f125.ntmps,[(2,V.sl 1 (rws (fun n=>[I n]) a280)),(3,V.ptr [3] 0 0),(6,V.ptr [6] 0 0),(8,V.fn 143 []),(12,V.bool false)])],[19,7]⟩) h covA ?_
    intro v285 ohr11481 h hr11481
    rw [chain_own_s15] at h
    refine .go 1 ?_
    refine .ifC h (fun hc11482 h=>?_) (fun hc11482 h=>?_)
    ·refine .go 5 ?_
     refine okG h (fun hb11483 h=>?_)
     refine .ix hb11483 ?_
     refine .ld hb11483 ?_
     refine .inl Tryz.func144 Tryz.call144 4 ?_
     refine .bjO 4 10 6 ?_
     refine .go 2 ?_
     refine .ifC h (fun hc11486 h=>?_) (fun hc11486 h=>?_)
     ·refine .goN 3 ?_
      replace h:=inr_out h hr11481
      exact .got (HJ11468 (v285) h) covA
     ·refine .go 2 ?_
      exact lpK ⟨_,next_out h,covA⟩
    ·refine .go 0 ?_
     replace h:=inr_out h hr11481
     refine .goN 2 ?_
     exact .got (HJ11468 (-1) h) covA
theorem chain_Walk_sc (a287:api_Chains) (a292:Int) (r:(List Int)×Int) (h:chain_Walk a287 a292=some r):SC Tryz.prog gl 73 [V.agg a287.cells,I a292] (V.tup [V.own 1 (rws (fun n=>[I n]) r.1),I r.2]):=by
 rw [chain_Walk] at h
 refine SC.go Tryz.func73 Tryz.call73 5 ?_
 refine SafeOps.quiet1 E_good rfl rfl rfl (.litM (f:=(fun n=>[I n])) (xs:=[a292]) rfl rfl (by decide) rfl rfl rfl rfl rfl) rfl ?_
 refine bindG h ?_
 rintro ⟨x293,x294⟩ he11521 h
 refine .cS (chain_own_sc a287 [a292] [] _ he11521) ?_
 refine .go 6 ?_
 refine .ifC h (fun hc11522 h=>?_) (fun hc11522 h=>?_)
 ·refine .go 3 ?_
  cases h
  refine retG ?_
  exact ⟨_,(.tup (.cons (.nils _) (.cons (.free rfl) .nil))),by simp⟩
 ·refine .go 2 ?_
  refine .inl Tryz.func112 Tryz.call112 6 ?_
  refine Safe.rangeFunc (k:=9021) rfl rfl Tryz.func135 rfl (fun _ _=>Tryz.call135 _ _) rfl rfl rfl ?_
  refine .go0 0 ?_
  refine Safe.regionD (n:=7) [] [] E_good mixed rfl ?_
  refine rA 4 (up 0 3) ?_
  refine okG h (fun hb11523 h=>?_)
  refine DT 3 [] rfl rfl (v:=V.spt 1 (rws (fun n=>[I n]) a287.Head) (Int.toNat a292) 0) (fun _ hz=>(.idxSlM (f:=(fun n=>[I n])) rfl rfl rfl rfl rfl hb11523)) ?_
  refine DT 4 [] rfl rfl (v:=I (gt a287.Head a292)) (fun _ hz=>(.load rfl rfl (.sptM (f:=(fun n=>[I n])) hb11523 rfl) rfl)) ?_
  refine rA 0 [5,6] ?_
  refine DAny.nil (by kernel_rfl) ?_
  refine .go 2 ?_
  refine .len ?_
  refine .go 2 ?_
  refine Safe.loopS (fun((v288,v289,v290,v291):Int×Int×Int×(List Int))=>⟨Tryz.f135.ntmps,[(0,V.yld [9021]),(1,V.ptr [20,2] 0 0),(4,I v288),(5,I v289),(14,I (IntKind.i64.wrap ((a287.Next.length:Int)+1))),(15,I v290)],[([4],Obj.box [V.ref [7000,114,4,0] 0 (rws (fun n=>[I n]) v291).length]),([20,2],Obj.box a287.cells),([7000,114,4,0],Obj.rows 1 (rws (fun n=>[I n]) v291) false),([9021],Go.AM.Obj.loop Tryz.f73.ntmps [(4,V.ptr [4] 0 0)] [21,22] (rfA Tryz.f73 0) (rfB Tryz.f73 0) .ready none)],[(1,[(0,V.yld [9021])]),(Tryz.f73.ntmps,[(4,V.ptr [4] 0 0)])],[9021,0]⟩) h (.empty [7000,114,4,0] 1 rfl (.cov ⟨rfl,rfl,(ut (ut (ut (ut (ut (ut upT_nil)))))),(upOb_cons rfl (.box (.cons (.nilref _) .nil)) (uo (uo (upOb_cons rfl (by exact .loop (ut upT_nil)) upOb_nil)))),(upOut_cons rfl (ut upT_nil) (upOut_cons rfl (ut upT_nil) upOut_nil)),rfl⟩)) ?_
  rintro ⟨v288,v289,v290,v291⟩ ohr11544 h hr11544
  rw [chain_Walk_s1] at h
  refine .go 1 ?_
  refine .ifC h (fun hc11545 h=>?_) (fun hc11545 h=>?_)
  ·refine .go 3 ?_
   refine SafeOps.bjoinL 6 25 19 rfl (b:=((decide (v289 < 0))||(decide (v289≥(a287.Next.length:Int))))) (b1:=true) (b0:=decide (v289≥(a287.Next.length:Int))) (fun hc11546 K=>?_) (fun hc11546 K=>?_) bj_or ?_
   ·refine rO 6 ?_
    exact SafeOps.drop' 6 rfl rfl rfl K
   ·refine .go 3 ?_
    refine .len ?_
    refine rO 2 ?_
    exact SafeOps.drop' 6 rfl rfl rfl K
   refine .go 1 ?_
   refine SafeOps.ifD 26 h rfl (fun hc11547 h=>?_) (fun hc11547 h=>?_)
   ·refine .go 7 ?_
    refine rfQ.n (.inr rfl) rfl rfl (fun hbusy=>by cases hbusy) ?_
    replace h:=inr_out h hr11544
    refine .go 3 ?_
    cases h
    refine retG ?_
    exact ⟨_,(.tup (.cons (.own rfl rfl) (.cons (.free rfl) .nil))),by simp⟩
   ·refine .go 3 ?_
    refine SafeOps.yield rfl rfl rfl rfl rfl rfl rfl rfl ?_
    refine .go0 1 ?_
    refine asgQ.go rfl rfl ?_
    refine .go0 2 ?_
    refine SafeOps.quiet1 E_good rfl rfl rfl (.litM (f:=(fun n=>[I n])) (xs:=[v289]) rfl rfl (by decide) rfl rfl rfl rfl rfl) rfl ?_
    refine okG h (fun hb11549 h=>?_)
    refine SafeOps.appendM (fun n=>[I n]) (xs:=v291) (ys:=[v289]) E_good rfl rfl rfl rfl rfl rfl rfl rfl rfl (.own rfl) (.own rfl) (fun _=>rfl) hb11549 ?_
    refine .go 1 ?_
    refine roundQ.go rfl rfl rfl rfl rfl ?_
    refine .go 3 ?_
    refine Safe.regionD (n:=8) [] [] E_good mixed rfl ?_
    refine rA 4 (up 0 4) ?_
    refine okG h (fun hb11550 h=>?_)
    refine DT 4 [] rfl rfl (v:=V.spt 1 (rws (fun n=>[I n]) a287.Next) (Int.toNat v289) 0) (fun _ hz=>(.idxSlM (f:=(fun n=>[I n])) rfl rfl rfl rfl rfl hb11550)) ?_
    refine DT 5 [] rfl rfl (v:=I (gt a287.Next v289)) (fun _ hz=>(.load rfl rfl (.sptM (f:=(fun n=>[I n])) hb11550 rfl) rfl)) ?_
    refine rA 0 [6,7] ?_
    refine DAny.nil (by kernel_rfl) ?_
    refine .go 2 ?_
    exact lpK ⟨_,next_out h,(.ren [9021,0,30,26] [7000,114,4,0] (.cov ⟨rfl,rfl,(ut (ut (ut (ut (ut (ut upT_nil)))))),(uo (uo (uo (upOb_cons rfl (by exact .loop (ut upT_nil)) upOb_nil)))),(upOut_cons rfl (ut upT_nil) (upOut_cons rfl (ut upT_nil) upOut_nil)),rfl⟩))⟩
  ·refine .go 0 ?_
   replace h:=inr_out h hr11544
   refine .go 0 ?_
   refine rfQ.n (.inl rfl) rfl rfl (fun hbusy=>by cases hbusy) ?_
   refine .go 3 ?_
   cases h
   refine retG ?_
   exact ⟨_,(.tup (.cons (.own rfl rfl) (.cons (.free rfl) .nil))),by simp⟩
theorem crew_checker_list_sc (a296:crew_checker) (a297:Int) (r:Bool) (h:crew_checker_list a296 a297=some r):SC Tryz.prog gl 34 [V.agg a296.cells,I a297] (V.bool r):=by
 rw [crew_checker_list] at h
 refine SC.go Tryz.func34 Tryz.call34 7 ?_
 refine bindG h ?_
 rintro ⟨x298,x300⟩ he11709 h
 refine .cP (chain_Walk_sc a296.w.Lists a297 _ he11709) ?_
 refine .go 8 ?_
 refine SafeOps.ifD 17 h rfl (fun hc11710 h=>?_) (fun hc11710 h=>?_)
 ·refine .go 2 ?_
  refine .inl Tryz.func74 Tryz.call74 3 ?_
  refine .joinR 1 (fun(v295:Int)=>crew_checker_list_j4 v295=some r) (fun(v295:Int)=>⟨Tryz.f74.ntmps,[(7,I v295)],[],[(Tryz.f34.ntmps,[(17,V.bool true)])],[20]⟩) ?_ (fun HJ11898=>?_)
  ·intro v295 h
   rw [crew_checker_list_j4] at h
   refine .go 6 ?_
   cases h
   exact retF
  ·refine .inl Tryz.func126 Tryz.call126 2 ?_
   refine .len ?_
   refine .go 1 ?_
   refine Safe.loopS (fun(v299:Int)=>⟨Tryz.f126.ntmps,[(0,V.ref [12,0] 0 (rws (fun n=>[I n]) x298).length),(1,V.fn 75 [V.ptr [2] 0 0,V.ptr [3] 0 0]),(7,I (x298.length:Int)),(8,I v299)],[([2],Obj.box a296.cells),([3],Obj.box [I a297]),([12,0],Obj.rows 1 (rws (fun n=>[I n]) x298) false)],[(Tryz.f74.ntmps,[]),(Tryz.f34.ntmps,[(17,V.bool true)])],[20,7]⟩) h covA ?_
   intro v299 ohr11923 h hr11923
   rw [crew_checker_list_s5] at h
   refine .go 1 ?_
   refine .ifC h (fun hc11924 h=>?_) (fun hc11924 h=>?_)
   ·refine .go 5 ?_
    refine okG h (fun hb11925 h=>?_)
    refine Q0 E_good rfl (v:=V.ptr [12,0] (0+Int.toNat v299) 0) (.idxRefM (f:=(fun n=>[I n])) (xs:=x298) rfl rfl rfl rfl rfl rfl hb11925) ?_
    refine Q0 E_good rfl (v:=I (gt x298 v299)) (.load rfl rfl (.rowsM (f:=(fun n=>[I n])) (xs:=x298) hb11925 rfl rfl) rfl) ?_
    refine .inl Tryz.func75 Tryz.call75 5 ?_
    refine okG h (fun hb11930 h=>?_)
    refine .ix hb11930 ?_
    refine .ld hb11930 ?_
    refine .go 7 ?_
    refine okG h (fun hb11931 h=>?_)
    refine .ix hb11931 ?_
    refine .ld hb11931 ?_
    refine .go 2 ?_
    refine .bjO 4 24 20 ?_
    refine .go 1 ?_
    refine .bjO 5 30 25 ?_
    refine .go 2 ?_
    refine .ifC h (fun hc11934 h=>?_) (fun hc11934 h=>?_)
    ·refine .goN 3 ?_
     replace h:=inr_out h hr11923
     exact .got (HJ11898 (v299) h) covA
    ·refine .go 2 ?_
     exact lpK ⟨_,next_out h,covA⟩
   ·refine .go 0 ?_
    replace h:=inr_out h hr11923
    refine .goN 2 ?_
    exact .got (HJ11898 (-1) h) covA
 ·refine .go 6 ?_
  cases h
  exact retF
theorem crew_within_sc (a301:Int) (a302:Int) (a303:Int) (r:Bool) (h:crew_within a301 a302 a303=r):SC Tryz.prog gl 77 [I a301,I a302,I a303] (V.bool r):=by
 rw [crew_within] at h
 refine SC.go Tryz.func77 Tryz.call77 5 ?_
 refine .bjA 4 14 10 ?_
 refine .go 1 ?_
 cases h
 exact retF
theorem cell_Check_sc (a304:List Int) (r:Int) (h:cell_Check a304=r):SC Tryz.prog gl 151 [V.sl 1 (rws (fun n=>[I n]) a304)] (I r):=by
 rw [cell_Check] at h
 refine SC.go Tryz.func151 Tryz.call151 2 ?_
 refine .len ?_
 refine .go 1 ?_
 refine .ifC h (fun hc11987 h=>?_) (fun hc11987 h=>?_)
 ·refine .go 1 ?_
  cases h
  exact retF
 ·refine .go 1 ?_
  cases h
  exact retF
theorem ring_Check_sc (a305:List Int) (a306:api_Deque) (r:Int) (h:ring_Check a305 a306=r):SC Tryz.prog gl 146 [V.sl 1 (rws (fun n=>[I n]) a305),V.agg a306.cells] (I r):=by
 rw [ring_Check] at h
 refine SC.go Tryz.func146 Tryz.call146 3 ?_
 refine .cP (cell_Check_sc a305 _ rfl) ?_
 refine .go 2 ?_
 refine .bjO 4 12 8 ?_
 refine .go 1 ?_
 refine .bjO 4 17 13 ?_
 refine .go 1 ?_
 refine .bjO 4 22 18 ?_
 refine .go 1 ?_
 refine SafeOps.bjoinL 10 33 23 rfl (b:=((((((cell_Check a305) != 0)||(decide (a306.Cap < 1)))||(decide (a306.Cap > 1024)))||(decide (a306.Base < 0)))||(decide (a306.Base > (IntKind.i64.wrap ((IntKind.i64.wrap ((a305.length:Int) - a306.Cap)) - 2)))))) (b1:=true) (b0:=decide (a306.Base > (IntKind.i64.wrap ((IntKind.i64.wrap ((a305.length:Int) - a306.Cap)) - 2)))) (fun hc11996 K=>?_) (fun hc11996 K=>?_) bj_or ?_
 ·refine rO 10 ?_
  exact SafeOps.drop' 10 rfl rfl rfl K
 ·refine .go 3 ?_
  refine .len ?_
  refine rO 6 ?_
  exact SafeOps.drop' 10 rfl rfl rfl K
 refine .go 0 ?_
 refine .ifC h (fun hc11997 h=>?_) (fun hc11997 h=>?_)
 ·refine .go 1 ?_
  cases h
  exact retF
 ·refine .go 1 ?_
  cases h
  exact retF
theorem ring_accesses_sc (a307:Int) (r:List Nat) (h:ring_accesses a307=r):SC Tryz.prog gl 148 [I a307] (V.sl 1 (rws (fun f:Nat=>[V.fn f []]) r)):=by
 rw [ring_accesses] at h
 refine SC.go Tryz.func148 Tryz.call148 1 ?_
 refine SafeOps.quiet1 E_good rfl rfl rfl (.mkMapM (fun n:Int=>I n) (fun l:List Nat=>V.sl 1 (rws (fun f:Nat=>[V.fn f []]) l))) rfl ?_
 refine SafeOps.quiet1 E_good rfl rfl rfl (.litM (f:=(fun f:Nat=>[V.fn f []])) (xs:=[152,153,154,155]) rfl rfl (by decide) rfl rfl rfl rfl rfl) rfl ?_
 refine .freeze [4] rfl ?_
 refine .see 4 (u:=V.sl 1 (rws (fun f:Nat=>[V.fn f []]) [152,153,154,155])) rfl (.full rfl rfl) ?_
 refine SafeOps.mputM (fun n:Int=>I n) (fun l:List Nat=>V.sl 1 (rws (fun f:Nat=>[V.fn f []]) l)) [] 1 [152,153,154,155] E_good (keyI .i64) rfl (.inr rfl) rfl rfl rfl rfl rfl rfl rfl rfl rfl ?_
 refine SafeOps.quiet1 E_good rfl rfl rfl (.litM (f:=(fun f:Nat=>[V.fn f []])) (xs:=[156,157,158,159,160,161,162]) rfl rfl (by decide) rfl rfl rfl rfl rfl) rfl ?_
 refine .freeze [5] rfl ?_
 refine .see 5 (u:=V.sl 1 (rws (fun f:Nat=>[V.fn f []]) [156,157,158,159,160,161,162])) rfl (.full rfl rfl) ?_
 refine SafeOps.mputM (fun n:Int=>I n) (fun l:List Nat=>V.sl 1 (rws (fun f:Nat=>[V.fn f []]) l)) (mput [] 1 [152,153,154,155]) 2 [156,157,158,159,160,161,162] E_good (keyI .i64) rfl (.inr rfl) rfl rfl rfl rfl rfl rfl rfl rfl rfl ?_
 refine SafeOps.quiet1 E_good rfl rfl rfl (.litM (f:=(fun f:Nat=>[V.fn f []])) (xs:=[152,163,164,165]) rfl rfl (by decide) rfl rfl rfl rfl rfl) rfl ?_
 refine .freeze [6] rfl ?_
 refine .see 6 (u:=V.sl 1 (rws (fun f:Nat=>[V.fn f []]) [152,163,164,165])) rfl (.full rfl rfl) ?_
 refine SafeOps.mputM (fun n:Int=>I n) (fun l:List Nat=>V.sl 1 (rws (fun f:Nat=>[V.fn f []]) l)) (mput (mput [] 1 [152,153,154,155]) 2 [156,157,158,159,160,161,162]) 3 [152,163,164,165] E_good (keyI .i64) rfl (.inr rfl) rfl rfl rfl rfl rfl rfl rfl rfl rfl ?_
 refine .go 2 ?_
 refine SafeOps.lookSl (fun n:Int=>I n) (fun f:Nat=>[V.fn f []]) 1 (m:=mput (mput (mput [] 1 [152,153,154,155]) 2 [156,157,158,159,160,161,162]) 3 [152,163,164,165]) (kk:=a307) (keyI .i64) E_good rfl rfl rfl rfl rfl rfl rfl rfl rfl rfl rfl rfl rfl ?_
 refine .go 1 ?_
 cases h
 exact retF
theorem ring_may_sc (a308:api_Hand) (r:Bool) (h:ring_may a308=r):SC Tryz.prog gl 147 [V.agg a308.cells] (V.bool r):=by
 rw [ring_may] at h
 refine SC.go Tryz.func147 Tryz.call147 2 ?_
 refine Safe.regionD (n:=39) [] [] E_good mixed rfl ?_
 refine rA 35 (up 0 4) ?_
 refine DAny.ifD 6 h rfl (fun hc12008 h=>?_) (fun hc12008 h=>?_)
 ·refine rA 31 (up 4 4) ?_
  refine letG h ?_
  intro x309 he12010 h
  refine .cP (ring_accesses_sc a308.Kind _ he12010) 8 ?_
  refine DT 9 [] rfl rfl (v:=I (x309.length:Int)) (fun _ hz=>(.fnE rfl lenE)) ?_
  refine rA 26 (up 10 3) ?_
  refine DAny.ifD 15 h rfl (fun hc12011 h=>?_) (fun hc12011 h=>?_)
  ·refine rA 18 (up 13 8) ?_
   refine DAny.ifD 23 h rfl (fun hc12012 h=>?_) (fun hc12012 h=>?_)
   ·refine rA 10 (up 21 8) ?_
    refine DAny.ifD 31 h rfl (fun hc12013 h=>?_) (fun hc12013 h=>?_)
    ·refine rA 5 (up 29 5) ?_
     refine DAny.ifD 36 h rfl (fun hc12014 h=>?_) (fun hc12014 h=>?_)
     ·refine rA 0 (up 34 5) ?_
      refine DAny.nil (by kernel_rfl) ?_
      refine .go 0 ?_
      cases h
      exact retF
     ·refine rA 0 (up 34 5) ?_
      refine DAny.nil (by kernel_rfl) ?_
      refine .go 0 ?_
      cases h
      exact retF
    ·refine rA 0 (up 29 10) ?_
     refine DAny.nil (by kernel_rfl) ?_
     refine .go 0 ?_
     cases h
     exact retF
   ·refine rA 0 (up 21 18) ?_
    refine DAny.nil (by kernel_rfl) ?_
    refine .go 0 ?_
    cases h
    exact retF
  ·refine rA 0 (up 13 26) ?_
   refine DAny.nil (by kernel_rfl) ?_
   refine .go 0 ?_
   cases h
   exact retF
 ·refine rA 0 (up 4 35) ?_
  refine DAny.nil (by kernel_rfl) ?_
  refine .go 0 ?_
  cases h
  exact retF
theorem pring_actor_top_sc (a310:ring_actor) (r:Int) (h:pring_actor_top a310=r):SC Tryz.prog gl 168 [V.spt 11 (rws ring_actor.cells [a310]) (Int.toNat 0) 0] (I r):=by
 rw [pring_actor_top] at h
 refine SC.go Tryz.func168 Tryz.call168 5 ?_
 refine Q0 E_good rfl (v:=I ((a310).q.Base)) (.load rfl rfl (.sptM (f:=ring_actor.cells) (by simp) rfl) rfl) ?_
 refine .go 1 ?_
 cases h
 exact retF
theorem cell_Load_sc (a311:List Int) (a312:Int) (r:Int×Int) (h:cell_Load a311 a312=some r):SC Tryz.prog gl 177 [V.sl 1 (rws (fun n=>[I n]) a311),I a312] (V.tup [I r.1,I r.2]):=by
 rw [cell_Load] at h
 refine SC.go Tryz.func177 Tryz.call177 4 ?_
 refine .inl Tryz.func180 Tryz.call180 3 ?_
 refine .cP (cell_Check_sc a311 _ rfl) ?_
 refine .go 2 ?_
 refine .bjO 3 12 9 ?_
 refine .go 1 ?_
 refine SafeOps.bjoinL 5 18 13 rfl (b:=((((cell_Check a311) != 0)||(decide (a312 < 0)))||(decide (a312≥(a311.length:Int))))) (b1:=true) (b0:=decide (a312≥(a311.length:Int))) (fun hc12063 K=>?_) (fun hc12063 K=>?_) bj_or ?_
 ·refine rO 5 ?_
  exact SafeOps.drop' 5 rfl rfl rfl K
 ·refine .go 2 ?_
  refine .len ?_
  refine rO 2 ?_
  exact SafeOps.drop' 5 rfl rfl rfl K
 refine .go 0 ?_
 refine .ifC h (fun hc12064 h=>?_) (fun hc12064 h=>?_)
 ·refine .go 14 ?_
  cases h
  exact retF
 ·refine .go 2 ?_
  refine okG h (fun hb12065 h=>?_)
  refine .ix hb12065 ?_
  refine .go 13 ?_
  refine .ld hb12065 ?_
  refine .go 2 ?_
  cases h
  exact retF
theorem pring_actor_bottom_sc (a313:ring_actor) (r:Int) (h:pring_actor_bottom a313=r):SC Tryz.prog gl 169 [V.spt 11 (rws ring_actor.cells [a313]) (Int.toNat 0) 0] (I r):=by
 rw [pring_actor_bottom] at h
 refine SC.go Tryz.func169 Tryz.call169 5 ?_
 refine Q0 E_good rfl (v:=I ((a313).q.Base)) (.load rfl rfl (.sptM (f:=ring_actor.cells) (by simp) rfl) rfl) ?_
 refine .go 2 ?_
 cases h
 exact retF
theorem pring_actor_slot_sc (a314:ring_actor) (a315:Int) (r:Int) (h:pring_actor_slot a314 a315=some r):SC Tryz.prog gl 173 [V.spt 11 (rws ring_actor.cells [a314]) (Int.toNat 0) 0,I a315] (I r):=by
 rw [pring_actor_slot] at h
 refine SC.go Tryz.func173 Tryz.call173 1 ?_
 refine Safe.regionD (n:=15) [] [] E_good mixed rfl ?_
 refine rA 11 (up 0 4) ?_
 refine DT 4 [] rfl rfl (v:=I ((a314).q.Base)) (fun _ hz=>(.load rfl rfl (.sptM (f:=ring_actor.cells) (by simp) rfl) rfl)) ?_
 refine rA 4 (up 5 6) ?_
 refine DT 11 [] rfl rfl (v:=I ((a314).q.Cap)) (fun _ hz=>(.load rfl rfl (.sptM (f:=ring_actor.cells) (by simp) rfl) rfl)) ?_
 refine okG h (fun hb12143 h=>?_)
 refine DT 12 [] rfl rfl (v:=I (Int.tmod a315 ((a314).q.Cap))) (fun _ hz=>(.remV rfl rfl hb12143)) ?_
 refine rA 0 [13,14] ?_
 refine DAny.nil (by kernel_rfl) ?_
 refine .go 0 ?_
 cases h
 exact retF
theorem slices_Clone_api_Mem_int64_sc (xs:List Int) (r:List Int) (h:slices_Clone_api_Mem_int64 xs=some r):SC Tryz.prog gl 181 [V.sl 1 (rws (fun n=>[I n]) xs)] (V.own 1 (rws (fun n=>[I n]) r)):=by
 rw [slices_Clone_api_Mem_int64] at h
 refine okG h (fun hf h=>?_)
 cases h
 refine SC.go Tryz.func181 Tryz.call181 0 ?_
 refine Q0 E_good rfl (v:=V.nils) (.fn rfl) ?_
 refine .go 0 ?_
 refine Q0 E_good rfl (v:=V.sl 1 (rws (fun n=>[I n]) xs)) (.fn rfl) ?_
 refine SafeOps.nilcmp E_good rfl rfl rfl rfl rfl rfl rfl (fun b hb=>?_)
 refine .go 0 ?_
 cases b with
 | true =>
  have hx:xs=[]:=List.map_eq_nil_iff.1 (hb rfl)
  subst hx
  refine .go 1 ?_
  refine Q0 E_good rfl (v:=V.nils) (.fn rfl) ?_
  refine .go 0 ?_
  refine retG ?_
  exact ⟨_,(.nils _),by simp⟩
 | false =>
  refine .go 1 ?_
  refine SafeOps.quiet1 E_good rfl rfl rfl (.litM (f:=(fun n=>[I n])) (xs:=[]) rfl rfl (by decide) rfl rfl rfl rfl rfl) rfl ?_
  refine Q0 E_good rfl (v:=V.sl 1 (rws (fun n=>[I n]) xs)) (.fn rfl) ?_
  refine SafeOps.appendM (fun n=>[I n]) (xs:=[]) (ys:=xs) E_good rfl rfl rfl rfl rfl rfl rfl rfl rfl (.own rfl) (.sl _) (fun _=>rfl) hf ?_
  refine Q0 E_good rfl (v:=V.ref [7] 0 (rws (fun n=>[I n]) ([]++xs)).length) (.fn rfl) ?_
  refine .go 0 ?_
  refine retG ?_
  exact ⟨_,.own rfl rfl,by simp⟩
theorem cell_Store_sc (a316:List Int) (a317:Int) (a318:Int) (r:(List Int)×Int) (h:cell_Store a316 a317 a318=some r):SC Tryz.prog gl 176 [V.sl 1 (rws (fun n=>[I n]) a316),I a317,I a318] (V.tup [V.own 1 (rws (fun n=>[I n]) r.1),I r.2]):=by
 rw [cell_Store] at h
 refine SC.go Tryz.func176 Tryz.call176 4 ?_
 refine .inl Tryz.func179 Tryz.call179 5 ?_
 refine .inl Tryz.func180 Tryz.call180 3 ?_
 refine .cP (cell_Check_sc a316 _ rfl) ?_
 refine .go 2 ?_
 refine .bjO 3 12 9 ?_
 refine .go 1 ?_
 refine SafeOps.bjoinL 5 18 13 rfl (b:=((((cell_Check a316) != 0)||(decide (a317 < 0)))||(decide (a317≥(a316.length:Int))))) (b1:=true) (b0:=decide (a317≥(a316.length:Int))) (fun hc12200 K=>?_) (fun hc12200 K=>?_) bj_or ?_
 ·refine rO 5 ?_
  exact SafeOps.drop' 5 rfl rfl rfl K
 ·refine .go 2 ?_
  refine .len ?_
  refine rO 2 ?_
  exact SafeOps.drop' 5 rfl rfl rfl K
 refine .go 0 ?_
 refine .ifC h (fun hc12201 h=>?_) (fun hc12201 h=>?_)
 ·refine .go 29 ?_
  cases h
  refine retG ?_
  exact ⟨_,(.tup (.cons (.nils _) (.cons (.free rfl) .nil))),by simp⟩
 ·refine .go 2 ?_
  refine okG h (fun hb12202 h=>?_)
  refine .ix hb12202 ?_
  refine .go 12 ?_
  refine bindG h ?_
  intro x319 he12204 h
  refine .cP (slices_Clone_api_Mem_int64_sc a316 _ he12204) ?_
  refine .go 1 ?_
  refine Safe.regionD (n:=7) [] [] E_good mixed rfl ?_
  refine rA 4 (up 0 3) ?_
  refine okG h (fun hb12205 h=>?_)
  refine DT 3 [] rfl rfl (v:=V.ptr [14,19,0] (0+Int.toNat a317) 0) (fun _ hz=>(.idxRefM (f:=(fun n=>[I n])) (xs:=x319) rfl rfl rfl (hz _ _ rfl rfl) rfl rfl hb12205)) ?_
  refine rA 0 (up 4 3) ?_
  refine DAny.nil (by kernel_rfl) ?_
  refine .go 14 ?_
  refine SafeOps.store (z:=Obj.rows 1 (rws (fun n=>[I n]) (st x319 a317 a318)) false) E_good rfl rfl rfl rfl rfl rfl rfl (.rowsM (f:=(fun n=>[I n])) (xs:=x319) (y:=a318) hb12205 rfl rfl rfl rfl) ?_
  refine .see 15 (u:=V.ref [14,19,0] 0 (rws (fun n=>[I n]) (st x319 a317 a318)).length) rfl (.len (by simp [rws,st])) ?_
  refine .see 8 (u:=V.ref [14,19,0] 0 (rws (fun n=>[I n]) (st x319 a317 a318)).length) rfl (.len (by simp [rws,st])) ?_
  refine .go 3 ?_
  cases h
  refine retG ?_
  exact ⟨_,(.tup (.cons (.own rfl rfl) (.cons (.free rfl) .nil))),by simp⟩
theorem cell_Cas_sc (a324:List Int) (a320:Int) (a321:Int) (a325:Int) (r:(List Int)×Bool×Int) (h:cell_Cas a324 a320 a321 a325=some r):SC Tryz.prog gl 178 [V.sl 1 (rws (fun n=>[I n]) a324),I a320,I a321,I a325] (V.tup [V.own 1 (rws (fun n=>[I n]) r.1),V.bool r.2.1,I r.2.2]):=by
 rw [cell_Cas] at h
 refine SC.go Tryz.func178 Tryz.call178 5 ?_
 refine .inl Tryz.func179 Tryz.call179 5 ?_
 refine .inl Tryz.func180 Tryz.call180 3 ?_
 refine .cP (cell_Check_sc a324 _ rfl) ?_
 refine .go 2 ?_
 refine .bjO 3 12 9 ?_
 refine .go 1 ?_
 refine SafeOps.bjoinL 5 18 13 rfl (b:=((((cell_Check a324) != 0)||(decide (a320 < 0)))||(decide (a320≥(a324.length:Int))))) (b1:=true) (b0:=decide (a320≥(a324.length:Int))) (fun hc12485 K=>?_) (fun hc12485 K=>?_) bj_or ?_
 ·refine rO 5 ?_
  exact SafeOps.drop' 5 rfl rfl rfl K
 ·refine .go 2 ?_
  refine .len ?_
  refine rO 2 ?_
  exact SafeOps.drop' 5 rfl rfl rfl K
 refine .go 0 ?_
 refine .ifC h (fun hc12486 h=>?_) (fun hc12486 h=>?_)
 ·refine .go 30 ?_
  cases h
  refine retG ?_
  exact ⟨_,(.tup (.cons (.nils _) (.cons (.free rfl) (.cons (.free rfl) .nil)))),by simp⟩
 ·refine .go 2 ?_
  refine okG h (fun hb12487 h=>?_)
  refine .ix hb12487 ?_
  refine .go 12 ?_
  refine bindG h ?_
  intro x322 he12489 h
  refine .cP (slices_Clone_api_Mem_int64_sc a324 _ he12489) ?_
  refine .go 1 ?_
  refine Safe.regionD (n:=7) [] [] E_good mixed rfl ?_
  refine rA 4 (up 0 3) ?_
  refine okG h (fun hb12490 h=>?_)
  refine DT 3 [] rfl rfl (v:=V.ptr [18,19,0] (0+Int.toNat a320) 0) (fun _ hz=>(.idxRefM (f:=(fun n=>[I n])) (xs:=x322) rfl rfl rfl (hz _ _ rfl rfl) rfl rfl hb12490)) ?_
  refine rA 0 (up 4 3) ?_
  refine DAny.nil (by kernel_rfl) ?_
  refine .go 13 ?_
  refine Q0 E_good rfl (v:=I (gt x322 a320)) (.load rfl rfl (.rowsM (f:=(fun n=>[I n])) (xs:=x322) hb12490 rfl rfl) rfl) ?_
  refine .go 4 ?_
  refine .joinS (fun(v323:List Int)=>cell_Cas_j1 a320 a321 x322 v323=some r) (fun(v323:List Int)=>⟨Tryz.f178.ntmps,[(11,V.ref [18,19,0] 0 (rws (fun n=>[I n]) v323).length),(14,V.bool ((gt x322 a320)==a321))],[([18,19,0],Obj.rows 1 (rws (fun n=>[I n]) v323) false)],[],[]⟩) ?_ (fun HJ12492=>?_)
  ·intro v323 h
   rw [cell_Cas_j1] at h
   refine .go 5 ?_
   cases h
   refine retG ?_
   exact ⟨_,(.tup (.cons (.own rfl rfl) (.cons (.free rfl) (.cons (.free rfl) .nil)))),by simp⟩
  ·refine .ifC h (fun hc12493 h=>?_) (fun hc12493 h=>?_)
   ·refine .go 3 ?_
    refine SafeOps.store (z:=Obj.rows 1 (rws (fun n=>[I n]) (st x322 a320 a325)) false) E_good rfl rfl rfl rfl rfl rfl rfl (.rowsM (f:=(fun n=>[I n])) (xs:=x322) (y:=a325) hb12490 rfl rfl rfl rfl) ?_
    refine .see 19 (u:=V.ref [18,19,0] 0 (rws (fun n=>[I n]) (st x322 a320 a325)).length) rfl (.len (by simp [rws,st])) ?_
    refine .see 11 (u:=V.ref [18,19,0] 0 (rws (fun n=>[I n]) (st x322 a320 a325)).length) rfl (.len (by simp [rws,st])) ?_
    refine .go 0 ?_
    exact .got (HJ12492 (st x322 a320 a325) h) covA
   ·refine .go 0 ?_
    exact .got (HJ12492 (x322) h) covA
end Go.Proofs.YtkkimimkcchlnaaGreat
