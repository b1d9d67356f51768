/- Helper lemmas for the claim's theorem: an abstract machine over the model, proved sound; no condition beyond each lemma's own. -/
import Derived.Test.YtkkimimkcchlnaaGreatT1
set_option linter.unusedVariables false
set_option linter.unusedSimpArgs false
set_option linter.unnecessarySimpa false
set_option linter.unusedSectionVars false
namespace Go.Proofs.YtkkimimkcchlnaaGreat
open Go Go.AM
set_option maxRecDepth 100000
set_option maxHeartbeats 1000000
set_option linter.unusedVariables false
set_option linter.unusedSimpArgs false
variable {gl:List (Nat×List V)}
theorem r20_Check_sc (a644:api_Config) (a645:api_World) (r:Int) (h:r20_Check a644 a645=some r):SC Tryz.prog gl 23 [V.agg a644.cells,V.agg a645.cells] (I r):=by
 rw [r20_Check] at h
 refine SC.go Tryz.func23 Tryz.call23 4 ?_
 refine bindG h ?_
 intro x662 he30988 h
 refine .cP (r19_Config_sc a644 _ he30988) ?_
 refine .go 2 ?_
 refine .bjO 4 15 11 ?_
 refine .go 1 ?_
 refine .bjO 4 20 16 ?_
 refine .go 1 ?_
 refine SafeOps.bjoinL 5 26 21 rfl (b:=((((x662 != 0)||(decide (a645.Now < 0)))||(decide (a645.Now > 1125899906842624)))||((r03_Check a645.Dice) != 0))) (b1:=true) (b0:=((r03_Check a645.Dice) != 0)) (fun hc30991 K=>?_) (fun hc30991 K=>?_) bj_or ?_
 ·refine rO 5 ?_
  exact SafeOps.drop' 5 rfl rfl rfl K
 ·refine .go 2 ?_
  refine .cP (r03_Check_sc a645.Dice _ rfl) ?_
  refine rO 2 ?_
  exact SafeOps.drop' 5 rfl rfl rfl K
 refine .go 1 ?_
 refine SafeOps.bjoinL 5 32 27 rfl (b:=(((((x662 != 0)||(decide (a645.Now < 0)))||(decide (a645.Now > 1125899906842624)))||((r03_Check a645.Dice) != 0))||(decide ((a645.Seen.length:Int) > 65536)))) (b1:=true) (b0:=decide ((a645.Seen.length:Int) > 65536)) (fun hc30992 K=>?_) (fun hc30992 K=>?_) bj_or ?_
 ·refine rO 5 ?_
  exact SafeOps.drop' 5 rfl rfl rfl K
 ·refine .go 2 ?_
  refine .len ?_
  refine rO 2 ?_
  exact SafeOps.drop' 5 rfl rfl rfl K
 refine .go 1 ?_
 refine SafeOps.bsplit 5 38 (fun b659=>r20_Check_j1 a644 a645 b659=some r) (fun HJ30997=>?_) (fun b659 h=>?_)
 ·refine SafeOps.ifD 33 h rfl (fun hc30993 h=>?_) (fun hc30993 h=>?_)
  ·refine rO 5 ?_
   exact SafeOps.drop' 5 rfl rfl rfl (SafeOps.unk 33 rfl hc30993 (HJ30997 _ h))
  ·refine .go 2 ?_
   refine bindG h ?_
   intro x663 he31097 h
   refine .cP (r20_tasks_sc a644 a645 _ he31097) ?_
   refine rO 2 ?_
   exact SafeOps.drop' 5 rfl rfl rfl (SafeOps.unk 33 rfl hc30993 (HJ30997 _ h))
 ·replace h:r20_Check_j1 a644 a645 b659=some r:=h
  rw [r20_Check_j1] at h
  refine .go 1 ?_
  refine SafeOps.ifD 39 h rfl (fun hc30998 h=>?_) (fun hc30998 h=>?_)
  ·refine .go 7 ?_
   cases h
   exact retF
  ·refine .go 2 ?_
   refine bindG h ?_
   intro x660 he31002 h
   refine .cP (r20_lists_sc a644 a645 _ he31002) ?_
   refine .go 2 ?_
   refine .ifC h (fun hc31003 h=>?_) (fun hc31003 h=>?_)
   ·refine .go 1 ?_
    cases h
    exact retF
   ·refine .go 2 ?_
    refine .len ?_
    refine .go 8 ?_
    refine SafeOps.bsplit 5 60 (fun b657=>r20_Check_j2 a644 a645 b657=some r) (fun HJ31008=>?_) (fun b657 h=>?_)
    ·refine SafeOps.ifD 55 h rfl (fun hc31004 h=>?_) (fun hc31004 h=>?_)
     ·refine rO 5 ?_
      exact SafeOps.drop' 5 rfl rfl rfl (SafeOps.unk 55 rfl hc31004 (HJ31008 _ h))
     ·refine .go 2 ?_
      refine bindG h ?_
      intro x661 he31095 h
      refine .cP (r14_Check_sc a645.Ten _ he31095) ?_
      refine rO 2 ?_
      exact SafeOps.drop' 5 rfl rfl rfl (SafeOps.unk 55 rfl hc31004 (HJ31008 _ h))
    ·replace h:r20_Check_j2 a644 a645 b657=some r:=h
     rw [r20_Check_j2] at h
     refine .go 1 ?_
     refine SafeOps.bjoinL 8 69 61 rfl (b:=(b657||((a645.Ten.length:Int) != (a644.Weights.length:Int)))) (b1:=true) (b0:=((a645.Ten.length:Int) != (a644.Weights.length:Int))) (fun hc31009 K=>?_) (fun hc31009 K=>?_) bj_or ?_
     ·refine rO 8 ?_
      exact SafeOps.drop' 8 rfl rfl rfl K
     ·refine .go 2 ?_
      refine .len ?_
      refine .go 2 ?_
      refine .len ?_
      refine rO 2 ?_
      exact SafeOps.drop' 8 rfl rfl rfl K
     refine .go 1 ?_
     refine SafeOps.bsplit 5 75 (fun b655=>r20_Check_j3 a644 a645 b655=some r) (fun HJ31014=>?_) (fun b655 h=>?_)
     ·refine SafeOps.ifD 70 h rfl (fun hc31010 h=>?_) (fun hc31010 h=>?_)
      ·refine rO 5 ?_
       exact SafeOps.drop' 5 rfl rfl rfl (SafeOps.unk 70 rfl hc31010 (HJ31014 _ h))
      ·refine .go 2 ?_
       refine bindG h ?_
       intro x658 he31093 h
       refine .cP (r08_Check_sc a645.Heap _ he31093) ?_
       refine rO 2 ?_
       exact SafeOps.drop' 5 rfl rfl rfl (SafeOps.unk 70 rfl hc31010 (HJ31014 _ h))
     ·replace h:r20_Check_j3 a644 a645 b655=some r:=h
      rw [r20_Check_j3] at h
      refine .go 1 ?_
      refine SafeOps.bsplit 5 81 (fun b653=>r20_Check_j4 a644 a645 b653=some r) (fun HJ31019=>?_) (fun b653 h=>?_)
      ·refine SafeOps.ifD 76 h rfl (fun hc31015 h=>?_) (fun hc31015 h=>?_)
       ·refine rO 5 ?_
        exact SafeOps.drop' 5 rfl rfl rfl (SafeOps.unk 76 rfl hc31015 (HJ31019 _ h))
       ·refine .go 2 ?_
        refine bindG h ?_
        intro x656 he31091 h
        refine .cP (r09_Check_sc a645.Fds _ he31091) ?_
        refine rO 2 ?_
        exact SafeOps.drop' 5 rfl rfl rfl (SafeOps.unk 76 rfl hc31015 (HJ31019 _ h))
      ·replace h:r20_Check_j4 a644 a645 b653=some r:=h
       rw [r20_Check_j4] at h
       refine .go 1 ?_
       refine SafeOps.bjoinL 7 89 82 rfl (b:=(b653||((a645.Fds.length:Int) != a644.Fds))) (b1:=true) (b0:=((a645.Fds.length:Int) != a644.Fds)) (fun hc31020 K=>?_) (fun hc31020 K=>?_) bj_or ?_
       ·refine rO 7 ?_
        exact SafeOps.drop' 7 rfl rfl rfl K
       ·refine .go 2 ?_
        refine .len ?_
        refine rO 4 ?_
        exact SafeOps.drop' 7 rfl rfl rfl K
       refine .go 1 ?_
       refine SafeOps.bjoinL 8 98 90 rfl (b:=((b653||((a645.Fds.length:Int) != a644.Fds))||((a645.Sems.length:Int) != (a644.Sems.length:Int)))) (b1:=true) (b0:=((a645.Sems.length:Int) != (a644.Sems.length:Int))) (fun hc31021 K=>?_) (fun hc31021 K=>?_) bj_or ?_
       ·refine rO 8 ?_
        exact SafeOps.drop' 8 rfl rfl rfl K
       ·refine .go 2 ?_
        refine .len ?_
        refine .go 2 ?_
        refine .len ?_
        refine rO 2 ?_
        exact SafeOps.drop' 8 rfl rfl rfl K
       refine .go 1 ?_
       refine SafeOps.bsplit 5 104 (fun b651=>r20_Check_j5 a644 a645 b651=some r) (fun HJ31026=>?_) (fun b651 h=>?_)
       ·refine SafeOps.ifD 99 h rfl (fun hc31022 h=>?_) (fun hc31022 h=>?_)
        ·refine rO 5 ?_
         exact SafeOps.drop' 5 rfl rfl rfl (SafeOps.unk 99 rfl hc31022 (HJ31026 _ h))
        ·refine .go 2 ?_
         refine bindG h ?_
         intro x654 he31089 h
         refine .cP (r11_Check_sc a645.Joins _ he31089) ?_
         refine rO 2 ?_
         exact SafeOps.drop' 5 rfl rfl rfl (SafeOps.unk 99 rfl hc31022 (HJ31026 _ h))
       ·replace h:r20_Check_j5 a644 a645 b651=some r:=h
        rw [r20_Check_j5] at h
        refine .go 1 ?_
        refine SafeOps.bsplit 5 110 (fun b650=>r20_Check_j6 a644 a645 b650=some r) (fun HJ31031=>?_) (fun b650 h=>?_)
        ·refine SafeOps.ifD 105 h rfl (fun hc31027 h=>?_) (fun hc31027 h=>?_)
         ·refine rO 5 ?_
          exact SafeOps.drop' 5 rfl rfl rfl (SafeOps.unk 105 rfl hc31027 (HJ31031 _ h))
         ·refine .go 2 ?_
          refine bindG h ?_
          intro x652 he31087 h
          refine .cP (r17_Check_sc a645.Idle _ he31087) ?_
          refine rO 2 ?_
          exact SafeOps.drop' 5 rfl rfl rfl (SafeOps.unk 105 rfl hc31027 (HJ31031 _ h))
        ·replace h:r20_Check_j6 a644 a645 b650=some r:=h
         rw [r20_Check_j6] at h
         refine .go 1 ?_
         refine SafeOps.bjoinL 8 119 111 rfl (b:=(b650||((a645.Idle.Is.length:Int) != a644.Workers))) (b1:=true) (b0:=((a645.Idle.Is.length:Int) != a644.Workers)) (fun hc31032 K=>?_) (fun hc31032 K=>?_) bj_or ?_
         ·refine rO 8 ?_
          exact SafeOps.drop' 8 rfl rfl rfl K
         ·refine .go 3 ?_
          refine .len ?_
          refine rO 4 ?_
          exact SafeOps.drop' 8 rfl rfl rfl K
         refine .go 1 ?_
         refine SafeOps.bjoinL 7 127 120 rfl (b:=((b650||((a645.Idle.Is.length:Int) != a644.Workers))||((a645.W.length:Int) != a644.Workers))) (b1:=true) (b0:=((a645.W.length:Int) != a644.Workers)) (fun hc31033 K=>?_) (fun hc31033 K=>?_) bj_or ?_
         ·refine rO 7 ?_
          exact SafeOps.drop' 7 rfl rfl rfl K
         ·refine .go 2 ?_
          refine .len ?_
          refine rO 4 ?_
          exact SafeOps.drop' 7 rfl rfl rfl K
         refine .go 0 ?_
         refine .ifC h (fun hc31034 h=>?_) (fun hc31034 h=>?_)
         ·refine .go 1 ?_
          cases h
          exact retF
         ·refine .go 2 ?_
          refine .len ?_
          refine .go 1 ?_
          refine Safe.loopS (fun(v648:Int)=>⟨Tryz.f23.ntmps,[(2,V.ptr [2] 0 0),(3,V.ptr [3] 0 0),(129,V.sl 2 (rws api_Sem.cells a645.Sems)),(130,I (a645.Sems.length:Int)),(131,I v648)],[([2],Obj.box a644.cells),([3],Obj.box a645.cells)],[],[]⟩) h covA ?_
          intro v648 ohr31065 h hr31065
          rw [r20_Check_s8] at h
          refine .go 1 ?_
          refine .ifC h (fun hc31066 h=>?_) (fun hc31066 h=>?_)
          ·refine .go 0 ?_
           refine okG h (fun hb31067 h=>?_)
           refine .ix hb31067 ?_
           refine .ld hb31067 ?_
           refine .go 3 ?_
           refine bindG h ?_
           intro x649 he31069 h
           refine .cP (r10_Check_sc (gt a645.Sems v648) _ he31069) ?_
           refine .go 1 ?_
           refine .ifC h (fun hc31070 h=>?_) (fun hc31070 h=>?_)
           ·refine .go 1 ?_
            replace h:=inr_out h hr31065
            cases h
            exact retF
           ·refine .go 2 ?_
            exact lpK ⟨_,next_out h,covA⟩
          ·refine .go 0 ?_
           replace h:=inr_out h hr31065
           refine .go 2 ?_
           refine .len ?_
           refine .go 1 ?_
           refine Safe.loopS (fun(v646:Int)=>⟨Tryz.f23.ntmps,[(2,V.ptr [2] 0 0),(3,V.ptr [3] 0 0),(141,I (a645.W.length:Int)),(142,I v646)],[([2],Obj.box a644.cells),([3],Obj.box a645.cells)],[],[]⟩) h covA ?_
           intro v646 ohr31081 h hr31081
           rw [r20_Check_s9] at h
           refine .go 1 ?_
           refine .ifC h (fun hc31082 h=>?_) (fun hc31082 h=>?_)
           ·refine .go 5 ?_
            refine bindG h ?_
            intro x647 he31084 h
            refine .cP (r20_worker_sc a644 a645 v646 _ he31084) ?_
            refine .go 1 ?_
            refine .ifC h (fun hc31085 h=>?_) (fun hc31085 h=>?_)
            ·refine .go 1 ?_
             replace h:=inr_out h hr31081
             cases h
             exact retF
            ·refine .go 2 ?_
             exact lpK ⟨_,next_out h,covA⟩
           ·refine .go 0 ?_
            replace h:=inr_out h hr31081
            refine .go 1 ?_
            cases h
            exact retF
theorem r13_Left_sc (a667:api_Task) (a668:List api_Instr) (r:Int×Int) (h:r13_Left a667 a668=some r):SC Tryz.prog gl 50 [V.agg a667.cells,V.sl 3 (rws api_Instr.cells a668)] (V.tup [I r.1,I r.2]):=by
 rw [r13_Left] at h
 refine SC.go Tryz.func50 Tryz.call50 5 ?_
 refine bindG h ?_
 intro x670 he31164 h
 refine .cP (r13_Fits_sc a667 a668 _ he31164) ?_
 refine .go 1 ?_
 refine .ifC h (fun hc31165 h=>?_) (fun hc31165 h=>?_)
 ·refine .go 2 ?_
  cases h
  exact retF
 ·refine .go 3 ?_
  refine okG h (fun hb31166 h=>?_)
  refine Q0 E_good rfl (v:=V.sl 3 (rws api_Instr.cells (sub a668 0 a667.Pc))) (.slH (f:=api_Instr.cells) rfl rfl rfl rfl rfl hb31166) ?_
  refine .len ?_
  refine .go 1 ?_
  refine Safe.loopS (fun(v669:Int)=>⟨Tryz.f50.ntmps,[(1,V.sl 3 (rws api_Instr.cells a668)),(2,V.ptr [2] 0 0),(18,V.sl 3 (rws api_Instr.cells (sub a668 0 a667.Pc))),(19,I ((sub a668 0 a667.Pc).length:Int)),(20,I v669)],[([2],Obj.box a667.cells)],[],[]⟩) h covA ?_
  intro v669 ohr31187 h hr31187
  rw [r13_Left_s2] at h
  refine .go 1 ?_
  refine .ifC h (fun hc31188 h=>?_) (fun hc31188 h=>?_)
  ·refine .go 0 ?_
   refine okG h (fun hb31189 h=>?_)
   refine .ix hb31189 ?_
   refine .ld hb31189 ?_
   refine .go 5 ?_
   refine .ifC h (fun hc31190 h=>?_) (fun hc31190 h=>?_)
   ·refine .go 2 ?_
    replace h:=inr_out h hr31187
    cases h
    exact retF
   ·refine .go 2 ?_
    exact lpK ⟨_,next_out h,covA⟩
  ·refine .go 0 ?_
   replace h:=inr_out h hr31187
   refine .go 7 ?_
   refine okG h (fun hb31191 h=>?_)
   refine Q0 E_good rfl (v:=V.sl 3 (rws api_Instr.cells (sub a668 a667.Pc (a668.length:Int)))) (.slL (f:=api_Instr.cells) rfl rfl rfl rfl rfl hb31191) ?_
   refine bindG h ?_
   intro x664 he31193 h
   refine .cP (r04_Run_sc (sub a668 a667.Pc (a668.length:Int)) _ he31193) ?_
   refine .len ?_
   refine .go 1 ?_
   refine Safe.loopS (fun((v665,v666):Int×Int)=>⟨Tryz.f50.ntmps,[(8,I v665),(35,V.sl 3 (rws api_Instr.cells x664)),(36,I (x664.length:Int)),(37,I v666)],[],[],[]⟩) h covA ?_
   rintro ⟨v665,v666⟩ ohr31204 h hr31204
   rw [r13_Left_s3] at h
   refine .go 1 ?_
   refine .ifC h (fun hc31205 h=>?_) (fun hc31205 h=>?_)
   ·refine .go 0 ?_
    refine okG h (fun hb31206 h=>?_)
    refine .ix hb31206 ?_
    refine .ld hb31206 ?_
    refine .go 5 ?_
    refine .ifC h (fun hc31207 h=>?_) (fun hc31207 h=>?_)
    ·refine .go 7 ?_
     exact lpK ⟨_,next_out h,covA⟩
    ·refine .go 5 ?_
     exact lpK ⟨_,next_out h,covA⟩
   ·refine .go 0 ?_
    replace h:=inr_out h hr31204
    refine .go 3 ?_
    cases h
    exact retF
theorem r24_work_sc (a671:List (List api_Instr)) (a672:List Int) (a673:api_Task) (r:Int) (h:r24_work a671 a672 a673=some r):SC Tryz.prog gl 24 [V.sl 1 (rws (fun l=>[V.sl 3 (rws api_Instr.cells l)]) a671),V.sl 1 (rws (fun n=>[I n]) a672),V.agg a673.cells] (I r):=by
 rw [r24_work] at h
 refine SC.go Tryz.func24 Tryz.call24 2 ?_
 refine Safe.regionD (n:=12) [] [] E_good mixed rfl ?_
 refine rA 8 (up 0 4) ?_
 refine okG h (fun hb31239 h=>?_)
 refine DT 4 [] rfl rfl (v:=V.spt 1 (rws (fun l=>[V.sl 3 (rws api_Instr.cells l)]) a671) (Int.toNat a673.Prog) 0) (fun _ hz=>(.idxSlM (f:=(fun l=>[V.sl 3 (rws api_Instr.cells l)])) rfl rfl rfl rfl rfl hb31239)) ?_
 refine DT 5 [] rfl rfl (v:=V.sl 3 (rws api_Instr.cells (gt a671 a673.Prog))) (fun _ hz=>(.load rfl rfl (.sptM (f:=(fun l=>[V.sl 3 (rws api_Instr.cells l)])) hb31239 rfl) rfl)) ?_
 refine bindG h ?_
 rintro ⟨x677,x678⟩ he31242 h
 refine .cP (r13_Left_sc a673 (gt a671 a673.Prog) _ he31242) 6 ?_
 refine rA 0 (up 7 5) ?_
 refine DAny.nil (by kernel_rfl) ?_
 refine .go 7 ?_
 refine okG h (fun hb31243 h=>?_)
 refine .ix hb31243 ?_
 refine .ld hb31243 ?_
 refine .len ?_
 refine .go 1 ?_
 refine Safe.loopS (fun((v674,v675,v676):Int×Bool×Int)=>⟨Tryz.f24.ntmps,[(1,V.sl 1 (rws (fun n=>[I n]) a672)),(5,V.ptr [5] 0 0),(9,I v674),(10,V.bool v675),(29,V.sl 3 (rws api_Instr.cells (gt a671 a673.Prog))),(30,I ((gt a671 a673.Prog).length:Int)),(31,I v676)],[([5],Obj.box a673.cells)],[],[]⟩) h covA ?_
 rintro ⟨v674,v675,v676⟩ ohr31263 h hr31263
 rw [r24_work_s1] at h
 refine .go 1 ?_
 refine .ifC h (fun hc31264 h=>?_) (fun hc31264 h=>?_)
 ·refine .go 1 ?_
  refine okG h (fun hb31265 h=>?_)
  refine .ix hb31265 ?_
  refine .ld hb31265 ?_
  refine .go 5 ?_
  refine .bjO 4 41 37 ?_
  refine .go 6 ?_
  refine .bjA 4 50 46 ?_
  refine .go 1 ?_
  refine .bjA 3 54 51 ?_
  refine .go 0 ?_
  refine .ifC h (fun hc31269 h=>?_) (fun hc31269 h=>?_)
  ·refine .go 4 ?_
   refine okG h (fun hb31270 h=>?_)
   refine .ix hb31270 ?_
   refine .ld hb31270 ?_
   refine .go 5 ?_
   exact lpK ⟨_,next_out h,covA⟩
  ·refine .go 2 ?_
   exact lpK ⟨_,next_out h,covA⟩
 ·refine .go 0 ?_
  replace h:=inr_out h hr31263
  refine .go 2 ?_
  cases h
  exact retF
theorem r24_Work_sc (a679:api_Config) (a680:api_World) (r:Int×Int) (h:r24_Work a679 a680=some r):SC Tryz.prog gl 11 [V.agg a679.cells,V.agg a680.cells] (V.tup [I r.1,I r.2]):=by
 rw [r24_Work] at h
 refine SC.go Tryz.func11 Tryz.call11 6 ?_
 refine bindG h ?_
 intro x687 he31340 h
 refine .cP (r20_Check_sc a679 a680 _ he31340) ?_
 refine .go 1 ?_
 refine .ifC h (fun hc31341 h=>?_) (fun hc31341 h=>?_)
 ·refine .go 2 ?_
  cases h
  exact retF
 ·refine .go 2 ?_
  refine bindG h ?_
  intro x681 he31343 h
  refine .cP (r24_table_sc a679.Progs _ he31343) ?_
  refine .go 5 ?_
  refine .len ?_
  refine .go 1 ?_
  refine Safe.loopS (fun((v682,v683):Int×Int)=>⟨Tryz.f11.ntmps,[(2,V.ptr [2] 0 0),(3,V.ptr [3] 0 0),(6,V.ref [18,0] 0 (rws (fun n=>[I n]) x681).length),(7,I v682),(21,V.sl 1 (rws (fun b=>[V.bool b]) a680.Ids.Live)),(22,I (a680.Ids.Live.length:Int)),(23,I v683)],[([2],Obj.box a679.cells),([3],Obj.box a680.cells),([18,0],Obj.rows 1 (rws (fun n=>[I n]) x681) false)],[],[]⟩) h covA ?_
  rintro ⟨v682,v683⟩ ohr31408 h hr31408
  rw [r24_Work_s2] at h
  refine .go 1 ?_
  refine .ifC h (fun hc31409 h=>?_) (fun hc31409 h=>?_)
  ·refine .go 1 ?_
   refine okG h (fun hb31410 h=>?_)
   refine .ix hb31410 ?_
   refine .ld hb31410 ?_
   refine .go 4 ?_
   refine .ifC h (fun hc31411 h=>?_) (fun hc31411 h=>?_)
   ·refine .go 2 ?_
    exact lpK ⟨_,next_out h,covA⟩
   ·refine .go 0 ?_
    refine Safe.regionD (n:=14) [] [] E_good mixed rfl ?_
    refine rA 9 (up 0 5) ?_
    refine okG h (fun hb31412 h=>?_)
    refine DT 5 [] rfl rfl (v:=V.spt 11 (rws api_Task.cells a680.T) (Int.toNat v683) 0) (fun _ hz=>(.idxSlM (f:=api_Task.cells) rfl rfl rfl rfl rfl hb31412)) ?_
    refine rA 7 [6] ?_
    refine DT 7 [] rfl rfl (v:=I ((gt a680.T v683).Prog)) (fun _ hz=>(.load rfl rfl (.sptM (f:=api_Task.cells) hb31412 rfl) rfl)) ?_
    refine bindG h ?_
    rintro ⟨x684,x685⟩ he31415 h
    refine .cP (r24_Full_sc a679.Progs ((gt a680.T v683).Prog) _ he31415) 8 ?_
    refine rA 0 (up 9 5) ?_
    refine DAny.nil (by kernel_rfl) ?_
    refine .go 2 ?_
    refine .ifC h (fun hc31416 h=>?_) (fun hc31416 h=>?_)
    ·refine .go 3 ?_
     replace h:=inr_out h hr31408
     cases h
     exact retF
    ·refine .go 0 ?_
     refine Safe.regionD (n:=13) [] [] E_good mixed rfl ?_
     refine rA 6 (up 0 7) ?_
     refine okG h (fun hb31417 h=>?_)
     refine DT 7 [] rfl rfl (v:=V.spt 11 (rws api_Task.cells a680.T) (Int.toNat v683) 0) (fun _ hz=>(.idxSlM (f:=api_Task.cells) rfl rfl rfl rfl rfl hb31417)) ?_
     refine DT 8 [] rfl rfl (v:=V.agg [I ((gt a680.T v683).Id),I ((gt a680.T v683).Tenant),I ((gt a680.T v683).Prog),I ((gt a680.T v683).Pc),I ((gt a680.T v683).Unit),I ((gt a680.T v683).Keeps.a0),I ((gt a680.T v683).Keeps.a1),I ((gt a680.T v683).Keeps.a2),I ((gt a680.T v683).Keeps.a3),I ((gt a680.T v683).State),I ((gt a680.T v683).Ran)]) (fun _ hz=>(.load rfl rfl (.sptM (f:=api_Task.cells) hb31417 rfl) rfl)) ?_
     refine bindG h ?_
     intro x686 he31419 h
     refine DT 9 [] rfl rfl (v:=I x686) (fun _ hz=>(.callS rfl (.cons (.free rfl) (.cons (.full (hz _ _ rfl rfl) rfl) (.cons (.free rfl) .nil))) (r24_work_sc a679.Progs x681 (gt a680.T v683) _ he31419) (.plain rfl) rfl)) ?_
     refine rA 0 (up 10 3) ?_
     refine DAny.nil (by kernel_rfl) ?_
     refine .go 2 ?_
     exact lpK ⟨_,next_out h,covA⟩
  ·refine .go 0 ?_
   replace h:=inr_out h hr31408
   refine .go 2 ?_
   refine .ifC h (fun hc31420 h=>?_) (fun hc31420 h=>?_)
   ·refine .go 2 ?_
    cases h
    exact retF
   ·refine .go 3 ?_
    cases h
    exact retF
theorem calc_size_sc (a688:Int) (r:Int) (h:calc_size a688=r):SC Tryz.prog gl 100 [I a688] (V.int .u64 r):=by
 rw [calc_size] at h
 refine SC.go Tryz.func100 Tryz.call100 3 ?_
 refine .ifC h (fun hc31436 h=>?_) (fun hc31436 h=>?_)
 ·refine .go 4 ?_
  cases h
  exact retF
 ·refine .go 3 ?_
  cases h
  exact retF
theorem math_bits_Mul64_sc (a689:Int) (a690:Int) (r:Int×Int) (h:math_bits_Mul64 a689 a690=r):SC Tryz.prog gl 99 [V.int .u64 a689,V.int .u64 a690] (V.tup [V.int .u64 r.1,V.int .u64 r.2]):=by
 rw [math_bits_Mul64] at h
 refine SC.go Tryz.func99 Tryz.call99 6 ?_
 refine Q0 E_good rfl (v:=V.int .u64 (Int.fdiv a689 (2 ^ (min (Int.toNat 32) IntKind.u64.bits)))) (.shrV rfl rfl (by decide)) ?_
 refine .go 5 ?_
 refine Q0 E_good rfl (v:=V.int .u64 (Int.fdiv a690 (2 ^ (min (Int.toNat 32) IntKind.u64.bits)))) (.shrV rfl rfl (by decide)) ?_
 refine .go 9 ?_
 refine Q0 E_good rfl (v:=V.int .u64 (Int.fdiv (IntKind.u64.wrap ((IntKind.u64.wrap (BitVec.ofInt IntKind.u64.bits a689 &&& BitVec.ofInt IntKind.u64.bits 4294967295).toNat)*(IntKind.u64.wrap (BitVec.ofInt IntKind.u64.bits a690 &&& BitVec.ofInt IntKind.u64.bits 4294967295).toNat))) (2 ^ (min (Int.toNat 32) IntKind.u64.bits)))) (.shrV rfl rfl (by decide)) ?_
 refine .go 6 ?_
 refine Q0 E_good rfl (v:=V.int .u64 (Int.fdiv (IntKind.u64.wrap ((IntKind.u64.wrap ((Int.fdiv a689 (2 ^ (min (Int.toNat 32) IntKind.u64.bits)))*(IntKind.u64.wrap (BitVec.ofInt IntKind.u64.bits a690 &&& BitVec.ofInt IntKind.u64.bits 4294967295).toNat)))+(Int.fdiv (IntKind.u64.wrap ((IntKind.u64.wrap (BitVec.ofInt IntKind.u64.bits a689 &&& BitVec.ofInt IntKind.u64.bits 4294967295).toNat)*(IntKind.u64.wrap (BitVec.ofInt IntKind.u64.bits a690 &&& BitVec.ofInt IntKind.u64.bits 4294967295).toNat))) (2 ^ (min (Int.toNat 32) IntKind.u64.bits))))) (2 ^ (min (Int.toNat 32) IntKind.u64.bits)))) (.shrV rfl rfl (by decide)) ?_
 refine .go 13 ?_
 refine Q0 E_good rfl (v:=V.int .u64 (Int.fdiv (IntKind.u64.wrap ((IntKind.u64.wrap (BitVec.ofInt IntKind.u64.bits (IntKind.u64.wrap ((IntKind.u64.wrap ((Int.fdiv a689 (2 ^ (min (Int.toNat 32) IntKind.u64.bits)))*(IntKind.u64.wrap (BitVec.ofInt IntKind.u64.bits a690 &&& BitVec.ofInt IntKind.u64.bits 4294967295).toNat)))+(Int.fdiv (IntKind.u64.wrap ((IntKind.u64.wrap (BitVec.ofInt IntKind.u64.bits a689 &&& BitVec.ofInt IntKind.u64.bits 4294967295).toNat)*(IntKind.u64.wrap (BitVec.ofInt IntKind.u64.bits a690 &&& BitVec.ofInt IntKind.u64.bits 4294967295).toNat))) (2 ^ (min (Int.toNat 32) IntKind.u64.bits))))) &&& BitVec.ofInt IntKind.u64.bits 4294967295).toNat)+(IntKind.u64.wrap ((IntKind.u64.wrap (BitVec.ofInt IntKind.u64.bits a689 &&& BitVec.ofInt IntKind.u64.bits 4294967295).toNat)*(Int.fdiv a690 (2 ^ (min (Int.toNat 32) IntKind.u64.bits))))))) (2 ^ (min (Int.toNat 32) IntKind.u64.bits)))) (.shrV rfl rfl (by decide)) ?_
 refine .go 6 ?_
 cases h
 exact retF
theorem okT106:(eqOk Tryz.prog E 20 106&&!Tryz.prog.eqGuardType Tryz.prog.depth 106)=true:=by kernel_rfl
theorem calc_times_sc (a691:Int) (a692:Int) (r:calc_wide) (h:calc_times a691 a692=r):SC Tryz.prog gl 51 [I a691,I a692] (V.agg (calc_wide.cells r)):=by
 rw [calc_times] at h
 refine SC.go Tryz.func51 Tryz.call51 2 ?_
 refine .cP (calc_size_sc a691 _ rfl) ?_
 refine .go 1 ?_
 refine .cP (calc_size_sc a692 _ rfl) ?_
 refine letG h ?_
 rintro ⟨x693,x694⟩ he31445 h
 refine .cP (math_bits_Mul64_sc (calc_size a691) (calc_size a692) _ he31445) ?_
 refine .go 13 ?_
 refine SafeOps.bjoinL 4 24 20 rfl (b:=((!((decide (a691 < 0))==(decide (a692 < 0))))&&(!(calc_wide.beq (calc_wide.mk false x693 x694) calc_wide.zero)))) (b1:=(!(calc_wide.beq (calc_wide.mk false x693 x694) calc_wide.zero))) (b0:=false) (fun hc31446 K=>?_) (fun hc31446 K=>?_) bj_and ?_
 ·refine .go 2 ?_
  refine Q0 E_good rfl (v:=V.bool (!(calc_wide.beq (calc_wide.mk false x693 x694) calc_wide.zero))) (.neA rfl rfl rfl rfl okT106 rfl) ?_
  refine rO 1 ?_
  exact SafeOps.drop' 4 rfl rfl rfl K
 ·refine rO 4 ?_
  exact SafeOps.drop' 4 rfl rfl rfl K
 refine .go 4 ?_
 cases h
 exact retF
theorem calc_Mul_sc (a695:Int) (a696:Int) (r:Int×Int) (h:calc_Mul a695 a696=r):SC Tryz.prog gl 25 [I a695,I a696] (V.tup [I r.1,I r.2]):=by
 rw [calc_Mul] at h
 refine SC.go Tryz.func25 Tryz.call25 4 ?_
 refine letG h ?_
 intro x697 he31455 h
 refine .cP (calc_times_sc a695 a696 _ he31455) ?_
 refine .go 5 ?_
 refine .joinS (fun(v698:Int)=>calc_Mul_j1 a695 a696 x697 v698=r) (fun(v698:Int)=>⟨Tryz.f25.ntmps,[(0,I a695),(1,I a696),(6,V.ptr [6] 0 0),(7,V.int .u64 v698)],[([6],Obj.box x697.cells)],[],[]⟩) ?_ (fun HJ31457=>?_)
 ·intro v698 h
  rw [calc_Mul_j1] at h
  refine .go 4 ?_
  refine .bjO 5 23 18 ?_
  refine .go 0 ?_
  refine .ifC h (fun hc31459 h=>?_) (fun hc31459 h=>?_)
  ·refine .go 2 ?_
   cases h
   exact retF
  ·refine .go 5 ?_
   cases h
   exact retF
 ·refine .ifC h (fun hc31460 h=>?_) (fun hc31460 h=>?_)
  ·refine .go 3 ?_
   exact .got (HJ31457 (9223372036854775808) h) covA
  ·refine .go 0 ?_
   exact .got (HJ31457 (9223372036854775807) h) covA
theorem drain_Bound_sc (a699:api_Config) (a700:api_World) (r:Int×Int) (h:drain_Bound a699 a700=some r):SC Tryz.prog gl 12 [V.agg a699.cells,V.agg a700.cells] (V.tup [I r.1,I r.2]):=by
 rw [drain_Bound] at h
 refine SC.go Tryz.func12 Tryz.call12 6 ?_
 refine bindG h ?_
 rintro ⟨x701,x702⟩ he31468 h
 refine .cP (drain_Work_sc a699 a700 _ he31468) ?_
 refine .go 7 ?_
 refine .ifC h (fun hc31469 h=>?_) (fun hc31469 h=>?_)
 ·refine .go 3 ?_
  cases h
  exact retF
 ·refine .go 9 ?_
  refine letG h ?_
  rintro ⟨x703,x704⟩ he31472 h
  refine .cP (calc_Mul_sc (IntKind.i64.wrap (x701+2)) (IntKind.i64.wrap (64*(IntKind.i64.wrap ((IntKind.i64.wrap (a699.Workers+a699.Cap))+4)))) _ he31472) ?_
  refine .go 8 ?_
  refine .bjO 3 36 33 ?_
  refine .go 0 ?_
  refine .ifC h (fun hc31474 h=>?_) (fun hc31474 h=>?_)
  ·refine .go 2 ?_
   cases h
   exact retF
  ·refine .go 3 ?_
   cases h
   exact retF
theorem r24_Bound_sc (a705:api_Config) (a706:api_World) (r:Int×Int) (h:r24_Bound a705 a706=some r):SC Tryz.prog gl 13 [V.agg a705.cells,V.agg a706.cells] (V.tup [I r.1,I r.2]):=by
 rw [r24_Bound] at h
 refine SC.go Tryz.func13 Tryz.call13 6 ?_
 refine bindG h ?_
 rintro ⟨x707,x708⟩ he31488 h
 refine .cP (r24_Work_sc a705 a706 _ he31488) ?_
 refine .go 7 ?_
 refine .ifC h (fun hc31489 h=>?_) (fun hc31489 h=>?_)
 ·refine .go 3 ?_
  cases h
  exact retF
 ·refine .go 11 ?_
  refine okG h (fun hb31490 h=>?_)
  refine Q0 E_good rfl (v:=I (IntKind.i64.wrap (Int.tdiv 1152921504606846976 (IntKind.i64.wrap (64*(IntKind.i64.wrap ((IntKind.i64.wrap (a705.Workers+a705.Cap))+4))))))) (.quoV rfl rfl hb31490) ?_
  refine .go 1 ?_
  refine .ifC h (fun hc31491 h=>?_) (fun hc31491 h=>?_)
  ·refine .go 2 ?_
   cases h
   exact retF
  ·refine .go 6 ?_
   cases h
   exact retF
theorem r24_Rest_sc (a709:api_World) (r:Bool) (h:r24_Rest a709=some r):SC Tryz.prog gl 15 [V.agg a709.cells] (V.bool r):=by
 rw [r24_Rest] at h
 refine SC.go Tryz.func15 Tryz.call15 5 ?_
 refine .len ?_
 refine .go 1 ?_
 refine Safe.loopS (fun(v710:Int)=>⟨Tryz.f15.ntmps,[(1,V.ptr [1] 0 0),(7,V.sl 1 (rws (fun b=>[V.bool b]) a709.Ids.Live)),(8,I (a709.Ids.Live.length:Int)),(9,I v710)],[([1],Obj.box a709.cells)],[],[]⟩) h covA ?_
 intro v710 ohr31611 h hr31611
 rw [r24_Rest_s3] at h
 refine .go 1 ?_
 refine .ifC h (fun hc31612 h=>?_) (fun hc31612 h=>?_)
 ·refine .go 1 ?_
  refine okG h (fun hb31613 h=>?_)
  refine .ix hb31613 ?_
  refine .ld hb31613 ?_
  refine .go 4 ?_
  refine SafeOps.ifD 15 h rfl (fun hc31614 h=>?_) (fun hc31614 h=>?_)
  ·refine .go 3 ?_
   refine .len ?_
   refine .go 2 ?_
   refine SafeOps.bsplit 8 29 (fun b711=>r24_Rest_j4 a709 v710 b711=some ohr31611) (fun HJ31626=>?_) (fun b711 h=>?_)
   ·refine SafeOps.ifD 21 h rfl (fun hc31623 h=>?_) (fun hc31623 h=>?_)
    ·refine rO 8 ?_
     exact SafeOps.drop' 8 rfl rfl rfl (SafeOps.unk 21 rfl hc31623 (HJ31626 _ h))
    ·refine .go 3 ?_
     refine okG h (fun hb31631 h=>?_)
     refine .ix hb31631 ?_
     refine .go 1 ?_
     refine .ld hb31631 ?_
     refine rO 2 ?_
     exact SafeOps.drop' 8 rfl rfl rfl (SafeOps.unk 21 rfl hc31623 (HJ31626 _ h))
   ·replace h:r24_Rest_j4 a709 v710 b711=some ohr31611:=h
    rw [r24_Rest_j4] at h
    refine .go 1 ?_
    refine SafeOps.ifD 30 h rfl (fun hc31627 h=>?_) (fun hc31627 h=>?_)
    ·refine .go 11 ?_
     replace h:=inr_out h hr31611
     cases h
     exact retF
    ·refine .go 3 ?_
     refine okG h (fun hb31629 h=>?_)
     refine .ix hb31629 ?_
     refine .go 1 ?_
     refine .ld hb31629 ?_
     refine .go 3 ?_
     refine .ifC h (fun hc31630 h=>?_) (fun hc31630 h=>?_)
     ·refine .go 1 ?_
      replace h:=inr_out h hr31611
      cases h
      exact retF
     ·refine .go 2 ?_
      exact lpK ⟨_,next_out h,covA⟩
  ·refine .go 27 ?_
   exact lpK ⟨_,next_out h,covA⟩
 ·refine .go 0 ?_
  replace h:=inr_out h hr31611
  refine .go 1 ?_
  cases h
  exact retF
theorem w24_DrainTells_sc (a712:List (List api_Instr)) (a713:Int) (a714:api_Config) (a715:api_World) (r:Bool) (h:w24_DrainTells a712 a713 a714 a715=some r):SC Tryz.prog gl 3 [V.sl 1 (rws (fun l=>[V.sl 3 (rws api_Instr.cells l)]) a712),I a713,V.agg a714.cells,V.agg a715.cells] (V.bool r):=by
 rw [w24_DrainTells] at h
 refine SC.go Tryz.func3 Tryz.call3 3 ?_
 refine bindG h ?_
 intro x716 he31637 h
 refine .cP (w24_live_sc  _ he31637) ?_
 refine .go 2 ?_
 refine bindG h ?_
 intro x733 he31639 h
 refine .cP (r04_Few_sc a712 _ he31639) ?_
 refine .go 2 ?_
 refine SafeOps.bsplit 4 30 (fun b717=>w24_DrainTells_j1 a712 a713 a714 a715 x716 b717=some r) (fun HJ31644=>?_) (fun b717 h=>?_)
 ·refine SafeOps.ifD 26 h rfl (fun hc31640 h=>?_) (fun hc31640 h=>?_)
  ·refine rO 4 ?_
   exact SafeOps.drop' 4 rfl rfl rfl (SafeOps.unk 26 rfl hc31640 (HJ31644 _ h))
  ·refine .go 1 ?_
   refine bindG h ?_
   intro x734 he31681 h
   refine .cP (r19_FewConfig_sc a714 _ he31681) ?_
   refine rO 2 ?_
   exact SafeOps.drop' 4 rfl rfl rfl (SafeOps.unk 26 rfl hc31640 (HJ31644 _ h))
 ·replace h:w24_DrainTells_j1 a712 a713 a714 a715 x716 b717=some r:=h
  rw [w24_DrainTells_j1] at h
  refine .go 1 ?_
  refine SafeOps.ifD 31 h rfl (fun hc31645 h=>?_) (fun hc31645 h=>?_)
  ·refine .go 7 ?_
   cases h
   exact retF
  ·refine .go 1 ?_
   refine bindG h ?_
   intro x718 he31649 h
   refine .cP (r20_Few_sc a715 _ he31649) ?_
   refine .go 2 ?_
   refine .ifC h (fun hc31650 h=>?_) (fun hc31650 h=>?_)
   ·refine .go 2 ?_
    cases h
    exact retF
   ·refine .go 2 ?_
    refine bindG h ?_
    rintro ⟨x719,x720⟩ he31653 h
    refine .cP (drain_Full_sc a712 a713 _ he31653) ?_
    refine .go 7 ?_
    refine bindG h ?_
    rintro ⟨x721,x722⟩ he31656 h
    refine .cP (r24_Full_sc a712 a713 _ he31656) ?_
    refine .go 7 ?_
    refine bindG h ?_
    rintro ⟨x723,x724⟩ he31659 h
    refine .cP (drain_Work_sc a714 a715 _ he31659) ?_
    refine .go 7 ?_
    refine bindG h ?_
    rintro ⟨x725,x726⟩ he31662 h
    refine .cP (r24_Work_sc a714 a715 _ he31662) ?_
    refine .go 7 ?_
    refine bindG h ?_
    rintro ⟨x727,x728⟩ he31665 h
    refine .cP (drain_Bound_sc a714 a715 _ he31665) ?_
    refine .go 7 ?_
    refine bindG h ?_
    rintro ⟨x729,x730⟩ he31668 h
    refine .cP (r24_Bound_sc a714 a715 _ he31668) ?_
    refine .go 5 ?_
    refine Safe.regionD (n:=39) [] [] E_good mixed rfl ?_
    refine rA 37 [0,1] ?_
    refine DAny.ifD 74 h rfl (fun hc31669 h=>?_) (fun hc31669 h=>?_)
    ·refine rA 32 (up 2 5) ?_
     refine DAny.ifD 79 h rfl (fun hc31670 h=>?_) (fun hc31670 h=>?_)
     ·refine rA 27 (up 7 5) ?_
      refine DAny.ifD 84 h rfl (fun hc31671 h=>?_) (fun hc31671 h=>?_)
      ·refine rA 22 (up 12 5) ?_
       refine DAny.ifD 89 h rfl (fun hc31672 h=>?_) (fun hc31672 h=>?_)
       ·refine rA 17 (up 17 5) ?_
        refine DAny.ifD 94 h rfl (fun hc31673 h=>?_) (fun hc31673 h=>?_)
        ·refine rA 12 (up 22 5) ?_
         refine DAny.ifD 99 h rfl (fun hc31674 h=>?_) (fun hc31674 h=>?_)
         ·refine rA 7 (up 27 5) ?_
          refine DAny.ifD 104 h rfl (fun hc31675 h=>?_) (fun hc31675 h=>?_)
          ·refine rA 6 [32] ?_
           refine bindG h ?_
           intro x731 he31677 h
           refine .cP (drain_Rest_sc a715 _ he31677) 33 ?_
           refine rA 4 [34] ?_
           refine bindG h ?_
           intro x732 he31679 h
           refine .cP (r24_Rest_sc a715 _ he31679) 35 ?_
           refine rA 0 (up 36 3) ?_
           refine DAny.nil (by kernel_rfl) ?_
           refine .go 0 ?_
           cases h
           exact retF
          ·refine rA 0 (up 32 7) ?_
           refine DAny.nil (by kernel_rfl) ?_
           refine .go 0 ?_
           cases h
           exact retF
         ·refine rA 0 (up 27 12) ?_
          refine DAny.nil (by kernel_rfl) ?_
          refine .go 0 ?_
          cases h
          exact retF
        ·refine rA 0 (up 22 17) ?_
         refine DAny.nil (by kernel_rfl) ?_
         refine .go 0 ?_
         cases h
         exact retF
       ·refine rA 0 (up 17 22) ?_
        refine DAny.nil (by kernel_rfl) ?_
        refine .go 0 ?_
        cases h
        exact retF
      ·refine rA 0 (up 12 27) ?_
       refine DAny.nil (by kernel_rfl) ?_
       refine .go 0 ?_
       cases h
       exact retF
     ·refine rA 0 (up 7 32) ?_
      refine DAny.nil (by kernel_rfl) ?_
      refine .go 0 ?_
      cases h
      exact retF
    ·refine rA 0 (up 2 37) ?_
     refine DAny.nil (by kernel_rfl) ?_
     refine .go 0 ?_
     cases h
     exact retF
end Go.Proofs.YtkkimimkcchlnaaGreat
