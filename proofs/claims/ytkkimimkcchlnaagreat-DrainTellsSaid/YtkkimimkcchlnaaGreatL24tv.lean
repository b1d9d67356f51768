/- Helper lemmas for the claim's theorem: an abstract machine over the model, proved sound; no condition beyond each lemma's own. -/
import Derived.Test.YtkkimimkcchlnaaGreatL24tu
set_option linter.unusedVariables false
set_option linter.unusedSimpArgs false
set_option linter.unnecessarySimpa false
set_option linter.unusedSectionVars false
namespace Go.Proofs.YtkkimimkcchlnaaGreat
open Go Go.AM
set_option maxRecDepth 100000
set_option maxHeartbeats 1000000
set_option linter.unusedVariables false
set_option linter.unusedSimpArgs false
theorem config_progs {c:api_Config} (hc:cok c) (h:entry_Config c=some 0):ckAll c.Progs=true:=by
 unfold entry_Config at h
 split at h
 ·cases h
 ·rw [checkAll_eq hc.progs,Option.bind_some] at h
  cases hk:ckAll c.Progs with
  | true=>rfl
  | false =>
   rw [hk] at h
   simp at h
theorem check_same {c:api_Config} {w:api_World} (hc:cok c) (hp:∀p∈c.Progs,pok p) (f:fewW w) :
 ∃e,crew_Check c w=some e∧r20_Check c w=some e∧(e=0∨e=1)∧(e=0→∃ec eh out,PartsIs c w ec eh out∧anyT c w=false∧ckAll c.Progs=true∧entry_Config c=some 0):=by
 obtain ⟨ec,hc1,hc2⟩:=config_eq hc
 have hheap:∃eh,heap_Check w.Heap=some eh∧r08_Check w.Heap=some eh∧(eh=0∨eh=1):=by
  rcases check_ok w.Heap with ⟨_,a,b⟩|⟨_,a,b⟩
  ·exact ⟨0,b,a,.inl rfl⟩
  ·exact ⟨1,b,a,.inr rfl⟩
 obtain ⟨eh,hh1,hh2,_⟩:=hheap
 have no:partsB c w ec eh=false→r20_Check c w=some 1→∃e,crew_Check c w=some e∧r20_Check c w=some e∧(e=0∨e=1)∧(e=0→∃ec eh out,PartsIs c w ec eh out∧anyT c w=false∧ckAll c.Progs=true∧entry_Config c=some 0):=fun h1 h2 =>
  ⟨1,crew_no hc1 hh1 f h1,h2,.inr rfl,fun h=>by cases h⟩
 have bad:(∀out,¬PartsIs c w ec eh out)→partsB c w ec eh=false:=fun h=>by
  cases hb:partsB c w ec eh with
  | false=>rfl
  | true=>obtain ⟨out,ho⟩:=parts_iff.1 hb;exact absurd ho (h out)
 have one:(∀out,PartsIs c w ec eh out→(anyT c w||(anyL w out||anyW c w))=true)→r20_Check c w=some 1→∃e,crew_Check c w=some e∧r20_Check c w=some e∧(e=0∨e=1)∧(e=0→∃ec eh out,PartsIs c w ec eh out∧anyT c w=false∧ckAll c.Progs=true∧entry_Config c=some 0):=fun h1 h2=>by
  cases hb:partsB c w ec eh with
  | false=>exact no hb h2
  | true =>
   obtain ⟨out,ho⟩:=parts_iff.1 hb
   refine ⟨1,?_,h2,.inr rfl,fun h=>by cases h⟩
   rw [crew_yes hp hc1 hh1 f ho,h1 out ho];rfl
 have hr0:r20_Check c w=if (((((ec != 0)||(decide (w.Now < 0)))||(decide (w.Now > 1125899906842624)))||((r03_Check w.Dice) != 0))||(decide ((w.Seen.length:Int) > 65536)))=true then some 1 else (r20_tasks c w).bind fun x=>r20_Check_j1 c w (!x):=by
  unfold r20_Check
  rw [hc2,Option.bind_some,j1t]
 by_cases hK:(((((ec != 0)||(decide (w.Now < 0)))||(decide (w.Now > 1125899906842624)))||((r03_Check w.Dice) != 0))||(decide ((w.Seen.length:Int) > 65536)))=true
 ·rw [if_pos hK] at hr0
  refine no (bad fun out h=>?_) hr0
  have h1:=h.r1;have h2:=h.r2;have h3:=h.e1;have h4:=h.e2
  rw [dice_same] at h4
  simp only [Bool.or_eq_true,decide_eq_true_eq,bne_iff_ne,ne_eq] at hK
  omega
 ·rw [if_neg hK] at hr0
  simp only [Bool.or_eq_true,decide_eq_true_eq,bne_iff_ne,ne_eq,not_or,Classical.not_not] at hK
  rw [rtasks_eq hp,Option.bind_some] at hr0
  cases ht:(ckSlot w.Ids&&(((w.Ids.Gen.length:Int)==c.Tasks)&&(((w.T.length:Int)==c.Tasks)&&!(List.range w.T.length).any (badT c w)))) with
  | false =>
   rw [ht,Bool.not_false,j1t] at hr0
   refine one (fun out h=>?_) hr0
   have e1:((w.Ids.Gen.length:Int)==c.Tasks)=true:=by simpa using h.n0
   have e2:((w.T.length:Int)==c.Tasks)=true:=by simpa using h.n1
   rw [h.e3,e1,e2,Bool.true_and,Bool.true_and,Bool.true_and,Bool.not_eq_false'] at ht
   unfold anyT
   rw [ht];rfl
  | true =>
   rw [ht,Bool.not_true,r20_Check_j1,if_neg (by simp)] at hr0
   simp only [Bool.and_eq_true,beq_iff_eq,Bool.not_eq_true'] at ht
   obtain ⟨t1,t2,t3,t4⟩:=ht
   have hsl:=ckSlot_is t1
   have hT:w.T.length=w.Ids.Gen.length:=by omega
   have badL1:(okC w.Lists=none∨(∃out,okC w.Lists=some out∧¬((w.Lists.Next.length:Int)=c.Tasks∧out.length=c.Weights.length)))→∀out,¬PartsIs c w ec eh out:=fun h out ho=>by
    rcases h with h|⟨o,h,h2⟩
    ·rw [ho.e4] at h;cases h
    ·rw [ho.e4] at h;cases h
     have h5:=(okC_is ho.e4).2.2.2.2.1
     have h6:=ho.n2;have h7:=ho.n3
     exact h2 ⟨h6,by omega⟩
   by_cases hL:okC w.Lists=none∨(∃out,okC w.Lists=some out∧¬((w.Lists.Next.length:Int)=c.Tasks∧out.length=c.Weights.length))
   ·rw [rlists_no hL,Option.bind_some,if_pos (by simp)] at hr0
    exact no (bad (badL1 hL)) hr0
   ·rw [not_or] at hL
    obtain ⟨hL1,hL2⟩:=hL
    obtain ⟨out,hout⟩:=Option.ne_none_iff_exists'.1 hL1
    have hL3:(w.Lists.Next.length:Int)=c.Tasks∧out.length=c.Weights.length:=Classical.byContradiction fun h=>hL2 ⟨out,hout,h⟩
    have same:∀o,PartsIs c w ec eh o→o=out:=fun o h=>by have:=h.e4;rw [hout] at this;cases this;rfl
    rw [rlists_eq hout hL3.1 hL3.2 (by omega) (by omega),Option.bind_some] at hr0
    cases hl:(List.range out.length).any (fun t=>(gt out (t:Int)).any (badL w (t:Int))) with
    | true =>
     rw [hl,Bool.not_true,if_pos (by simp)] at hr0
     refine one (fun o h=>?_) hr0
     obtain rfl:=same o h
     have:anyL w o=true:=hl
     rw [this];simp
    | false =>
     rw [hl,Bool.not_false,if_neg (by simp)] at hr0
     have hlo:=(okC_is hout).2.2.2.2.1
     by_cases hm:(w.Mem.length:Int)=(IntKind.i64.wrap (c.Workers*(IntKind.i64.wrap (c.Cap+2))))
     ·rw [if_neg (by simpa using hm),rten_eq,Option.bind_some,ite01] at hr0
      cases h5:ckTen w.Ten with
      | false =>
       rw [h5,Bool.not_false,j2t] at hr0
       exact no (bad fun o h=>by rw [h.e5] at h5;cases h5) hr0
      | true =>
       rw [h5,Bool.not_true,r20_Check_j2] at hr0
       by_cases h6:(w.Ten.length:Int)=(c.Weights.length:Int)
       ·rw [if_neg (by simpa using h6),hh2,Option.bind_some] at hr0
        by_cases h7:eh=0
        ·have e7:(eh != 0)=false:=by simpa using h7
         rw [e7,r20_Check_j3,if_neg (by simp),rfds_eq,Option.bind_some,ite01] at hr0
         cases h8:ckFds w.Fds with
         | false =>
          rw [h8,Bool.not_false,j4t] at hr0
          exact no (bad fun o h=>by rw [h.e7] at h8;cases h8) hr0
         | true =>
          rw [h8,Bool.not_true,r20_Check_j4] at hr0
          by_cases h9:(w.Fds.length:Int)=c.Fds∧(w.Sems.length:Int)=(c.Sems.length:Int)
          ·rw [if_neg (by simp [h9.1,h9.2]),rjoins_eq,Option.bind_some,ite01] at hr0
           cases h10:ckJ w.Joins with
           | false =>
            rw [h10,Bool.not_false,j5t] at hr0
            exact no (bad fun o h=>by rw [h.e8] at h10;cases h10) hr0
           | true =>
            rw [h10,Bool.not_true,r20_Check_j5,if_neg (by simp),ridle_eq,Option.bind_some,ite01] at hr0
            cases h11:ckIdle w.Idle with
            | false =>
             rw [h11,Bool.not_false,j6t] at hr0
             exact no (bad fun o h=>by rw [h.e9] at h11;cases h11) hr0
            | true =>
             rw [h11,Bool.not_true,r20_Check_j6] at hr0
             by_cases h12:(w.Idle.Is.length:Int)=c.Workers∧(w.W.length:Int)=c.Workers
             ·rw [if_neg (by simp [h12.1,h12.2]),ref_sems f.sems] at hr0
              cases h13:(w.Sems.any fun s=>!ckSem s) with
              | true =>
               rw [h13,if_pos rfl] at hr0
               exact no (bad fun o h=>by rw [h.r3] at h13;cases h13) hr0
              | false =>
               have hws:=f.ws
               rw [h13,if_neg (by simp),ref_workers t1 hT (by omega) (by omega)] at hr0
               have hPI:PartsIs c w ec eh out:=⟨hK.1.1.1.1,by rw [dice_same];exact hK.1.2,t1,hout,h5,h7,h8,h10,h11,t2,t3,hL3.1,by omega,hm,h6,h9.1,h9.2,h12.1,h12.2,by omega,by omega,h13⟩
               have hcv:=crew_yes hp hc1 hh1 f hPI
               have ha:anyT c w=false:=t4
               have hb:anyL w out=false:=hl
               rw [ha,hb,Bool.false_or,Bool.false_or] at hcv
               refine ⟨_,hcv,hr0,by cases anyW c w<;>simp,fun _=>⟨ec,eh,out,hPI,ha,config_progs hc (by rw [hc1,hPI.e1]),by rw [hc1,hPI.e1]⟩⟩
             ·rw [if_pos] at hr0
              ·exact no (bad fun o h=>h12 ⟨h.n8,h.n9⟩) hr0
              ·simp only [Bool.false_or,Bool.or_eq_true,bne_iff_ne,ne_eq];omega
          ·rw [if_pos] at hr0
           ·rw [j5t] at hr0
            exact no (bad fun o h=>h9 ⟨h.n6,h.n7⟩) hr0
           ·simp only [Bool.false_or,Bool.or_eq_true,bne_iff_ne,ne_eq];omega
        ·have e7:(eh != 0)=true:=by simpa using h7
         rw [e7,j3t] at hr0
         exact no (bad fun o h=>h7 h.e6) hr0
       ·rw [if_pos (by simpa using h6),j3t] at hr0
        exact no (bad fun o h=>h6 h.n5) hr0
     ·rw [if_pos (by simpa using hm),j2t] at hr0
      exact no (bad fun o h=>hm h.n4) hr0
end Go.Proofs.YtkkimimkcchlnaaGreat
