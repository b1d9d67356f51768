/- Helper lemmas for the claim's theorem: an abstract machine over the model, proved sound; no condition beyond each lemma's own. -/
import Derived.Test.YtmlcinmdkhmjhaaGreatL20cu
import Derived.Test.YtmlcinmdkhmjhaaGreatAmM
set_option linter.unusedVariables false
set_option linter.unusedSimpArgs false
set_option linter.unnecessarySimpa false
set_option linter.unusedSectionVars false
namespace Go.Proofs.YtmlcinmdkhmjhaaGreat
open Go Go.AM
set_option maxRecDepth 100000
set_option maxHeartbeats 1000000
set_option linter.unusedVariables false
set_option linter.unusedSimpArgs false
theorem config_progs {c:api_Config} (hc:cok c) (h:entry_Config c=some 0):ckAll c.Progs=true:=by
 unfold entry_Config at h
 split at h
 ·cases h
 ·rw [checkAll_eq hc.progs,Option.bind_some] at h
  cases hk:ckAll c.Progs with
  | true=>rfl
  | false =>
   rw [hk] at h
   simp at h
theorem check_same {c:api_Config} {w:api_World} (hc:cok c) (hp:∀p∈c.Progs,pok p) (f:fewW w) :
 ∃e,crew_Check c w=some e∧r20_Check c w=some e∧(e=0∨e=1)∧(e=0→∃ec eh out,PartsIs c w ec eh out∧anyT c w=false∧ckAll c.Progs=true∧entry_Config c=some 0):=by
 obtain ⟨ec,hc1,hc2⟩:=config_eq hc
 have hheap:∃eh,heap_Check w.Heap=some eh∧r08_Check w.Heap=some eh∧(eh=0∨eh=1):=by
  rcases check_ok w.Heap with ⟨_,a,b⟩|⟨_,a,b⟩
  ·exact ⟨0,b,a,.inl rfl⟩
  ·exact ⟨1,b,a,.inr rfl⟩
 obtain ⟨eh,hh1,hh2,_⟩:=hheap
 have no:partsB c w ec eh=false→r20_Check c w=some 1→∃e,crew_Check c w=some e∧r20_Check c w=some e∧(e=0∨e=1)∧(e=0→∃ec eh out,PartsIs c w ec eh out∧anyT c w=false∧ckAll c.Progs=true∧entry_Config c=some 0):=fun h1 h2 =>
  ⟨1,crew_no hc1 hh1 f h1,h2,.inr rfl,fun h=>by cases h⟩
 have bad:(∀out,¬PartsIs c w ec eh out)→partsB c w ec eh=false:=fun h=>by
  cases hb:partsB c w ec eh with
  | false=>rfl
  | true=>obtain ⟨out,ho⟩:=parts_iff.1 hb;exact absurd ho (h out)
 have one:(∀out,PartsIs c w ec eh out→(anyT c w||(anyL w out||anyW c w))=true)→r20_Check c w=some 1→∃e,crew_Check c w=some e∧r20_Check c w=some e∧(e=0∨e=1)∧(e=0→∃ec eh out,PartsIs c w ec eh out∧anyT c w=false∧ckAll c.Progs=true∧entry_Config c=some 0):=fun h1 h2=>by
  cases hb:partsB c w ec eh with
  | false=>exact no hb h2
  | true =>
   obtain ⟨out,ho⟩:=parts_iff.1 hb
   refine ⟨1,?_,h2,.inr rfl,fun h=>by cases h⟩
   rw [crew_yes hp hc1 hh1 f ho,h1 out ho];rfl
 have hr0:r20_Check c w=if (((((ec != 0)||(decide (w.Now < 0)))||(decide (w.Now > 1125899906842624)))||((r03_Check w.Dice) != 0))||(decide ((w.Seen.length:Int) > 65536)))=true then some 1 else (r20_tasks c w).bind fun x=>r20_Check_j1 c w (!x):=by
  unfold r20_Check
  rw [hc2,Option.bind_some,j1t]
 by_cases hK:(((((ec != 0)||(decide (w.Now < 0)))||(decide (w.Now > 1125899906842624)))||((r03_Check w.Dice) != 0))||(decide ((w.Seen.length:Int) > 65536)))=true
 ·rw [if_pos hK] at hr0
  refine no (bad fun out h=>?_) hr0
  have h1:=h.r1;have h2:=h.r2;have h3:=h.e1;have h4:=h.e2
  rw [dice_same] at h4
  simp only [Bool.or_eq_true,decide_eq_true_eq,bne_iff_ne,ne_eq] at hK
  omega
 ·rw [if_neg hK] at hr0
  simp only [Bool.or_eq_true,decide_eq_true_eq,bne_iff_ne,ne_eq,not_or,Classical.not_not] at hK
  rw [rtasks_eq hp,Option.bind_some] at hr0
  cases ht:(ckSlot w.Ids&&(((w.Ids.Gen.length:Int)==c.Tasks)&&(((w.T.length:Int)==c.Tasks)&&!(List.range w.T.length).any (badT c w)))) with
  | false =>
   rw [ht,Bool.not_false,j1t] at hr0
   refine one (fun out h=>?_) hr0
   have e1:((w.Ids.Gen.length:Int)==c.Tasks)=true:=by simpa using h.n0
   have e2:((w.T.length:Int)==c.Tasks)=true:=by simpa using h.n1
   rw [h.e3,e1,e2,Bool.true_and,Bool.true_and,Bool.true_and,Bool.not_eq_false'] at ht
   unfold anyT
   rw [ht];rfl
  | true =>
   rw [ht,Bool.not_true,r20_Check_j1,if_neg (by simp)] at hr0
   simp only [Bool.and_eq_true,beq_iff_eq,Bool.not_eq_true'] at ht
   obtain ⟨t1,t2,t3,t4⟩:=ht
   have hsl:=ckSlot_is t1
   have hT:w.T.length=w.Ids.Gen.length:=by omega
   have badL1:(okC w.Lists=none∨(∃out,okC w.Lists=some out∧¬((w.Lists.Next.length:Int)=c.Tasks∧out.length=c.Weights.length)))→∀out,¬PartsIs c w ec eh out:=fun h out ho=>by
    rcases h with h|⟨o,h,h2⟩
    ·rw [ho.e4] at h;cases h
    ·rw [ho.e4] at h;cases h
     have h5:=(okC_is ho.e4).2.2.2.2.1
     have h6:=ho.n2;have h7:=ho.n3
     exact h2 ⟨h6,by omega⟩
   by_cases hL:okC w.Lists=none∨(∃out,okC w.Lists=some out∧¬((w.Lists.Next.length:Int)=c.Tasks∧out.length=c.Weights.length))
   ·rw [rlists_no hL,Option.bind_some,if_pos (by simp)] at hr0
    exact no (bad (badL1 hL)) hr0
   ·rw [not_or] at hL
    obtain ⟨hL1,hL2⟩:=hL
    obtain ⟨out,hout⟩:=Option.ne_none_iff_exists'.1 hL1
    have hL3:(w.Lists.Next.length:Int)=c.Tasks∧out.length=c.Weights.length:=Classical.byContradiction fun h=>hL2 ⟨out,hout,h⟩
    have same:∀o,PartsIs c w ec eh o→o=out:=fun o h=>by have:=h.e4;rw [hout] at this;cases this;rfl
    rw [rlists_eq hout hL3.1 hL3.2 (by omega) (by omega),Option.bind_some] at hr0
    cases hl:(List.range out.length).any (fun t=>(gt out (t:Int)).any (badL w (t:Int))) with
    | true =>
     rw [hl,Bool.not_true,if_pos (by simp)] at hr0
     refine one (fun o h=>?_) hr0
     obtain rfl:=same o h
     have:anyL w o=true:=hl
     rw [this];simp
    | false =>
     rw [hl,Bool.not_false,if_neg (by simp)] at hr0
     have hlo:=(okC_is hout).2.2.2.2.1
     by_cases hm:(w.Mem.length:Int)=(IntKind.i64.wrap (c.Workers*(IntKind.i64.wrap (c.Cap+2))))
     ·rw [if_neg (by simpa using hm),rten_eq,Option.bind_some,ite01] at hr0
      cases h5:ckTen w.Ten with
      | false =>
       rw [h5,Bool.not_false,j2t] at hr0
       exact no (bad fun o h=>by rw [h.e5] at h5;cases h5) hr0
      | true =>
       rw [h5,Bool.not_true,r20_Check_j2] at hr0
       by_cases h6:(w.Ten.length:Int)=(c.Weights.length:Int)
       ·rw [if_neg (by simpa using h6),hh2,Option.bind_some] at hr0
        by_cases h7:eh=0
        ·have e7:(eh != 0)=false:=by simpa using h7
         rw [e7,r20_Check_j3,if_neg (by simp),rfds_eq,Option.bind_some,ite01] at hr0
         cases h8:ckFds w.Fds with
         | false =>
          rw [h8,Bool.not_false,j4t] at hr0
          exact no (bad fun o h=>by rw [h.e7] at h8;cases h8) hr0
         | true =>
          rw [h8,Bool.not_true,r20_Check_j4] at hr0
          by_cases h9:(w.Fds.length:Int)=c.Fds∧(w.Sems.length:Int)=(c.Sems.length:Int)
          ·rw [if_neg (by simp [h9.1,h9.2]),rjoins_eq,Option.bind_some,ite01] at hr0
           cases h10:ckJ w.Joins with
           | false =>
            rw [h10,Bool.not_false,j5t] at hr0
            exact no (bad fun o h=>by rw [h.e8] at h10;cases h10) hr0
           | true =>
            rw [h10,Bool.not_true,r20_Check_j5,if_neg (by simp),ridle_eq,Option.bind_some,ite01] at hr0
            cases h11:ckIdle w.Idle with
            | false =>
             rw [h11,Bool.not_false,j6t] at hr0
             exact no (bad fun o h=>by rw [h.e9] at h11;cases h11) hr0
            | true =>
             rw [h11,Bool.not_true,r20_Check_j6] at hr0
             by_cases h12:(w.Idle.Is.length:Int)=c.Workers∧(w.W.length:Int)=c.Workers
             ·rw [if_neg (by simp [h12.1,h12.2]),ref_sems f.sems] at hr0
              cases h13:(w.Sems.any fun s=>!ckSem s) with
              | true =>
               rw [h13,if_pos rfl] at hr0
               exact no (bad fun o h=>by rw [h.r3] at h13;cases h13) hr0
              | false =>
               have hws:=f.ws
               rw [h13,if_neg (by simp),ref_workers t1 hT (by omega) (by omega)] at hr0
               have hPI:PartsIs c w ec eh out:=⟨hK.1.1.1.1,by rw [dice_same];exact hK.1.2,t1,hout,h5,h7,h8,h10,h11,t2,t3,hL3.1,by omega,hm,h6,h9.1,h9.2,h12.1,h12.2,by omega,by omega,h13⟩
               have hcv:=crew_yes hp hc1 hh1 f hPI
               have ha:anyT c w=false:=t4
               have hb:anyL w out=false:=hl
               rw [ha,hb,Bool.false_or,Bool.false_or] at hcv
               refine ⟨_,hcv,hr0,by cases anyW c w<;>simp,fun _=>⟨ec,eh,out,hPI,ha,config_progs hc (by rw [hc1,hPI.e1]),by rw [hc1,hPI.e1]⟩⟩
             ·rw [if_pos] at hr0
              ·exact no (bad fun o h=>h12 ⟨h.n8,h.n9⟩) hr0
              ·simp only [Bool.false_or,Bool.or_eq_true,bne_iff_ne,ne_eq];omega
          ·rw [if_pos] at hr0
           ·rw [j5t] at hr0
            exact no (bad fun o h=>h9 ⟨h.n6,h.n7⟩) hr0
           ·simp only [Bool.false_or,Bool.or_eq_true,bne_iff_ne,ne_eq];omega
        ·have e7:(eh != 0)=true:=by simpa using h7
         rw [e7,j3t] at hr0
         exact no (bad fun o h=>h7 h.e6) hr0
       ·rw [if_pos (by simpa using h6),j3t] at hr0
        exact no (bad fun o h=>h6 h.n5) hr0
     ·rw [if_pos (by simpa using hm),j2t] at hr0
      exact no (bad fun o h=>hm h.n4) hr0
end Go.Proofs.YtmlcinmdkhmjhaaGreat
namespace Go.Proofs.YtmlcinmdkhmjhaaGreat
open Go Go.AM
theorem mul_one {y:Int} (h0:0≤y) (h1:y≤2147483648):math_bits_Mul (IntKind.u64.wrap 1) (IntKind.u64.wrap y)=(0,y):=by
 have e1:IntKind.u64.wrap 1=1:=rfl
 have ey:∀q:Int,0≤q→q≤2147483648→IntKind.u64.wrap q=q:=fun q a b=>by unfold IntKind.wrap;simp [IntKind.signed,IntKind.bits];omega
 have hand:(BitVec.ofInt IntKind.u64.bits y &&& BitVec.ofInt IntKind.u64.bits 4294967295).toNat=y.toNat:=by
  rw [BitVec.toNat_and]
  have a:(BitVec.ofInt IntKind.u64.bits 4294967295).toNat=2 ^ 32 - 1:=rfl
  have b:(BitVec.ofInt IntKind.u64.bits y).toNat=y.toNat:=by
   rw [BitVec.toNat_ofInt]
   show (y % ((2 ^ 64:Nat):Int)).toNat=y.toNat
   rw [Int.emod_eq_of_lt h0 (by omega)]
  rw [a,b,Nat.and_two_pow_sub_one_eq_mod,Nat.mod_eq_of_lt (by omega)]
 have hone:(BitVec.ofInt IntKind.u64.bits 1 &&& BitVec.ofInt IntKind.u64.bits 4294967295).toNat=1:=rfl
 have hzero:(BitVec.ofInt IntKind.u64.bits 0 &&& BitVec.ofInt IntKind.u64.bits 4294967295).toNat=0:=rfl
 have hp:(2:Int) ^ (min (Int.toNat 32) IntKind.u64.bits)=4294967296:=rfl
 have f1:Int.fdiv 1 4294967296=0:=rfl
 have f0:Int.fdiv 0 4294967296=0:=rfl
 have fy:Int.fdiv y 4294967296=0:=by rw [Int.fdiv_eq_ediv_of_nonneg _ (by omega)];omega
 have hy2:((y.toNat:Nat):Int)=y:=Int.toNat_of_nonneg h0
 unfold math_bits_Mul math_bits_Mul64 letO
 simp only [e1,ey y h0 h1,hp,hand,hone,f1,fy,hy2,Int.zero_mul,Int.mul_zero,Int.one_mul,Int.zero_add,Int.add_zero,Int.natCast_one]
 simp only [ey 0 (by omega) (by omega),ey y h0 h1,e1,hand,hone,hzero,Int.natCast_zero,Int.natCast_one,Int.one_mul,Int.mul_one,Int.zero_mul,Int.mul_zero,Int.zero_add,Int.add_zero,fy,f0,hy2]
theorem cpn_take {α:Type} {v:List α} {n:Int} (h0:0≤n) (h1:n≤v.length):cpn v n (sub v 0 n)=min n (v.length - n):=by
 have e:(sub v 0 n).length=n.toNat:=by simp [sub];omega
 rw [cpn,e];omega
theorem cpy_take {α:Type} {v:List α} {n:Int} {x:α} (h0:0≤n) (h1:n≤v.length) (ht:v.take n.toNat=List.replicate n.toNat x) :
 (cpy v n (sub v 0 n)).take (n+min n (v.length - n)).toNat=List.replicate (n+min n (v.length - n)).toNat x:=by
 have e:sub v 0 n=List.replicate n.toNat x:=by simp only [sub];rw [←ht];simp
 have hm:(n+min n (v.length - n)).toNat=n.toNat+min n.toNat (v.length - n.toNat):=by omega
 rw [hm,cpy,e,List.length_replicate,ht,List.take_replicate,List.append_assoc,←List.append_assoc,List.replicate_append_replicate]
 rw [List.take_append_of_le_length (by simp),List.take_replicate]
 congr 1;omega
theorem repeat_loop {α:Type} {step:List α×Int→Option ((List α×Int) ⊕ List α)} {x:α} {L:Nat} (hL:L≤100000)
 (hs:∀v n,step (v,n)=if (decide (n < (v.length:Int)))=true then (if 0≤n∧n≤(v.length:Int) then (if 0≤n∧n≤(v.length:Int) then nextO (cpy v n (sub v 0 n),IntKind.i64.wrap (n+cpn v n (sub v 0 n))) else none) else none) else inrO (some v)) :
 ∀(m:Nat) (v:List α) (n:Int),v.length=L→0≤n→n≤L→(n=0→L=0)→v.take n.toNat=List.replicate n.toNat x→L - n.toNat≤m→whileO step (v,n)=some (List.replicate L x):=by
 intro m
 induction m with
 | zero =>
  intro v n hv h0 h1 _ ht hm
  have e:n=L:=by omega
  refine whileO_inr ?_
  rw [hs,if_neg (by simp;omega)]
  have:v=List.replicate L x:=by
   rw [←List.take_length (l:=v),hv]
   rw [show n.toNat=L by omega] at ht;exact ht
  rw [this];rfl
 | succ m ih =>
  intro v n hv h0 h1 hz ht hm
  by_cases hn:n=L
  ·refine whileO_inr ?_
   rw [hs,if_neg (by simp;omega)]
   have:v=List.replicate L x:=by
    rw [←List.take_length (l:=v),hv]
    rw [show n.toNat=L by omega] at ht;exact ht
   rw [this];rfl
  ·have hlt:n < v.length:=by omega
   have hw:IntKind.i64.wrap (n+cpn v n (sub v 0 n))=n+min n (v.length - n):=by
    rw [cpn_take h0 (by omega)]
    unfold IntKind.wrap;simp [IntKind.signed,IntKind.bits];omega
   have hst:step (v,n)=some (.inl (cpy v n (sub v 0 n),n+min n (v.length - n))):=by
    rw [hs,if_pos (by simpa using hlt),if_pos ⟨h0,by omega⟩,if_pos ⟨h0,by omega⟩,hw];rfl
   rw [whileO_inl hst]
   refine ih _ _ (by rw [cpy_length (by omega)];exact hv) (by omega) (by omega) (by omega) (cpy_take h0 (by omega) ht) (by omega)
theorem rep_start {α:Type} (z x:α) (L:Nat):cpn (List.replicate L z) 0 [x]=((min 1 L:Nat):Int)∧(cpy (List.replicate L z) 0 [x]).length=L∧(cpy (List.replicate L z) 0 [x]).take (min 1 L)=List.replicate (min 1 L) x:=by
 refine ⟨by simp [cpn],by rw [cpy_length (by simp)];simp,?_⟩
 cases L with
 | zero=>simp
 | succ n=>simp [cpy]
theorem i64w {n:Int} (h0:0≤n) (h1:n≤100000):IntKind.i64.wrap n=n:=by unfold IntKind.wrap;simp [IntKind.signed,IntKind.bits];omega
theorem repeat_ok {α:Type} {step:List α×Int→Option ((List α×Int) ⊕ List α)} (z x:α) {n:Int} (h0:0≤n) (h1:n≤100000)
 (hs:∀v n,step (v,n)=if (decide (n < (v.length:Int)))=true then (if 0≤n∧n≤(v.length:Int) then (if 0≤n∧n≤(v.length:Int) then nextO (cpy v n (sub v 0 n),IntKind.i64.wrap (n+cpn v n (sub v 0 n))) else none) else none) else inrO (some v)) :
 (if (decide (n < 0))=true then none else letO (math_bits_Mul (IntKind.u64.wrap (([x]:List α).length:Int)) (IntKind.u64.wrap n)) fun(a,b) =>
  if ((decide (a > 0))||(decide (b > 9223372036854775807)))=true then none
  else if 0≤(IntKind.i64.wrap b)∧(IntKind.i64.wrap b)≤(IntKind.i64.wrap b)∧(IntKind.i64.wrap b)≤549755813888 then
   whileO step (cpy (List.replicate (Int.toNat (IntKind.i64.wrap b)) z) 0 [x],cpn (List.replicate (Int.toNat (IntKind.i64.wrap b)) z) 0 [x])
  else none)=some (List.replicate n.toNat x):=by
 have hm:=mul_one h0 (by omega:n≤2147483648)
 have e1:(([x]:List α).length:Int)=1:=rfl
 rw [if_neg (by simp;omega),e1,hm]
 unfold letO
 simp only
 rw [if_neg (by simp;omega),i64w h0 h1,if_pos ⟨h0,Int.le_refl _,by omega⟩]
 obtain ⟨a,b,c⟩:=rep_start z x n.toNat
 rw [a]
 exact repeat_loop (L:=n.toNat) (by omega) hs n.toNat _ _ b (by omega) (by omega) (by omega) (by rw [Int.toNat_natCast];exact c) (by omega)
theorem rep_int {x n:Int} (h0:0≤n) (h1:n≤100000):slices_Repeat_int_int [x] n=some (List.replicate n.toNat x):=repeat_ok 0 x h0 h1 fun _ _=>rfl
theorem rep_worker {x:api_Worker} {n:Int} (h0:0≤n) (h1:n≤100000):slices_Repeat_api_Worker_api_Worker [x] n=some (List.replicate n.toNat x):=repeat_ok api_Worker.zero x h0 h1 fun _ _=>rfl
theorem rep_fd {x:api_Fd} {n:Int} (h0:0≤n) (h1:n≤100000):slices_Repeat_api_Fd_api_Fd [x] n=some (List.replicate n.toNat x):=repeat_ok api_Fd.zero x h0 h1 fun _ _=>rfl
end Go.Proofs.YtmlcinmdkhmjhaaGreat
namespace Go.Proofs.YtmlcinmdkhmjhaaGreat
open Go Go.AM
set_option maxRecDepth 100000
set_option maxHeartbeats 1000000
set_option linter.unusedVariables false
set_option linter.unusedSimpArgs false
theorem fewN {α:Type} {l:List α} (h:l.length≤200000):few l.length:=by unfold few;omega
theorem rep_succ {α:Type} (i:Nat) (x:α):List.replicate i x++[x]=List.replicate (i+1) x:=(List.replicate_succ').symm
theorem slot_begin {n:Int} (h1:1≤n) (h2:n≤256):slot_New n=some (api_Places.mk (List.replicate n.toNat 0) (List.replicate n.toNat false),0)∧r05_New n=some (api_Places.mk (List.replicate n.toNat 0) (List.replicate n.toNat false),0):=by
 constructor
 ·rw [slot_New,if_neg (by simp;omega),if_pos (by omega),if_pos (by omega)]
 ·rw [r05_New,if_neg (by simp;omega)]
  have hs:∀i,i < n.toNat→r05_New_s1 n ((i:Int),List.replicate i 0,List.replicate i false)=some (.inl (((i+1:Nat):Int),List.replicate (i+1) 0,List.replicate (i+1) false)):=fun i hi=>by
   rw [r05_New_s1,if_pos (by simp;omega),rep_succ,rep_succ,if_pos (fewN (by simp;omega)),if_pos (fewN (by simp;omega)),w64_nat (by omega)];rfl
  have h:=whileO_run (step:=r05_New_s1 n) (fun i=>((i:Int),List.replicate i 0,List.replicate i false)) n.toNat hs
  have h0:((0:Int),([]:List Int),([]:List Bool))=(((0:Nat):Int),List.replicate 0 0,List.replicate 0 false):=rfl
  rw [h0,h]
  refine whileO_inr ?_
  rw [r05_New_s1,if_neg (by simp;omega)];rfl
theorem cell_begin {n:Int} (h1:0≤n) (h2:n≤65536):cell_New n=some (List.replicate n.toNat 0,0)∧r01_New n=some (List.replicate n.toNat 0,0):=by
 constructor
 ·rw [cell_New,if_neg (by simp;omega),if_pos (by omega)]
 ·rw [r01_New,if_neg (by simp;omega)]
  have hs:∀i,i < n.toNat→r01_New_s1 n (List.replicate i 0,(i:Int))=some (.inl (List.replicate (i+1) 0,((i+1:Nat):Int))):=fun i hi=>by
   rw [r01_New_s1,if_pos (by simp;omega),rep_succ,if_pos (fewN (by simp;omega)),w64_nat (by omega)];rfl
  have h:=whileO_run (step:=r01_New_s1 n) (fun i=>(List.replicate i 0,(i:Int))) n.toNat hs
  have h0:(([]:List Int),(0:Int))=(List.replicate 0 0,((0:Nat):Int)):=rfl
  rw [h0,h]
  refine whileO_inr ?_
  rw [r01_New_s1,if_neg (by simp;omega)];rfl
theorem poll_begin {n:Int} (h1:0≤n) (h2:n≤16):poll_New n=some (List.replicate n.toNat poll_shut,0)∧r09_New n=some (List.replicate n.toNat poll_shut,0):=by
 constructor
 ·rw [poll_New,if_neg (by simp;omega)]
  show (slices_Repeat_api_Fd_api_Fd [poll_shut] n).bind (fun x93=>some (x93,0))=_
  rw [rep_fd h1 (by omega)];rfl
 ·rw [r09_New,if_neg (by simp;omega)]
  have hs:∀i,i < n.toNat→r09_New_s1 n (List.replicate i poll_shut,(i:Int))=some (.inl (List.replicate (i+1) poll_shut,((i+1:Nat):Int))):=fun i hi=>by
   have e:List.replicate i poll_shut++[api_Fd.mk false false (-1)]=List.replicate (i+1) poll_shut:=rep_succ i poll_shut
   rw [r09_New_s1,if_pos (by simp;omega),e,if_pos (fewN (by simp;omega)),w64_nat (by omega)];rfl
  have h:=whileO_run (step:=r09_New_s1 n) (fun i=>(List.replicate i poll_shut,(i:Int))) n.toNat hs
  have h0:(([]:List api_Fd),(0:Int))=(List.replicate 0 poll_shut,((0:Nat):Int)):=rfl
  rw [h0,h]
  refine whileO_inr ?_
  rw [r09_New_s1,if_neg (by simp;omega)];rfl
theorem chain_begin {n m:Int} (h1:1≤n) (h2:n≤256) (h3:1≤m) (h4:m≤256):chain_New n m=some (api_Chains.mk (List.replicate n.toNat (-2)) (List.replicate m.toNat (-1)) (List.replicate m.toNat (-1)),0)∧r06_New n m=some (api_Chains.mk (List.replicate n.toNat (-2)) (List.replicate m.toNat (-1)) (List.replicate m.toNat (-1)),0):=by
 constructor
 ·rw [chain_New,if_neg (by simp;omega),rep_int (by omega) (by omega),rep_int (by omega) (by omega)];rfl
 ·rw [r06_New,if_neg (by simp;omega),if_pos (by omega),r06_Of]
  have hs:∀i,i < n.toNat→r06_Of_s2 n (List.replicate m.toNat []) ((i:Int),List.replicate i (-2))=some (.inl (((i+1:Nat):Int),List.replicate (i+1) (-2))):=fun i hi=>by
   rw [r06_Of_s2,if_pos (by simp;omega),rep_succ,if_pos (fewN (by simp;omega)),w64_nat (by omega)];rfl
  have h:=whileO_run (step:=r06_Of_s2 n (List.replicate m.toNat [])) (fun i=>((i:Int),List.replicate i (-2))) n.toNat hs
  have h0:((0:Int),([]:List Int))=(((0:Nat):Int),List.replicate 0 (-2)):=rfl
  rw [h0,h]
  have hend:r06_Of_s2 n (List.replicate m.toNat []) ((n.toNat:Int),List.replicate n.toNat (-2))=inrO (whileO (r06_Of_s9 (List.replicate m.toNat [])) (0,List.replicate n.toNat (-2),[],[])):=by
   rw [r06_Of_s2,if_neg (by simp;omega)]
  have hin:∀i,i < m.toNat→r06_Of_s9 (List.replicate m.toNat []) ((i:Int),List.replicate n.toNat (-2),List.replicate i (-1),List.replicate i (-1))=some (.inl (((i+1:Nat):Int),List.replicate n.toNat (-2),List.replicate (i+1) (-1),List.replicate (i+1) (-1))):=fun i hi=>by
   have hg:gt (List.replicate m.toNat ([]:List Int)) (i:Int)=[]:=by
    rw [gt_nat (by simpa using hi)];simp
   rw [r06_Of_s9,if_pos (by simp;omega),if_pos (by simp;omega),hg]
   have e1:IntKind.i64.wrap (((([]:List Int).length:Nat):Int) - 1)=-1:=rfl
   rw [e1]
   refine whileO_inr ?_
   rw [r06_Of_s11,if_neg (by simp),hg,if_neg (by simp),r06_Of_j12,rep_succ,if_pos (fewN (by simp;omega)),if_pos (fewN (by simp;omega)),w64_nat (by omega)];rfl
  have h5:=whileO_run (step:=r06_Of_s9 (List.replicate m.toNat [])) (fun i=>((i:Int),List.replicate n.toNat (-2),List.replicate i (-1),List.replicate i (-1))) m.toNat hin
  have h6:whileO (r06_Of_s9 (List.replicate m.toNat [])) (0,List.replicate n.toNat (-2),[],[])=some (api_Chains.mk (List.replicate n.toNat (-2)) (List.replicate m.toNat (-1)) (List.replicate m.toNat (-1))):=by
   have h0:((0:Int),List.replicate n.toNat (-2:Int),([]:List Int),([]:List Int))=(((0:Nat):Int),List.replicate n.toNat (-2),List.replicate 0 (-1),List.replicate 0 (-1)):=rfl
   rw [h0,h5]
   refine whileO_inr ?_
   rw [r06_Of_s9,if_neg (by simp)];rfl
  rw [h6] at hend
  rw [whileO_inr hend];rfl
end Go.Proofs.YtmlcinmdkhmjhaaGreat
