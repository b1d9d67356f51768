/- Helper lemmas for the claim's theorem: an abstract machine over the model, proved sound; no condition beyond each lemma's own. -/
import Derived.Test.YtmlcinmdkhmjhaaGreatL20ck
set_option linter.unusedVariables false
set_option linter.unusedSimpArgs false
set_option linter.unnecessarySimpa false
set_option linter.unusedSectionVars false
namespace Go.Proofs.YtmlcinmdkhmjhaaGreat
open Go Go.AM
set_option maxRecDepth 100000
set_option maxHeartbeats 1000000
set_option linter.unusedVariables false
set_option linter.unusedSimpArgs false
theorem chainsW_get {c:api_Chains}:∀{m:Nat} {i:Int} {met:List Bool} {out0 out:List (List Int)} {met':List Bool},met.length=c.Next.length→chainsW c m i met out0=some (out,met') →
 ∃ls:List (List Int),out=out0++ls∧ls.length=m∧∀k (hk:k < ls.length),∃met0 met1 last,met0.length=c.Next.length∧chainW c.Next (c.Next.length+1) met0 (gt c.Head (i+(k:Int))) (-1)=some (ls[k],met1,last)
 | 0,i,met,out0,out,met',hm,h=>by cases h;exact ⟨[],by simp,rfl,fun k hk=>by simp at hk⟩
 | m+1,i,met,out0,out,met',hm,h=>by
  rw [chainsW] at h
  cases hc:chainW c.Next (c.Next.length+1) met (gt c.Head i) (-1) with
  | none=>rw [hc] at h;cases h
  | some r =>
   obtain ⟨l,m1,last⟩:=r
   rw [hc] at h
   simp only at h
   split at h
   ·obtain ⟨ls,h1,h2,h3⟩:=chainsW_get (chainW_len hm hc).1 h
    refine ⟨l::ls,by rw [h1];simp,by simp [h2],fun k hk=>?_⟩
    cases k with
    | zero=>exact ⟨met,m1,last,hm,by simpa using hc⟩
    | succ k =>
     obtain ⟨a,b,e,g1,g2⟩:=h3 k (by simpa using hk)
     refine ⟨a,b,e,g1,?_⟩
     rw [show i+((k+1:Nat):Int)=i+1+(k:Int) by omega]
     exact g2
   ·cases h
theorem okC_is {c:api_Chains} {out:List (List Int)} (h:okC c=some out):c.Next.length≤1024∧1≤c.Head.length∧c.Head.length≤256∧c.Tail.length=c.Head.length∧out.length=c.Head.length ∧
 ∀k:Nat,k < out.length→∃met0 met1 last,met0.length=c.Next.length∧chainW c.Next (c.Next.length+1) met0 (gt c.Head (k:Int)) (-1)=some (gt out (k:Int),met1,last):=by
 unfold okC at h
 split at h
 ·cases h
 ·rename_i h0
  simp only [Bool.or_eq_true,decide_eq_true_eq,bne_iff_ne,ne_eq,not_or,Classical.not_not] at h0
  cases hc:chainsW c c.Head.length 0 (List.replicate c.Next.length false) [] with
  | none=>rw [hc] at h;cases h
  | some r =>
   obtain ⟨o,m⟩:=r
   rw [hc] at h
   simp only at h
   split at h
   ·cases h
    obtain ⟨ls,h1,h2,h3⟩:=chainsW_get (by simp) hc
    rw [List.nil_append] at h1
    subst h1
    refine ⟨by omega,by omega,by omega,by omega,h2,fun k hk=>?_⟩
    obtain ⟨a,b,e,g1,g2⟩:=h3 k hk
    rw [gt_nat hk]
    refine ⟨a,b,e,g1,?_⟩
    rw [Int.zero_add] at g2
    exact g2
   ·cases h
theorem okC_in {c:api_Chains} {out:List (List Int)} (h:okC c=some out):∀k:Nat,k < out.length→(gt out (k:Int)).length≤c.Next.length∧∀x∈gt out (k:Int),0≤x∧x < c.Next.length:=fun k hk=>by
 obtain ⟨_,_,_,_,_,h6⟩:=okC_is h
 obtain ⟨a,b,e,g1,g2⟩:=h6 k hk
 obtain ⟨q1,q2,q3⟩:=chainW_len g1 g2
 have:a.count false≤a.length:=List.count_le_length
 exact ⟨by omega,q3⟩
theorem walk_loop (c:api_Chains) (hn:c.Next.length≤1024):∀(m:Nat) (met:List Bool) (a last:Int) (l:List Int) (met':List Bool) (last':Int),chainW c.Next m met a last=some (l,met',last') →
 ∀(ahead:Int) (k:Nat) (acc:List Int),k+l.length≤c.Next.length→acc.length≤k→whileO (chain_Walk_s1 c) (ahead,a,(k:Int),acc)=some (acc++l,0)
 | 0,_,_,_,_,_,_,h=>by cases h
 | m+1,met,a,last,l,met',last',h=>fun ahead k acc hk ha=>by
  have hlt:decide ((k:Int) < (c.Next.length:Int)+1)=true:=by simp;omega
  have hw:IntKind.i64.wrap ((c.Next.length:Int)+1)=(c.Next.length:Int)+1:=w64_id (by omega) (by omega)
  rw [chainW] at h
  split at h
  ·rename_i e
   cases h
   subst e
   exact whileO_inrO (by rw [chain_Walk_s1,hw,if_pos hlt,if_pos (by simp),List.append_nil])
  ·split at h
   ·cases h
   ·rename_i h2
    split at h
    ·cases h
    ·rw [Option.map_eq_some_iff] at h
     obtain ⟨⟨l0,m0,z0⟩,h3,h4⟩:=h
     cases h4
     have h2':=h2
     simp only [Bool.or_eq_true,decide_eq_true_eq,not_or] at h2'
     simp only [List.length_cons] at hk
     rw [whileO_inl (by rw [chain_Walk_s1,hw,if_pos hlt,if_neg h2,if_pos (show few _ by unfold few;simp;omega),if_pos (by omega),w64_nat (by omega)];rfl),walk_loop c hn m _ _ _ l0 _ _ h3 a (k+1) (acc++[a]) (by omega) (by simp;omega)]
     simp
theorem own_ok {c:api_Chains} {out:List (List Int)} (h:okC c=some out) {t:Int} (ht:0≤t∧t < c.Head.length):chain_own c [t] []=some (c,0):=by
 obtain ⟨h1,h2,h3,h4,_,_⟩:=okC_is h
 unfold chain_own
 rw [(chain_eq c).1,h,Option.bind_some]
 rw [if_neg (by simp)]
 have e10:whileO (chain_own_s10 c []) 0=some (c,0):=by
  refine whileO_inrO ?_
  rw [chain_own_s10,if_neg (by simp),chain_own_j9,if_neg (by simp)]
  unfold slices_Clone_int_int
  rw [if_pos (show few _ by unfold few;omega),if_pos (show few _ by unfold few;omega),if_pos (show few _ by unfold few;omega)];rfl
 have e1:chain_own_s15 c [t] [] 0=some (.inl 1):=by
  rw [chain_own_s15,if_pos (by simp),if_pos (by simp),gt_cons0,if_neg (by simp;omega)];rfl
 rw [whileO_inl e1]
 refine whileO_inrO ?_
 rw [chain_own_s15,if_neg (by simp),chain_own_j14,chain_own_j5,if_neg (by simp),e10]
theorem walk_eq {c:api_Chains} {out:List (List Int)} (h:okC c=some out) {t:Nat} (ht:t < out.length):chain_Walk c (t:Int)=some (gt out (t:Int),0):=by
 obtain ⟨h1,h2,h3,h4,h5,h6⟩:=okC_is h
 obtain ⟨a,b,e,g1,g2⟩:=h6 t ht
 have hin:=okC_in h t ht
 unfold chain_Walk
 rw [own_ok h (by omega),Option.bind_some]
 simp only
 rw [if_neg (by simp),if_pos (by omega)]
 have:=walk_loop c h1 _ _ _ _ _ _ _ g2 (-1) 0 [] (by omega) (by simp)
 simpa using this
def badL (w:api_World) (t:Int) (x:Int):Bool:=((!(gt w.Ids.Live x))||(((gt w.T x).State) != 1))||(((gt w.T x).Tenant) != t)
theorem list_eq {c:api_Config} {w:api_World} {out:List (List Int)} (h:okC w.Lists=some out) (hT:w.T.length=w.Lists.Next.length) (hL:w.Ids.Live.length=w.Lists.Next.length) {t:Nat} (ht:t < out.length) :
 crew_checker_list ⟨c,w⟩ (t:Int)=some (!(gt out (t:Int)).any (badL w (t:Int))):=by
 have h1:=(okC_is h).1
 have hin:=okC_in h t ht
 unfold crew_checker_list
 rw [walk_eq h ht,Option.bind_some]
 simp only
 rw [if_pos (by simp)]
 generalize hx:gt out (t:Int)=xs at hin ⊢
 rw [whileO_seek (step:=crew_checker_list_s5 ⟨c,w⟩ (t:Int) xs) (badL w (t:Int)) xs (fun i=>crew_checker_list_j4 (i:Int)) (crew_checker_list_j4 (-1)) (by omega)]
 ·have:seek (badL w (t:Int)) (fun i=>crew_checker_list_j4 ((i:Nat):Int)) (crew_checker_list_j4 (-1)) 0 xs=seek (badL w (t:Int)) (fun _=>some false) (some true) 0 xs:=by
   congr 1
  rw [this,seek_any]
  cases xs.any (badL w (t:Int))<;>rfl
 ·intro i hi
  have hr:=hin.2 _ (List.getElem_mem hi)
  rw [crew_checker_list_s5,if_pos (by simpa using hi),if_pos (by omega),gt_nat hi,if_pos (by simp only;omega),if_pos (by simp only;omega)];rfl
 ·rw [crew_checker_list_s5,if_neg (by simp)]
theorem rlists_no {c:api_Config} {w:api_World} (h:okC w.Lists=none∨(∃out,okC w.Lists=some out∧¬((w.Lists.Next.length:Int)=c.Tasks∧out.length=c.Weights.length))):r20_lists c w=some false:=by
 unfold r20_lists
 rw [(chain_eq w.Lists).2,Option.bind_some]
 rcases h with h|⟨out,h,h2⟩
 ·rw [h];rfl
 ·rw [h]
  simp only
  rw [if_pos]
  simp only [Bool.not_true,Bool.false_or,Bool.or_eq_true,bne_iff_ne,ne_eq]
  omega
theorem rlists_eq {c:api_Config} {w:api_World} {out:List (List Int)} (h:okC w.Lists=some out) (hn:(w.Lists.Next.length:Int)=c.Tasks) (hw:out.length=c.Weights.length) (hT:w.T.length=w.Lists.Next.length) (hL:w.Ids.Live.length=w.Lists.Next.length) :
 r20_lists c w=some (!(List.range out.length).any (fun t=>(gt out (t:Int)).any (badL w (t:Int)))):=by
 obtain ⟨h1,h2,h3,h4,h5,h6⟩:=okC_is h
 unfold r20_lists
 rw [(chain_eq w.Lists).2,h,Option.bind_some]
 simp only
 rw [if_neg (by simp;omega)]
 rw [whileO_seek (step:=r20_lists_s9 w out) (fun t:Nat=>(gt out (t:Int)).any (badL w (t:Int))) (List.range out.length) (fun _=>some false) (some true) (by simp;omega),seek_any]
 ·cases (List.range out.length).any (fun t=>(gt out (t:Int)).any (badL w (t:Int)))<;>rfl
 ·intro t ht
  rw [List.length_range] at ht
  have hgi:gt (List.range out.length) (t:Int)=t:=by rw [gt_nat (by simpa using ht),List.getElem_range]
  have hin:=okC_in h t ht
  rw [hgi,r20_lists_s9,if_pos (by simpa using ht),if_pos (by omega)]
  have hin2:whileO (r20_lists_s12 w out (t:Int)) 0=if (gt out (t:Int)).any (badL w (t:Int))=true then inrO (some false) else nextO (IntKind.i64.wrap ((t:Int)+1)):=by
   rw [whileO_seek (step:=r20_lists_s12 w out (t:Int)) (badL w (t:Int)) (gt out (t:Int)) (fun _=>inrO (some false)) (nextO (IntKind.i64.wrap ((t:Int)+1))) (by omega),seek_any]
   ·intro i hi
    have hr:=hin.2 _ (List.getElem_mem hi)
    rw [r20_lists_s12,if_pos (by simpa using hi),if_pos (by omega),gt_nat hi,if_pos (by omega)]
    unfold badL
    cases h7:gt w.Ids.Live (gt out (t:Int))[i] with
    | false=>rw [if_pos (show (!false)=true from rfl),r20_lists_j13,if_pos rfl];rfl
    | true =>
     rw [if_neg (by simp),if_pos (by omega),r20_lists_j13,gt_nat hi]
     cases h8:((gt w.T (gt out (t:Int))[i]).State) != 1 with
     | true=>rfl
     | false =>
      rw [if_neg (by simp),if_pos (by omega)];rfl
   ·rw [r20_lists_s12,if_neg (by simp)]
  rw [hin2]
 ·rw [List.length_range,r20_lists_s9,if_neg (by simp)]
end Go.Proofs.YtmlcinmdkhmjhaaGreat
namespace Go.Proofs.YtmlcinmdkhmjhaaGreat
open Go Go.AM
set_option maxRecDepth 100000
set_option maxHeartbeats 1000000
set_option linter.unusedVariables false
set_option linter.unusedSimpArgs false
theorem chkE_ne (t:api_Task):(chkE t != 0)=!chk t:=by unfold chkE;cases chk t<;>rfl
def insN (t:api_Task) (p:List api_Instr):api_Instr:=if t.Pc < p.length then gt p t.Pc else api_Instr.mk 9 0 0
def fitB (t:api_Task) (p:List api_Instr):Bool:=chk t&&(chkP p&&(decide (t.Pc≤p.length)&&(decide (t.Unit=0)||(decide (t.Pc < p.length)&&(decide ((gt p t.Pc).Op=1)&&decide (t.Unit < (gt p t.Pc).A))))))
theorem chk_bounds {t:api_Task} (h:chk t=true):t.Id≥0∧(0≤t.Pc∧t.Pc≤32)∧(0≤t.Unit∧t.Unit≤99)∧(0≤t.Ran∧t.Ran≤1099511627776):=by
 unfold chk at h
 simp [life_below] at h
 omega
theorem next_eq {t:api_Task} {p:List api_Instr} (hp:pok p):step_Next t p=some (if fitB t p then (insN t p,0) else (api_Instr.zero,1)):=by
 unfold step_Next
 rw [check_eq,Option.bind_some,chkE_ne,codeCheck_eq hp,Option.bind_some]
 unfold fitB
 cases hc:chk t with
 | false=>simp [step_Next_j1]
 | true =>
  obtain ⟨-,hpc,hun,-⟩:=chk_bounds hc
  simp only [Bool.not_true,Bool.false_eq_true,if_false,Bool.true_and]
  cases hk:chkP p with
  | false=>simp [step_Next_j1]
  | true =>
   simp only [if_true,Bool.true_and]
   unfold step_Next_j1 insN
   by_cases h1:t.Pc≤p.length
   ·rw [if_neg (by simp;omega)]
    by_cases h2:t.Pc < p.length
    ·rw [if_pos (by simpa using h2),if_pos (by omega)]
     unfold step_Next_j2
     by_cases h3:t.Unit=0
     ·rw [if_neg (by simp [h3])];simp [h1,h2,h3]
     ·by_cases h4:(gt p t.Pc).Op=1∧t.Unit < (gt p t.Pc).A
      ·rw [if_neg (by simp [h4.1];omega),if_pos (by simp [h1,h2,h3,h4.1,h4.2]),if_pos h2]
      ·rw [if_pos (by simp;omega)]
       rw [if_neg]
       simp [h1,h2,h3];omega
    ·rw [if_neg (by simpa using h2)]
     unfold step_Next_j2
     by_cases h3:t.Unit=0
     ·rw [if_neg (by simp [h3])];simp [h1,h2,h3]
     ·rw [if_pos (by simp;omega)];simp [h1,h2,h3]
   ·rw [if_pos (by simp;omega)];simp [h1]
theorem fits_eq {t:api_Task} {p:List api_Instr} (hp:pok p):r13_Fits t p=some (fitB t p):=by
 unfold r13_Fits
 rw [rcheck_eq,Option.bind_some,chkE_ne,rcodeCheck_eq hp.1,Option.bind_some]
 unfold fitB
 cases hc:chk t with
 | false=>simp [r13_Fits_j1]
 | true =>
  obtain ⟨-,hpc,hun,-⟩:=chk_bounds hc
  simp only [Bool.not_true,Bool.false_eq_true,if_false,Bool.true_and]
  cases hk:chkP p with
  | false=>simp [r13_Fits_j1]
  | true =>
   simp only [if_true,Bool.true_and]
   unfold r13_Fits_j1
   by_cases h1:t.Pc≤p.length
   ·rw [if_neg (by simp;omega)]
    by_cases h3:t.Unit=0
    ·rw [if_pos (by simp [h3])];simp [h1,h3]
    ·rw [if_neg (by simp [h3])]
     by_cases h2:t.Pc < p.length
     ·rw [if_pos (by simpa using h2),if_pos (by omega)]
      by_cases h4:(gt p t.Pc).Op=1
      ·rw [if_pos (by simp [h4]),if_pos (by omega)];simp [h1,h2,h3,h4]
      ·rw [if_neg (by simp [h4])];simp [h3,h4]
     ·rw [if_neg (by simpa using h2)];simp [h2,h3]
   ·rw [if_pos (by simp;omega)];simp [h1]
def badT (c:api_Config) (w:api_World) (i:Nat):Bool :=
 if (!(gt w.Ids.Live (i:Int)))=true then !(api_Task.beq (gt w.T (i:Int)) api_Task.zero) else
  (!chk (gt w.T (i:Int))||(((gt w.T (i:Int)).State==7)||(((gt w.T (i:Int)).Id != (IntKind.i64.wrap ((IntKind.i64.wrap ((gt w.Ids.Gen (i:Int))*256))+(i:Int))))||(decide ((gt w.T (i:Int)).Tenant≥(c.Weights.length:Int))||(decide ((gt w.T (i:Int)).Prog≥(c.Progs.length:Int))||!fitB (gt w.T (i:Int)) (gt c.Progs (gt w.T (i:Int)).Prog))))))
theorem task_eq {c:api_Config} {w:api_World} (hp:∀p∈c.Progs,pok p) (hL:w.Ids.Live.length=w.T.length) (hG:w.Ids.Gen.length=w.T.length) {i:Nat} (hi:i < w.T.length):crew_checker_task ⟨c,w⟩ (i:Int)=some (!badT c w i):=by
 unfold crew_checker_task badT
 simp only
 rw [if_pos (by omega),if_pos (by omega)]
 cases hl:gt w.Ids.Live (i:Int) with
 | false =>
  rw [if_pos (show (!false)=true from rfl),if_pos (show (!false)=true from rfl),Bool.not_not]
 | true =>
  simp only [Bool.not_true,Bool.false_eq_true,if_false]
  rw [check_eq,Option.bind_some,chkE_ne]
  generalize gt w.T (i:Int)=t
  cases hc:chk t with
  | false=>rfl
  | true =>
   rw [if_neg (by simp)]
   have hb:=(chk_bounds hc)
   have hpr:0≤t.Prog:=by
    unfold chk at hc
    simp only [Bool.and_eq_true,decide_eq_true_eq,life_below] at hc
    omega
   cases h7:t.State==7 with
   | true=>simp
   | false =>
    rw [if_neg (by simp),if_pos (by omega)]
    cases hid:t.Id != (IntKind.i64.wrap ((IntKind.i64.wrap ((gt w.Ids.Gen (i:Int))*256))+(i:Int))) with
    | true=>simp
    | false =>
     rw [if_neg (by simp)]
     cases hte:decide (t.Tenant≥(c.Weights.length:Int)) with
     | true=>simp
     | false =>
      rw [if_neg (by simp)]
      cases hpg:decide (t.Prog≥(c.Progs.length:Int)) with
      | true=>simp
      | false =>
       rw [decide_eq_false_iff_not] at hpg
       rw [if_neg (by simp),if_pos (by omega)]
       obtain ⟨q,hq⟩:∃q:Nat,t.Prog=(q:Int):=⟨t.Prog.toNat,by omega⟩
       have hql:q < c.Progs.length:=by omega
       rw [hq,gt_nat hql,next_eq (hp _ (List.getElem_mem hql)),Option.bind_some]
       cases fitB t c.Progs[q]<;>rfl
theorem rtasks_eq {c:api_Config} {w:api_World} (hp:∀p∈c.Progs,pok p):r20_tasks c w=some (ckSlot w.Ids&&(((w.Ids.Gen.length:Int)==c.Tasks)&&(((w.T.length:Int)==c.Tasks)&&!(List.range w.T.length).any (badT c w)))):=by
 unfold r20_tasks
 rw [rslot_eq,Option.bind_some]
 cases hs:ckSlot w.Ids with
 | false=>rfl
 | true =>
  have hsl:=ckSlot_is hs
  by_cases h1:(w.Ids.Gen.length:Int)=c.Tasks
  ·by_cases h2:(w.T.length:Int)=c.Tasks
   ·have e1:((w.Ids.Gen.length:Int)==c.Tasks)=true:=by simpa using h1
    have e2:((w.T.length:Int)==c.Tasks)=true:=by simpa using h2
    rw [e1,e2,if_neg (by simp [h1,h2])]
    rw [whileO_seek (step:=r20_tasks_s1 c w) (badT c w) (List.range w.T.length) (fun _=>some false) (some true) (by simp;omega),seek_any]
    ·cases (List.range w.T.length).any (badT c w)<;>rfl
    ·intro i hi
     rw [List.length_range] at hi
     have hgi:gt (List.range w.T.length) (i:Int)=i:=by rw [gt_nat (by simpa using hi),List.getElem_range]
     rw [hgi,r20_tasks_s1,if_pos (by simpa using hi),if_pos (by omega),if_pos (by omega)]
     unfold badT
     cases hl:gt w.Ids.Live (i:Int) with
     | false =>
      rw [if_pos (show (!false)=true from rfl),if_pos (show (!false)=true from rfl)]
     | true =>
      simp only [Bool.not_true,Bool.false_eq_true,if_false]
      rw [rcheck_eq,Option.bind_some,chkE_ne]
      generalize gt w.T (i:Int)=t
      cases hc:chk t with
      | false=>rfl
      | true =>
       rw [if_neg (by simp)]
       have hpr:0≤t.Prog:=by
        unfold chk at hc
        simp only [Bool.and_eq_true,decide_eq_true_eq,life_below] at hc
        omega
       cases h7:t.State==7 with
       | true=>simp
       | false =>
        rw [if_neg (by simp),if_pos (by omega),Int.mul_comm 256]
        cases hid:t.Id != (IntKind.i64.wrap ((IntKind.i64.wrap ((gt w.Ids.Gen (i:Int))*256))+(i:Int))) with
        | true=>simp
        | false =>
         rw [if_neg (by simp)]
         cases hte:decide (t.Tenant≥(c.Weights.length:Int)) with
         | true=>simp
         | false =>
          rw [if_neg (by simp)]
          cases hpg:decide (t.Prog≥(c.Progs.length:Int)) with
          | true=>simp
          | false =>
           rw [decide_eq_false_iff_not] at hpg
           rw [if_neg (by simp),if_pos (by omega)]
           obtain ⟨q,hq⟩:∃q:Nat,t.Prog=(q:Int):=⟨t.Prog.toNat,by omega⟩
           have hql:q < c.Progs.length:=by omega
           rw [hq,gt_nat hql,fits_eq (hp _ (List.getElem_mem hql)),Option.bind_some]
           cases fitB t c.Progs[q]<;>rfl
    ·rw [List.length_range,r20_tasks_s1,if_neg (by simp)]
   ·have e2:((w.T.length:Int)==c.Tasks)=false:=by simpa using h2
    rw [e2,if_pos (by simp [h2])];simp
  ·have e1:((w.Ids.Gen.length:Int)==c.Tasks)=false:=by simpa using h1
   rw [e1,if_pos (by simp [h1])];simp
end Go.Proofs.YtmlcinmdkhmjhaaGreat
