/- Helper lemmas for the claim's theorem: an abstract machine over the model, proved sound; no condition beyond each lemma's own. -/
import Derived.Test.YtkkimimkcchlnaaGreatL24td
set_option linter.unusedVariables false
set_option linter.unusedSimpArgs false
set_option linter.unnecessarySimpa false
set_option linter.unusedSectionVars false
namespace Go.Proofs.YtkkimimkcchlnaaGreat
open Go Go.AM
set_option maxRecDepth 100000
set_option maxHeartbeats 1000000
set_option linter.unusedVariables false
set_option linter.unusedSimpArgs false
def kept (t:api_Task):Bool:=decide (t.Keeps.a0≥-1)&&(decide (t.Keeps.a1≥-1)&&(decide (t.Keeps.a2≥-1)&&decide (t.Keeps.a3≥-1)))
def chk (t:api_Task):Bool:=(((((((decide (t.Id≥0)&&life_below t.Tenant 16)&&life_below t.Prog 16)&&life_below t.Pc 33)&&life_below t.Unit 100)&&life_state t.State)&&decide (t.Ran≥0))&&decide (t.Ran≤1099511627776))&&kept t
def chkE (t:api_Task):Int:=if chk t then 0 else 1
theorem min4 (a b c d:Int):slices_Min_int64_int64 [a,b,c,d]=some (let x:=if b < a then b else a;let y:=if c < x then c else x;if d < y then d else y):=by
 unfold slices_Min_int64_int64
 rw [if_neg (by simp),if_pos (by simp)]
 rw [whileO_inl (s':=(if b < a then b else a,2)) (by rfl)]
 rw [whileO_inl (s':=(if c < (if b < a then b else a) then c else (if b < a then b else a),3)) (by rfl)]
 rw [whileO_inl (s':=(if d < (if c < (if b < a then b else a) then c else (if b < a then b else a)) then d else (if c < (if b < a then b else a) then c else (if b < a then b else a)),4)) (by rfl)]
 rw [whileO_inr (by rfl)]
theorem check_eq (t:api_Task):life_Check t=some (chkE t):=by
 unfold life_Check chkE chk
 rw [min4]
 generalize (((((((decide (t.Id≥0)&&life_below t.Tenant 16)&&life_below t.Prog 16)&&life_below t.Pc 33)&&life_below t.Unit 100)&&life_state t.State)&&decide (t.Ran≥0))&&decide (t.Ran≤1099511627776))=b
 cases b with
 | false=>simp
 | true =>
  simp only [Bool.not_true,Bool.false_eq_true,if_false,Option.bind_some,Bool.true_and]
  by_cases hk:kept t=true
  ·rw [if_pos hk]
   simp only [kept,Bool.and_eq_true,decide_eq_true_eq] at hk
   rw [if_neg]
   simp only [decide_eq_true_eq]
   split<;>split<;>split<;>omega
  ·rw [if_neg hk]
   simp only [kept,Bool.and_eq_true,decide_eq_true_eq] at hk
   rw [if_pos]
   simp only [decide_eq_true_eq]
   split<;>split<;>split<;>omega
theorem rst_eq:r12_state=life_state:=rfl
theorem rcheck_eq (t:api_Task):r12_Check t=some (chkE t):=by
 have hloop:whileO (r12_Check_s1 t) 0=some (if kept t then 0 else 1):=by
  by_cases h0:t.Keeps.a0 < -1
  ·rw [whileO_inr (k:=1) (by simp [r12_Check_s1,h0])]
   rw [if_neg];simp [kept];omega
  rw [whileO_inl (s':=1) (by simp [r12_Check_s1,h0,nextO];rfl)]
  by_cases h1:t.Keeps.a1 < -1
  ·rw [whileO_inr (k:=1) (by simp [r12_Check_s1,h1])]
   rw [if_neg];simp [kept];omega
  rw [whileO_inl (s':=2) (by simp [r12_Check_s1,h1,nextO];rfl)]
  by_cases h2:t.Keeps.a2 < -1
  ·rw [whileO_inr (k:=1) (by simp [r12_Check_s1,h2])]
   rw [if_neg];simp [kept];omega
  rw [whileO_inl (s':=3) (by simp [r12_Check_s1,h2,nextO];rfl)]
  by_cases h3:t.Keeps.a3 < -1
  ·rw [whileO_inr (k:=1) (by simp [r12_Check_s1,h3])]
   rw [if_neg];simp [kept];omega
  rw [whileO_inl (s':=4) (by simp [r12_Check_s1,h3,nextO];rfl)]
  rw [whileO_inr (k:=0) (by simp [r12_Check_s1])]
  rw [if_pos];simp [kept];omega
 unfold r12_Check chkE
 rw [hloop,rst_eq]
 by_cases h:(((((((decide (t.Id≥0)&&life_below t.Tenant 16)&&life_below t.Prog 16)&&life_below t.Pc 33)&&life_below t.Unit 100)&&life_state t.State)&&decide (t.Ran≥0))&&decide (t.Ran≤1099511627776))=true
 ·rw [if_neg]
  ·simp [chk,h]
  ·simp [life_below] at h ⊢
   simp [h];omega
 ·rw [if_pos]
  ·simp [chk,h]
  ·simp [life_below] at h ⊢
   by_cases hs:life_state t.State=true
   ·simp [hs] at h ⊢;omega
   ·simp [hs]
theorem dice_same (d:api_Dice):dice_Check d=r03_Check d:=rfl
theorem loop_bad {step:Int→Option (Int ⊕ Int)} (n:Nat) (bad:Nat→Bool) (hn:n≤9223372036854775807)
 (hs:∀i:Nat,i < n→step i=if bad i=true then inrO (some 1) else nextO (IntKind.i64.wrap ((i:Int)+1))) (he:step (n:Int)=inrO (some 0)) :
 whileO step 0=some (if (List.range n).any bad=true then 1 else 0):=by
 rw [whileO_seek (step:=step) bad (List.range n) (fun _=>some 1) (some 0) (by simpa using hn),seek_any]
 ·split<;>rfl
 ·intro i hi
  rw [List.length_range] at hi
  rw [hs i hi,gt_nat (by simpa using hi),List.getElem_range]
 ·rw [List.length_range];exact he
def badSlot (p:api_Places) (i:Nat):Bool:=(decide (gt p.Gen (i:Int) < 0)||decide (gt p.Gen (i:Int) > 1099511627776))||(gt p.Live (i:Int)&&(gt p.Gen (i:Int)==1099511627776))
def ckSlot (p:api_Places):Bool:=!(((decide ((p.Gen.length:Int) < 1))||(decide ((p.Gen.length:Int) > 256)))||((p.Live.length:Int) != (p.Gen.length:Int)))&&!(List.range p.Gen.length).any (badSlot p)
theorem slot_eq (p:api_Places):slot_Check p=some (if ckSlot p then 0 else 1):=by
 unfold slot_Check ckSlot
 by_cases h:(((decide ((p.Gen.length:Int) < 1))||(decide ((p.Gen.length:Int) > 256)))||((p.Live.length:Int) != (p.Gen.length:Int)))=true
 ·rw [if_pos h,h];rfl
 ·rw [if_neg h]
  rw [Bool.not_eq_true] at h
  have h':=h
  simp only [Bool.or_eq_false_iff,decide_eq_false_iff_not,bne_eq_false_iff_eq] at h'
  rw [loop_bad p.Gen.length (badSlot p) (by omega),h]
  ·cases (List.range p.Gen.length).any (badSlot p)<;>rfl
  ·intro i hi
   rw [slot_Check_s3,if_pos (by simpa using hi),if_pos (by omega),if_pos (by omega)]
   unfold badSlot
   by_cases hl:gt p.Live (i:Int)=true
   ·rw [if_pos hl,slot_Check_j4,hl]
    by_cases h1:gt p.Gen (i:Int) < 0
    ·simp [h1]
    ·by_cases h2:gt p.Gen (i:Int) > 1099511627775
     ·have:(gt p.Gen (i:Int) > 1099511627776)∨gt p.Gen (i:Int)=1099511627776:=by omega
      rcases this with h3|h3
      ·simp [h2,h3]
      ·simp [h3]
     ·have h3:¬gt p.Gen (i:Int) > 1099511627776:=by omega
      have h4:¬gt p.Gen (i:Int)=1099511627776:=by omega
      simp [h1,h2,h3,h4]
   ·rw [if_neg hl,slot_Check_j4]
    simp [hl]
  ·rw [slot_Check_s3,if_neg (by simp)]
theorem rslot_eq (p:api_Places):r05_Check p=some (if ckSlot p then 0 else 1):=by
 unfold r05_Check ckSlot
 by_cases h:(((decide ((p.Gen.length:Int) < 1))||(decide ((p.Gen.length:Int) > 256)))||((p.Live.length:Int) != (p.Gen.length:Int)))=true
 ·rw [if_pos h,h];rfl
 ·rw [if_neg h]
  rw [Bool.not_eq_true] at h
  have h':=h
  simp only [Bool.or_eq_false_iff,decide_eq_false_iff_not,bne_eq_false_iff_eq] at h'
  rw [loop_bad p.Gen.length (badSlot p) (by omega),h]
  ·cases (List.range p.Gen.length).any (badSlot p)<;>rfl
  ·intro i hi
   rw [r05_Check_s1,if_pos (by simpa using hi),if_pos (by omega)]
   unfold badSlot
   by_cases h1:((decide ((gt p.Gen (i:Int)) < 0))||(decide ((gt p.Gen (i:Int)) > 1099511627776)))=true
   ·rw [if_pos h1,h1];rfl
   ·rw [if_neg h1,if_pos (by omega)]
    rw [Bool.not_eq_true] at h1
    rw [h1,Bool.false_or]
  ·rw [r05_Check_s1,if_neg (by simp)]
theorem ckSlot_is {p:api_Places} (h:ckSlot p=true):1≤p.Gen.length∧p.Gen.length≤256∧p.Live.length=p.Gen.length∧∀i:Nat,i < p.Gen.length→0≤gt p.Gen (i:Int)∧gt p.Gen (i:Int)≤1099511627776:=by
 unfold ckSlot at h
 simp only [Bool.and_eq_true,Bool.not_eq_true',Bool.or_eq_false_iff,decide_eq_false_iff_not,bne_eq_false_iff_eq,List.any_eq_false,List.mem_range] at h
 refine ⟨by omega,by omega,by omega,fun i hi=>?_⟩
 have h2:=h.2 i hi
 unfold badSlot at h2
 simp only [Bool.or_eq_true,decide_eq_true_eq,not_or] at h2
 omega
theorem and255 {a:Int} (h:0≤a∧a≤9223372036854775807):IntKind.i64.wrap (BitVec.ofInt IntKind.i64.bits a &&& BitVec.ofInt IntKind.i64.bits 255).toNat=Int.tmod a 256:=by
 obtain ⟨n,rfl⟩:∃n:Nat,a=(n:Int):=⟨a.toNat,by omega⟩
 have e1:(BitVec.ofInt IntKind.i64.bits (n:Int)).toNat=n:=by
  show (BitVec.ofInt 64 (n:Int)).toNat=n
  rw [BitVec.toNat_ofInt];omega
 have e2:(BitVec.ofInt IntKind.i64.bits (255:Int)).toNat=2 ^ 8 - 1:=rfl
 rw [BitVec.toNat_and,e1,e2,Nat.and_two_pow_sub_one_eq_mod]
 have hm:n % 2 ^ 8 < 256:=Nat.mod_lt _ (by decide)
 rw [w64_id (by omega) (by omega)]
 show ((n % 256:Nat):Int)=_
 rw [Int.tmod_eq_emod_of_nonneg (by omega)]
 omega
theorem find_same (p:api_Places) {id:Int} (h:i64ok id):slot_Find p id=r05_Find p id:=by
 unfold slot_Find r05_Find
 rw [slot_eq,rslot_eq]
 simp only [Option.bind_some]
 by_cases h1:((if ckSlot p=true then (0:Int) else 1) != 0||decide (id < 0))=true
 ·rw [if_pos h1,if_pos h1]
 ·rw [if_neg h1,if_neg h1]
  rw [Bool.or_eq_true,not_or,decide_eq_true_eq] at h1
  rw [and255 ⟨by omega,h.2⟩]
end Go.Proofs.YtkkimimkcchlnaaGreat
