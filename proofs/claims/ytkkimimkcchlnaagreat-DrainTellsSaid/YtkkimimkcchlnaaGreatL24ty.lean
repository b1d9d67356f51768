/- Helper lemmas for the claim's theorem: an abstract machine over the model, proved sound; no condition beyond each lemma's own. -/
import Derived.Test.YtkkimimkcchlnaaGreatL24tx
set_option linter.unusedVariables false
set_option linter.unusedSimpArgs false
set_option linter.unnecessarySimpa false
set_option linter.unusedSectionVars false
namespace Go.Proofs.YtkkimimkcchlnaaGreat
open Go Go.AM
set_option maxRecDepth 100000
set_option maxHeartbeats 1000000
set_option linter.unusedVariables false
set_option linter.unusedSimpArgs false
theorem w64u {n:Int} (h0:0≤n) (h1:n≤18446744073709551615):IntKind.u64.wrap n=n:=by unfold IntKind.wrap;simp [IntKind.signed,IntKind.bits];omega
theorem mask32 {a:Int} (h0:0≤a) (h1:a≤18446744073709551615):(((BitVec.ofInt IntKind.u64.bits a &&& BitVec.ofInt IntKind.u64.bits 4294967295).toNat:Nat):Int)=a % 4294967296:=by
 obtain ⟨n,rfl⟩:∃n:Nat,a=(n:Int):=⟨a.toNat,by omega⟩
 have e1:(BitVec.ofInt IntKind.u64.bits (n:Int)).toNat=n:=by
  show (BitVec.ofInt 64 (n:Int)).toNat=n
  rw [BitVec.toNat_ofInt];omega
 have e2:(BitVec.ofInt IntKind.u64.bits 4294967295).toNat=2 ^ 32 - 1:=rfl
 rw [BitVec.toNat_and,e1,e2,Nat.and_two_pow_sub_one_eq_mod];rfl
theorem mul_small {x y:Int} (hx:0≤x∧x≤1099511627778) (hy:0≤y∧y≤69888):calc_Mul x y=(x*y,0):=by
 have h1:0≤x*y:=Int.mul_nonneg hx.1 hy.1
 have h2:x*y≤1099511627778*69888:=Int.mul_le_mul hx.2 hy.2 hy.1 (by omega)
 have hm:math_bits_Mul64 x y=(0,x*y):=by
  unfold math_bits_Mul64
  have e32:((2:Int) ^ (min (Int.toNat 32) IntKind.u64.bits))=4294967296:=rfl
  rw [e32]
  have f1:Int.fdiv y 4294967296=0:=by rw [Int.fdiv_eq_ediv_of_nonneg _ (by omega)];omega
  have f2:Int.fdiv x 4294967296=x / 4294967296:=Int.fdiv_eq_ediv_of_nonneg _ (by omega)
  rw [f1,f2,mask32 hx.1 (by omega),mask32 hy.1 (by omega)]
  have g1:y % 4294967296=y:=by omega
  rw [g1]
  have hx1:0≤x / 4294967296∧x / 4294967296≤256:=by omega
  have hx0:0≤x % 4294967296∧x % 4294967296≤4294967295:=by omega
  generalize x / 4294967296=p at hx1 ⊢
  generalize x % 4294967296=q at hx0 ⊢
  have b1:0≤p*y:=Int.mul_nonneg hx1.1 hy.1
  have b2:p*y≤256*69888:=Int.mul_le_mul hx1.2 hy.2 hy.1 (by omega)
  have b3:0≤q*y:=Int.mul_nonneg hx0.1 hy.1
  have b4:q*y≤4294967295*69888:=Int.mul_le_mul hx0.2 hy.2 hy.1 (by omega)
  generalize hpy:p*y=u at b1 b2 ⊢
  generalize hqy:q*y=r at b3 b4 ⊢
  rw [w64u (n:=q) (by omega) (by omega),w64u (n:=y) (by omega) (by omega)]
  rw [hpy,hqy,w64u (n:=u) b1 (by omega),w64u (n:=r) b3 (by omega),Int.fdiv_eq_ediv_of_nonneg r (by omega)]
  have b5:0≤r / 4294967296∧r / 4294967296≤69888:=by omega
  rw [w64u (n:=u+r / 4294967296) (by omega) (by omega),mask32 (by omega) (by omega)]
  rw [Int.mul_zero,Int.mul_zero,w64u (n:=0) (by omega) (by omega),Int.add_zero]
  rw [Int.fdiv_eq_ediv_of_nonneg (u+r / 4294967296) (by omega)]
  have z1:(u+r / 4294967296) / 4294967296=0:=by omega
  have z2:(u+r / 4294967296) % 4294967296=u+r / 4294967296:=by omega
  rw [z1,z2,w64u (n:=u+r / 4294967296) (by omega) (by omega),w64u (n:=u+r / 4294967296) (by omega) (by omega),Int.fdiv_eq_ediv_of_nonneg (u+r / 4294967296) (by omega),z1,w64u (n:=x*y) h1 (by omega)]
  rfl
 have hs:∀z:Int,0≤z∧z≤1099511627778→calc_size z=z:=fun z hz=>by
  rw [calc_size,if_neg (by simp;omega),w64u hz.1 (by omega)]
 unfold calc_Mul calc_times
 rw [hs x hx,hs y ⟨hy.1,by omega⟩,hm]
 simp only [letO]
 have hs1:decide (x < 0)=false:=by simp;omega
 have hs2:decide (y < 0)=false:=by simp;omega
 rw [hs1,hs2]
 simp only [beq_self_eq_true,Bool.not_true,Bool.false_and]
 rw [if_neg (by simp),calc_Mul_j1,if_neg (by simp;omega),w64_id (by omega) (by omega)]
theorem config_bounds {c:api_Config} (h:entry_Config c=some 0):(1≤c.Workers∧c.Workers≤64)∧(1≤c.Cap∧c.Cap≤1024):=by
 unfold entry_Config at h
 split at h
 ·cases h
 ·rename_i hb
  unfold entry_within at hb
  simp only [Bool.or_eq_true,not_or,Bool.not_eq_true',Bool.not_eq_false,Bool.and_eq_true,decide_eq_true_eq] at hb
  omega
theorem work_same {c:api_Config} {w:api_World} (hc:cok c) (hp:∀p∈c.Progs,pok p) (f:fewW w) :
 ∃n e,drain_Work c w=some (n,e)∧r24_Work c w=some (n,e)∧(e=0→(0≤n∧n≤1099511627776)∧entry_Config c=some 0):=by
 obtain ⟨e,h1,h2,h01,hz⟩:=check_same hc hp f
 rcases h01 with rfl|rfl
 ·obtain ⟨ec,eh,out,hP,hT,hk,hcf⟩:=hz rfl
  have hsl:=ckSlot_is hP.e3
  have n0:=hP.n0;have n1:=hP.n1
  have F:FitW c w:=⟨hc.progs,hk,by omega,by omega,fun i hi hL=>by
   unfold anyT at hT
   rw [List.any_eq_false] at hT
   have hb:=hT i (List.mem_range.2 hi)
   unfold badT at hb
   rw [hL] at hb
   simp only [Bool.not_true,Bool.false_eq_true,if_false,Bool.or_eq_true,not_or,Bool.not_eq_true',Bool.not_eq_false,decide_eq_true_eq] at hb
   have hck:=hb.1
   refine ⟨hb.2.2.2.2.2,?_,by omega⟩
   unfold chk life_below at hck
   simp only [Bool.and_eq_true,decide_eq_true_eq] at hck
   omega⟩
  obtain ⟨K,hK,hKt⟩:=tableW_eq (ckAll_pr hk).1 (ckAll_pr hk).2 (ckAll_kid hk)
  obtain ⟨n,e,g1,g2,g3⟩:=work_tasks F hK w.T.length 0 0 [] (Nat.zero_add _) (by omega) (fun j k hj=>by cases hj)
  refine ⟨n,e,?_,?_,fun h=>⟨g3 h,hcf⟩⟩
  ·unfold drain_Work
   rw [h1,Option.bind_some,if_neg (by simp)]
   exact g1
  ·unfold r24_Work
   rw [h2,Option.bind_some,if_neg (by simp),hKt,Option.bind_some]
   exact g2
 ·refine ⟨0,1,?_,?_,fun h=>by cases h⟩
  ·unfold drain_Work
   rw [h1,Option.bind_some,if_pos (by simp)]
  ·unfold r24_Work
   rw [h2,Option.bind_some,if_pos (by simp)]
theorem bound_same {c:api_Config} {w:api_World} (hc:cok c) (hp:∀p∈c.Progs,pok p) (f:fewW w) :
 ∃r,drain_Bound c w=some r∧r24_Bound c w=some r:=by
 obtain ⟨n,e,h1,h2,h3⟩:=work_same hc hp f
 unfold drain_Bound r24_Bound
 rw [h1,h2]
 simp only [Option.bind_some]
 by_cases he:e=0
 ·obtain ⟨hn,hcf⟩:=h3 he
  obtain ⟨hw,hk⟩:=config_bounds hcf
  rw [if_neg (by simpa using he),if_neg (by simpa using he)]
  rw [w64_id (n:=c.Workers+c.Cap) (by omega) (by omega),w64_id (n:=c.Workers+c.Cap+4) (by omega) (by omega),w64_id (n:=64*(c.Workers+c.Cap+4)) (by omega) (by omega),w64_id (n:=n+2) (by omega) (by omega)]
  have hy:384≤64*(c.Workers+c.Cap+4)∧64*(c.Workers+c.Cap+4)≤69888:=by omega
  generalize 64*(c.Workers+c.Cap+4)=y at hy ⊢
  have hx:0≤n+2∧n+2≤1099511627778:=by omega
  generalize n+2=x at hx ⊢
  have m1:0≤x*y:=Int.mul_nonneg hx.1 (by omega)
  have m2:x*y≤1099511627778*69888:=Int.mul_le_mul hx.2 hy.2 (by omega) (by omega)
  rw [mul_small hx ⟨by omega,hy.2⟩]
  have hd:Int.tdiv 1152921504606846976 y=1152921504606846976 / y:=Int.tdiv_eq_ediv_of_nonneg (by omega)
  have hdb:1099511627778≤1152921504606846976 / y:=by
   rw [Int.le_ediv_iff_mul_le (by omega)]
   have:=Int.mul_le_mul_of_nonneg_left hy.2 (show (0:Int)≤1099511627778 by omega)
   omega
  have hdt:1152921504606846976 / y≤1152921504606846976:=Int.ediv_le_self _ (by omega)
  rw [if_pos (by omega),hd,w64_id (n:=1152921504606846976 / y) (by omega) (by omega),if_neg (by simp;omega),w64_id (n:=x*y) (by omega) (by omega)]
  simp only [letO]
  rw [if_neg (by simp;omega)]
  exact ⟨_,rfl,rfl⟩
 ·have hne:(e != 0)=true:=by simpa using he
  rw [hne]
  exact ⟨_,rfl,rfl⟩
theorem waits_bool (s:Int):(!life_Waits s)=(decide (s < 3)||decide (s > 6)):=by
 unfold life_Waits;rw [Bool.eq_iff_iff];simp
def restV (w:api_World) (i:Nat):Option (Int ⊕ Bool) :=
 if gt w.Ids.Live (i:Int)=true∧((i:Int)≥(w.T.length:Int)∨life_Waits (gt w.T (i:Int)).State=false) then some (.inr false) else some (.inl ((i+1:Nat):Int))
theorem rest_one {w:api_World} (hl:w.Ids.Live.length≤9223372036854775807) {i:Nat} (hi:i < w.Ids.Live.length):drain_Rest_s1 w (i:Int)=restV w i∧r24_Rest_s3 w (i:Int)=restV w i:=by
 have e1:(decide ((i:Int) < (w.Ids.Live.length:Int)))=true:=by simpa using hi
 have e2:0≤(i:Int)∧(i:Int) < (w.Ids.Live.length:Int):=by omega
 have e4:=w64_nat (n:=i) (by omega)
 unfold drain_Rest_s1 r24_Rest_s3 r24_Rest_j4 restV
 simp only [e1,if_true,if_pos e2,e4,waits_bool]
 cases gt w.Ids.Live (i:Int) with
 | false=>simp [nextO]
 | true =>
  by_cases ht:(i:Int)≥(w.T.length:Int)
  ·simp [ht,inrO]
  ·have e3:0≤(i:Int)∧(i:Int) < (w.T.length:Int):=by omega
   have e5:decide ((i:Int)≥(w.T.length:Int))=false:=by simpa using ht
   simp only [e5,if_pos e3,if_true,Bool.false_eq_true,if_false]
   have hw:=waits_bool (gt w.T (i:Int)).State
   by_cases h3:(gt w.T (i:Int)).State < 3
   ·have:life_Waits (gt w.T (i:Int)).State=false:=by rw [←Bool.not_eq_true',hw];simp [h3]
    simp [h3,this,inrO]
   ·by_cases h6:(gt w.T (i:Int)).State > 6
    ·have:life_Waits (gt w.T (i:Int)).State=false:=by rw [←Bool.not_eq_true',hw];simp [h6]
     simp [h3,h6,this,inrO]
    ·have:life_Waits (gt w.T (i:Int)).State=true:=by rw [←Bool.not_eq_false',hw];simp;omega
     simp [h3,h6,this,ht,nextO]
theorem rest_loops {w:api_World} (hl:w.Ids.Live.length≤9223372036854775807):∀(m i:Nat),i+m=w.Ids.Live.length→∃k,whileO (drain_Rest_s1 w) (i:Int)=some k∧whileO (r24_Rest_s3 w) (i:Int)=some k
 | 0,i,h=>by
  have:i=w.Ids.Live.length:=by omega
  subst this
  exact ⟨true,whileO_inr (by rw [drain_Rest_s1,if_neg (by simp)];rfl),whileO_inr (by rw [r24_Rest_s3,if_neg (by simp)];rfl)⟩
 | m+1,i,h=>by
  obtain ⟨h1,h2⟩:=rest_one hl (i:=i) (by omega)
  unfold restV at h1 h2
  by_cases hb:gt w.Ids.Live (i:Int)=true∧((i:Int)≥(w.T.length:Int)∨life_Waits (gt w.T (i:Int)).State=false)
  ·rw [if_pos hb] at h1 h2
   exact ⟨false,whileO_inr h1,whileO_inr h2⟩
  ·rw [if_neg hb] at h1 h2
   rw [whileO_inl h1,whileO_inl h2]
   exact rest_loops hl m (i+1) (by omega)
theorem rest_same {w:api_World} (hl:w.Ids.Live.length≤9223372036854775807):∃r,drain_Rest w=some r∧r24_Rest w=some r:=rest_loops hl _ 0 (Nat.zero_add _)
end Go.Proofs.YtkkimimkcchlnaaGreat
