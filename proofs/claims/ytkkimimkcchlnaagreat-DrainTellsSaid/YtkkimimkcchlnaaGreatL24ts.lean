/- Helper lemmas for the claim's theorem: an abstract machine over the model, proved sound; no condition beyond each lemma's own. -/
import Derived.Test.YtkkimimkcchlnaaGreatL24tr
set_option linter.unusedVariables false
set_option linter.unusedSimpArgs false
set_option linter.unnecessarySimpa false
set_option linter.unusedSectionVars false
namespace Go.Proofs.YtkkimimkcchlnaaGreat
open Go Go.AM
set_option maxRecDepth 100000
set_option maxHeartbeats 1000000
set_option linter.unusedVariables false
set_option linter.unusedSimpArgs false
def seenW (w:api_World) (i:Nat) (k:Int):Bool:=(List.range i).any (fun j=>((gt w.W (j:Int)).Task==k)||((gt w.W (j:Int)).Kid==k))
def crewDup (w:api_World) (i:Nat):Bool :=
 (((gt w.W (i:Int)).Task != -1)&&seenW w i (gt w.W (i:Int)).Task)||(((gt w.W (i:Int)).Kid != -1)&&(seenW w i (gt w.W (i:Int)).Kid||((gt w.W (i:Int)).Task==(gt w.W (i:Int)).Kid)))
theorem met_two (w:api_World) {i:Nat} (hi:i≤1000000) {M:List (Int×Bool)} (hM:∀k,(mget M k).getD false=((k != -1)&&seenW w i k)) :
 (crewDup w i=true∧whileO (crew_Check_s8 w (i:Int)) (0,M)=some (.inr 1)) ∨
 (crewDup w i=false∧∃M',whileO (crew_Check_s8 w (i:Int)) (0,M)=some (.inl (((i+1:Nat):Int),M'))∧∀k,(mget M' k).getD false=((k != -1)&&seenW w (i+1) k)):=by
 have hs:∀k,seenW w (i+1) k=(seenW w i k||(((gt w.W (i:Int)).Task==k)||((gt w.W (i:Int)).Kid==k))):=fun k=>by
  unfold seenW
  rw [List.range_succ,List.any_append]
  simp
 have s0:∀M,crew_Check_s8 w (i:Int) (0,M)=if ((mget M (gt w.W (i:Int)).Task).getD false)=true then some (.inr (.inr 1)) else some (.inl (1,mput M (gt w.W (i:Int)).Task ((gt w.W (i:Int)).Task != -1))):=fun M=>by
  rw [crew_Check_s8,if_pos (by simp),if_pos (by omega)];rfl
 have s1:∀M,crew_Check_s8 w (i:Int) (1,M)=if ((mget M (gt w.W (i:Int)).Kid).getD false)=true then some (.inr (.inr 1)) else some (.inl (2,mput M (gt w.W (i:Int)).Kid ((gt w.W (i:Int)).Kid != -1))):=fun M=>by
  rw [crew_Check_s8,if_pos (by simp),if_pos (by omega)];rfl
 have s2:∀M,crew_Check_s8 w (i:Int) (2,M)=some (.inr (.inl (((i+1:Nat):Int),M))):=fun M=>by
  rw [crew_Check_s8,if_neg (by simp),w64_nat (by omega)];rfl
 unfold crewDup
 generalize gt w.W (i:Int)=x at hs s0 s1
 have hM2:∀k,(mget (mput M x.Task (x.Task != -1)) k).getD false=((k != -1)&&(seenW w i k||(x.Task==k))):=fun k=>by
  rw [mget_mput]
  by_cases e:k=x.Task
  ·subst e;simp
  ·rw [if_neg e,hM]
   have:(x.Task==k)=false:=by simpa using Ne.symm e
   rw [this,Bool.or_false]
 have hM3:∀k,(mget (mput (mput M x.Task (x.Task != -1)) x.Kid (x.Kid != -1)) k).getD false=((k != -1)&&seenW w (i+1) k):=fun k=>by
  rw [mget_mput,hs]
  by_cases e:k=x.Kid
  ·subst e;simp
  ·rw [if_neg e,hM2]
   have:(x.Kid==k)=false:=by simpa using Ne.symm e
   rw [this,Bool.or_false]
 cases h1:((x.Task != -1)&&seenW w i x.Task) with
 | true =>
  refine .inl ⟨rfl,whileO_inr ?_⟩
  rw [s0,hM,h1,if_pos rfl]
 | false =>
  have e0:crew_Check_s8 w (i:Int) (0,M)=some (.inl (1,mput M x.Task (x.Task != -1))):=by rw [s0,hM,h1,if_neg (by simp)]
  rw [whileO_inl e0]
  cases h2:((x.Kid != -1)&&(seenW w i x.Kid||(x.Task==x.Kid))) with
  | true =>
   refine .inl ⟨rfl,whileO_inr ?_⟩
   rw [s1,hM2,h2,if_pos rfl]
  | false =>
   refine .inr ⟨rfl,_,?_,hM3⟩
   rw [whileO_inl (by rw [s1,hM2,h2,if_neg (by simp)])]
   exact whileO_inr (s2 _)
theorem crew_workers {c:api_Config} {w:api_World} (hl:w.W.length≤1000000) (hw:∀i,i < w.W.length→crew_checker_worker ⟨c,w⟩ (i:Int)=some (workOk c w i)):∀(m i:Nat) (M:List (Int×Bool)),i+m=w.W.length→(∀k,(mget M k).getD false=((k != -1)&&seenW w i k)) →
 whileO (crew_Check_s7 c w) ((i:Int),M)=some (if ((List.range w.W.length).drop i).any (fun i=>!workOk c w i||crewDup w i)=true then 1 else 0)
 | 0,i,M,h,hM=>by
  have:i=w.W.length:=by omega
  subst this
  rw [whileO_inr (k:=0) (by rw [crew_Check_s7,if_neg (by simp)];rfl),List.drop_eq_nil_of_le (by simp)];rfl
 | m+1,i,M,h,hM=>by
  have hi:i < w.W.length:=by omega
  rw [drop_range hi,List.any_cons]
  have hst:crew_Check_s7 c w ((i:Int),M)=if (!workOk c w i)=true then some (.inr 1) else whileO (crew_Check_s8 w (i:Int)) (0,M):=by
   rw [crew_Check_s7,if_pos (by simpa using hi),if_pos (by omega),hw i hi,Option.bind_some];rfl
  cases hk:workOk c w i with
  | false=>rw [whileO_inr (k:=1) (by rw [hst,hk];rfl)];rfl
  | true =>
   rw [hk] at hst
   simp only [Bool.not_true,Bool.false_eq_true,if_false] at hst
   rcases met_two w (by omega) hM with ⟨h1,h2⟩|⟨h1,M',h2,h3⟩
   ·rw [whileO_inr (k:=1) (by rw [hst,h2]),h1];rfl
   ·rw [whileO_inl (by rw [hst,h2]),crew_workers hl hw m (i+1) M' (by omega) h3,h1];rfl
theorem seen_iff {w:api_World} {i:Nat} {k:Int}:seenW w i k=true↔∃j,j < i∧((gt w.W (j:Int)).Task=k∨(gt w.W (j:Int)).Kid=k):=by
 unfold seenW
 rw [List.any_eq_true]
 constructor
 ·rintro ⟨j,hj,h⟩;exact ⟨j,by simpa using hj,by simpa using h⟩
 ·rintro ⟨j,hj,h⟩;exact ⟨j,by simpa using hj,by simpa using h⟩
theorem dup_same {w:api_World} (hid:∀i:Nat,i < w.W.length→(gt w.W (i:Int)).Task≥-1∧(gt w.W (i:Int)).Kid≥-1):(List.range w.W.length).any (crewDup w)=(List.range w.W.length).any (dupAt w):=by
 rw [Bool.eq_iff_iff,List.any_eq_true,List.any_eq_true]
 have mk:∀i k,i < w.W.length→k < w.W.length→dupC w i k=true→∃x,x∈List.range w.W.length∧dupAt w x=true:=fun i k hi hk h =>
  ⟨i,by simpa using hi,by unfold dupAt;rw [List.any_eq_true];exact ⟨k,by simpa using hk,h⟩⟩
 constructor
 ·rintro ⟨i,hi,h⟩
  have hi:i < w.W.length:=by simpa using hi
  have hb:=hid i hi
  unfold crewDup at h
  rw [Bool.or_eq_true,Bool.and_eq_true,Bool.and_eq_true,Bool.or_eq_true,seen_iff,seen_iff] at h
  simp only [bne_iff_ne,ne_eq,beq_iff_eq] at h
  rcases h with ⟨h1,j,hj,h2|h2⟩|⟨h1,⟨j,hj,h2|h2⟩|h2⟩
  ·exact mk i j hi (by omega) (by unfold dupC;simp [h2];omega)
  ·exact mk i j hi (by omega) (by unfold dupC;simp [h2];omega)
  ·exact mk j i (by omega) hi (by unfold dupC;simp [h2];omega)
  ·exact mk i j hi (by omega) (by unfold dupC;simp [h2];omega)
  ·exact mk i i hi hi (by unfold dupC;simp [h2];omega)
 ·rintro ⟨i,hi,h⟩
  have hi:i < w.W.length:=by simpa using hi
  unfold dupAt at h
  rw [List.any_eq_true] at h
  obtain ⟨k,hk,h⟩:=h
  have hk:k < w.W.length:=by simpa using hk
  have out:∀i,i < w.W.length→(((gt w.W (i:Int)).Task≠-1∧∃j,j < i∧((gt w.W (j:Int)).Task=(gt w.W (i:Int)).Task∨(gt w.W (j:Int)).Kid=(gt w.W (i:Int)).Task))∨((gt w.W (i:Int)).Kid≠-1∧((∃j,j < i∧((gt w.W (j:Int)).Task=(gt w.W (i:Int)).Kid∨(gt w.W (j:Int)).Kid=(gt w.W (i:Int)).Kid))∨(gt w.W (i:Int)).Task=(gt w.W (i:Int)).Kid))) →
   ∃x,x∈List.range w.W.length∧crewDup w x=true:=fun i hi h=>⟨i,by simpa using hi,by
   unfold crewDup
   rw [Bool.or_eq_true,Bool.and_eq_true,Bool.and_eq_true,Bool.or_eq_true,seen_iff,seen_iff]
   simpa only [bne_iff_ne,ne_eq,beq_iff_eq] using h⟩
  unfold dupC at h
  simp only [Bool.or_eq_true,Bool.and_eq_true,decide_eq_true_eq,bne_iff_ne,ne_eq,beq_iff_eq] at h
  rcases h with ⟨h1,⟨h2,h3⟩|h3⟩|⟨⟨h1,h2⟩,h3⟩
  ·rcases Nat.lt_trichotomy k i with hki|hki|hki
   ·exact out i hi (.inl ⟨by omega,k,hki,.inl h3⟩)
   ·omega
   ·exact out k hk (.inl ⟨by omega,i,hki,.inl h3.symm⟩)
  ·rcases Nat.lt_trichotomy k i with hki|hki|hki
   ·exact out i hi (.inl ⟨by omega,k,hki,.inr h3⟩)
   ·subst hki;exact out k hk (.inr ⟨by omega,.inr h3.symm⟩)
   ·exact out k hk (.inr ⟨by omega,.inl ⟨i,hki,.inl h3.symm⟩⟩)
  ·rcases Nat.lt_trichotomy k i with hki|hki|hki
   ·exact out i hi (.inr ⟨by omega,.inl ⟨k,hki,.inr h3⟩⟩)
   ·omega
   ·exact out k hk (.inr ⟨by omega,.inl ⟨i,hki,.inr h3.symm⟩⟩)
end Go.Proofs.YtkkimimkcchlnaaGreat
