/- Helper lemmas for the claim's theorem: an abstract machine over the model, proved sound; no condition beyond each lemma's own. -/
import Derived.Test.YtmlcinmdkhmjhaaGreatL20cm
set_option linter.unusedVariables false
set_option linter.unusedSimpArgs false
set_option linter.unnecessarySimpa false
set_option linter.unusedSectionVars false
namespace Go.Proofs.YtmlcinmdkhmjhaaGreat
open Go Go.AM
set_option maxRecDepth 100000
set_option maxHeartbeats 1000000
set_option linter.unusedVariables false
set_option linter.unusedSimpArgs false
structure QOk (m:List Int) (q:api_Deque):Prop where
 len:m.length≤65536
 cap:1≤q.Cap∧q.Cap≤1024
 base:0≤q.Base
 fit:q.Base+q.Cap+2≤m.length
theorem check_yes {m:List Int} {q:api_Deque} (h:QOk m q):ring_Check m q=0:=by
 obtain ⟨h1,h2,h3,h4⟩:=h
 unfold ring_Check cell_Check
 rw [w64_id (n:=(m.length:Int) - q.Cap) (by omega) (by omega),w64_id (by omega) (by omega),if_neg]
 rw [if_neg (by simp;omega)]
 simp;omega
theorem clone_ok {m:List Int} (h:m.length≤100000):slices_Clone_api_Mem_int64 m=some m:=by
 unfold slices_Clone_api_Mem_int64
 rw [if_pos (by unfold few;omega)]
theorem load_ok {m:List Int} {i:Int} (h:m.length≤65536) (hi:0≤i∧i < m.length):cell_Load m i=some (gt m i,0):=by
 unfold cell_Load cell_Check
 rw [if_neg,if_pos hi]
 rw [if_neg (by simp;omega)]
 simp;omega
theorem store_ok {m:List Int} {i:Int} (x:Int) (h:m.length≤65536) (hi:0≤i∧i < m.length):cell_Store m i x=some (st m i x,0):=by
 unfold cell_Store cell_Check
 rw [if_neg,if_pos hi,clone_ok (by omega),Option.bind_some,if_pos hi]
 rw [if_neg (by simp;omega)]
 simp;omega
theorem cas_ok {m:List Int} {i:Int} (o x:Int) (h:m.length≤65536) (hi:0≤i∧i < m.length):cell_Cas m i o x=some (if (gt m i==o)=true then st m i x else m,gt m i==o,0):=by
 unfold cell_Cas cell_Check cell_Cas_j1
 rw [if_neg,if_pos hi,clone_ok (by omega),Option.bind_some,if_pos hi]
 ·cases gt m i==o<;>rfl
 ·rw [if_neg (by simp;omega)]
  simp;omega
def slot (q:api_Deque) (n:Int):Int:=q.Base+2+Int.tmod n q.Cap
theorem slot_in {m:List Int} {q:api_Deque} (h:QOk m q) {n:Int} (hn:0≤n):0≤slot q n∧slot q n < m.length:=by
 obtain ⟨h1,h2,h3,h4⟩:=h
 unfold slot
 rw [Int.tmod_eq_emod_of_nonneg hn]
 have:=Int.emod_nonneg n (show q.Cap≠0 by omega)
 have:=Int.emod_lt_of_pos n (show 0 < q.Cap by omega)
 omega
theorem slot_ok {m:List Int} {q:api_Deque} (h:QOk m q) (a:ring_actor) (ha:a.q=q) {n:Int} (hn:0≤n):pring_actor_slot a n=some (slot q n):=by
 have hs:=slot_in h hn
 obtain ⟨h1,h2,h3,h4⟩:=h
 unfold slot at hs ⊢
 unfold pring_actor_slot
 rw [ha,if_pos (by omega),w64_id (n:=q.Base+2) (by omega) (by omega),w64_id (by omega) (by omega)]
theorem bot_ok {m:List Int} {q:api_Deque} (h:QOk m q) (a:ring_actor) (ha:a.q=q):pring_actor_bottom a=q.Base+1:=by
 obtain ⟨h1,h2,h3,h4⟩:=h
 unfold pring_actor_bottom
 rw [ha,w64_id (by omega) (by omega)]
theorem top_ok {q:api_Deque} (a:ring_actor) (ha:a.q=q):pring_actor_top a=q.Base:=by
 unfold pring_actor_top
 rw [ha]
theorem base_in {m:List Int} {q:api_Deque} (h:QOk m q):(0≤q.Base∧q.Base < m.length)∧(0≤q.Base+1∧q.Base+1 < m.length):=by
 obtain ⟨h1,h2,h3,h4⟩:=h
 omega
theorem acc_eq (k:Int):ring_accesses k=if k=1 then [257,258,259,260] else if k=2 then [261,262,263,264,265,266,267] else if k=3 then [257,268,269,270] else []:=by
 have e:mput (mput (mput ([]:List (Int×List Nat)) 1 [257,258,259,260]) 2 [261,262,263,264,265,266,267]) 3 [257,268,269,270]=[(1,[257,258,259,260]),(2,[261,262,263,264,265,266,267]),(3,[257,268,269,270])]:=rfl
 unfold ring_accesses
 rw [e]
 simp only [mget]
 by_cases h1:k=1
 ·subst h1;rfl
 ·by_cases h2:k=2
  ·subst h2;rfl
  ·by_cases h3:k=3
   ·subst h3;rfl
   ·simp [h1,h2,h3]
theorem may_eq (h:api_Hand):ring_may h=r07_May h:=by
 have hp:((ring_accesses h.Kind).length:Int)=r07_pcs h.Kind:=by
  rw [acc_eq];unfold r07_pcs
  by_cases h1:h.Kind=1
  ·simp [h1]
  ·by_cases h2:h.Kind=2
   ·simp [h2]
   ·by_cases h3:h.Kind=3
    ·simp [h3]
    ·simp [h1,h2,h3]
 unfold ring_may r07_May letO r07_count
 simp only
 rw [hp,Bool.eq_iff_iff]
 by_cases hb:h.B < h.T
 ·by_cases hc:h.B > h.T
  ·omega
  ·simp [hb,hc];omega
 ·by_cases hc:h.B > h.T
  ·simp [hb,hc];omega
  ·simp [hb,hc];omega
theorem may_cases {h:api_Hand} (hm:r07_May h=true):((h.Kind=1∧(h.Pc=0∨h.Pc=1∨h.Pc=2∨h.Pc=3))∨(h.Kind=2∧(h.Pc=0∨h.Pc=1∨h.Pc=2∨h.Pc=3∨h.Pc=4∨h.Pc=5∨h.Pc=6))∨(h.Kind=3∧(h.Pc=0∨h.Pc=1∨h.Pc=2∨h.Pc=3)))∧(-1≤h.T∧h.T≤1099511627776)∧(-1≤h.B∧h.B≤1099511627776):=by
 unfold r07_May r07_count at hm
 have hp:r07_pcs h.Kind=if h.Kind=1 then 4 else if h.Kind=2 then 7 else if h.Kind=3 then 4 else 0:=by
  unfold r07_pcs
  by_cases h1:h.Kind=1
  ·simp [h1]
  ·by_cases h2:h.Kind=2
   ·simp [h2]
   ·by_cases h3:h.Kind=3
    ·simp [h3]
    ·simp [h1,h2,h3]
 rw [hp] at hm
 by_cases h1:h.Kind=1
 ·simp [h1] at hm ⊢;omega
 ·by_cases h2:h.Kind=2
  ·simp [h2] at hm ⊢;omega
  ·by_cases h3:h.Kind=3
   ·simp [h3] at hm ⊢;omega
   ·simp [h1,h2,h3] at hm
    omega
theorem gA0:gt [257,258,259,260] 0=257:=rfl
theorem gA1:gt [257,258,259,260] 1=258:=rfl
theorem gA2:gt [257,258,259,260] 2=259:=rfl
theorem gA3:gt [257,258,259,260] 3=260:=rfl
theorem gB0:gt [261,262,263,264,265,266,267] 0=261:=rfl
theorem gB1:gt [261,262,263,264,265,266,267] 1=262:=rfl
theorem gB2:gt [261,262,263,264,265,266,267] 2=263:=rfl
theorem gB3:gt [261,262,263,264,265,266,267] 3=264:=rfl
theorem gB4:gt [261,262,263,264,265,266,267] 4=265:=rfl
theorem gB5:gt [261,262,263,264,265,266,267] 5=266:=rfl
theorem gB6:gt [261,262,263,264,265,266,267] 6=267:=rfl
theorem gC0:gt [257,268,269,270] 0=257:=rfl
theorem gC1:gt [257,268,269,270] 1=268:=rfl
theorem gC2:gt [257,268,269,270] 2=269:=rfl
theorem gC3:gt [257,268,269,270] 3=270:=rfl
structure Env7 (m:List Int) (q:api_Deque):Prop where
 l1:cell_Load m q.Base=some (gt m q.Base,0)
 l2:cell_Load m (q.Base+1)=some (gt m (q.Base+1),0)
 l3:∀n,0≤n→cell_Load m (slot q n)=some (gt m (slot q n),0)
 s2:∀x,cell_Store m (q.Base+1) x=some (st m (q.Base+1) x,0)
 s3:∀n x,0≤n→cell_Store m (slot q n) x=some (st m (slot q n) x,0)
 c1:∀o x,cell_Cas m q.Base o x=some (if (gt m q.Base==o)=true then st m q.Base x else m,gt m q.Base==o,0)
 t1:∀a:ring_actor,a.q=q→pring_actor_top a=q.Base
 t2:∀a:ring_actor,a.q=q→pring_actor_bottom a=q.Base+1
 t3:∀(a:ring_actor) n,a.q=q→0≤n→pring_actor_slot a n=some (slot q n)
 b1:0≤q.Base∧q.Base < m.length
 b2:0≤q.Base+1∧q.Base+1 < m.length
 b3:∀n,0≤n→0≤slot q n∧slot q n < m.length
 wb:IntKind.i64.wrap (q.Base+1)=q.Base+1
theorem env7 {m:List Int} {q:api_Deque} (h:QOk m q):Env7 m q:=by
 obtain ⟨b1,b2⟩:=base_in h
 have hl:=h.len
 exact ⟨load_ok hl b1,load_ok hl b2,fun n hn=>load_ok hl (slot_in h hn),fun x=>store_ok x hl b2,fun n x hn=>store_ok x hl (slot_in h hn),fun o x=>cas_ok o x hl b1,
  fun a ha=>top_ok a ha,fun a ha=>bot_ok h a ha,fun a n ha hn=>slot_ok h a ha hn,b1,b2,fun n hn=>slot_in h hn,w64_id (by omega) (by omega)⟩
theorem q0_ok:QOk [0,0,0] (api_Deque.mk 0 1):=⟨by simp,by simp,by simp,by simp⟩
def m0:List Int:=[0,0,0]
def fin (o:Option (List Int×api_Hand×Int)):Prop:=∃m h e,o=some (m,h,e)∧(e=0∨e=9)
theorem fin_some (m:List Int) (h:api_Hand) (e:Int) (he:e=0∨e=9):fin (some (m,h,e)):=⟨m,h,e,rfl,he⟩
theorem fin_if {c:Prop} [Decidable c] {a b:Option (List Int×api_Hand×Int)} (h1:fin a) (h2:fin b):fin (if c then a else b):=by split<;>assumption
theorem step_fin {K Pc V T B:Int} {W:Bool} (hm:r07_May ⟨K,Pc,V,T,B,W,0⟩=true):fin (ring_Step [0,0,0] (api_Deque.mk 0 1) ⟨K,Pc,V,T,B,W,0⟩):=by
 have hq:=q0_ok
 generalize hM:([0,0,0]:List Int)=m at hq
 generalize hQ:api_Deque.mk 0 1=q at hq
 clear hM hQ
 have c1:=check_yes hq
 have e:=env7 hq
 have hf:few m.length:=by have:=hq.len;unfold few;omega
 have hm1:ring_may ⟨K,Pc,V,T,B,W,0⟩=true:=by rw [may_eq];exact hm
 obtain ⟨hk,hT,hB⟩:=may_cases hm
 simp only at hk hT hB
 rw [ring_Step,c1,hm1,if_neg (by simp),if_neg (by simp),List.nil_append,if_pos hf,acc_eq]
 have b1:=e.b1
 have b2:=e.b2
 have l1:=e.l1
 have l2:=e.l2
 have t1:=e.t1
 have t2:=e.t2
 have wb:=e.wb
 have c1:=e.c1
 rcases Int.lt_or_le B 0 with hB0|hB0<;>rcases Int.lt_or_le T 0 with hT0|hT0
 all_goals
  rcases hk with ⟨rfl,hp⟩|⟨rfl,hp⟩|⟨rfl,hp⟩
  ·rcases hp with rfl|rfl|rfl|rfl<;>(simp [letO,gA0,gA1,gA2,gA3,l1,l2,t1,t2,wb,b1,b2,hB0,hT0,c1,e.l3,e.s2,e.s3,e.t3,e.b3,Int.not_le.2,Int.not_lt.2,ring_Step_j100,ring_Step_j102,ring_Step_j103,ring_Step_j104,ring_Step_j107,ring_Step_j109,ring_Step_j110,ring_Step_j115,ring_Step_j116,ring_Step_j117,ring_Step_j120,ring_Step_j122,ring_Step_j123,ring_Step_j128,ring_Step_j129,ring_Step_j130,ring_Step_j133,ring_Step_j135,ring_Step_j136,ring_Step_j137,ring_Step_j140,ring_Step_j141,ring_Step_j143,ring_Step_j144,ring_Step_j147,ring_Step_j149,ring_Step_j150,ring_Step_j151,ring_Step_j154,ring_Step_j156,ring_Step_j157,ring_Step_j162,ring_Step_j163,ring_Step_j164,ring_Step_j165,ring_Step_j168,ring_Step_j170,ring_Step_j171,ring_Step_j174,ring_Step_j176,ring_Step_j177,ring_Step_j83,ring_Step_j88,ring_Step_j89,ring_Step_j94,ring_Step_j95,ring_Step_j96,ring_Step_j97];try (repeat' first|exact fin_some _ _ _ (by simp)|refine fin_if ?_ ?_))
  ·rcases hp with rfl|rfl|rfl|rfl|rfl|rfl|rfl<;>(simp [letO,gB0,gB1,gB2,gB3,gB4,gB5,gB6,l1,l2,t1,t2,wb,b1,b2,hB0,hT0,c1,e.l3,e.s2,e.s3,e.t3,e.b3,Int.not_le.2,Int.not_lt.2,ring_Step_j100,ring_Step_j102,ring_Step_j103,ring_Step_j104,ring_Step_j107,ring_Step_j109,ring_Step_j110,ring_Step_j115,ring_Step_j116,ring_Step_j117,ring_Step_j120,ring_Step_j122,ring_Step_j123,ring_Step_j128,ring_Step_j129,ring_Step_j130,ring_Step_j133,ring_Step_j135,ring_Step_j136,ring_Step_j137,ring_Step_j140,ring_Step_j141,ring_Step_j143,ring_Step_j144,ring_Step_j147,ring_Step_j149,ring_Step_j150,ring_Step_j151,ring_Step_j154,ring_Step_j156,ring_Step_j157,ring_Step_j162,ring_Step_j163,ring_Step_j164,ring_Step_j165,ring_Step_j168,ring_Step_j170,ring_Step_j171,ring_Step_j174,ring_Step_j176,ring_Step_j177,ring_Step_j83,ring_Step_j88,ring_Step_j89,ring_Step_j94,ring_Step_j95,ring_Step_j96,ring_Step_j97];try (repeat' first|exact fin_some _ _ _ (by simp)|refine fin_if ?_ ?_))
  ·rcases hp with rfl|rfl|rfl|rfl<;>(simp [letO,gC0,gC1,gC2,gC3,l1,l2,t1,t2,wb,b1,b2,hB0,hT0,c1,e.l3,e.s2,e.s3,e.t3,e.b3,Int.not_le.2,Int.not_lt.2,ring_Step_j100,ring_Step_j102,ring_Step_j103,ring_Step_j104,ring_Step_j107,ring_Step_j109,ring_Step_j110,ring_Step_j115,ring_Step_j116,ring_Step_j117,ring_Step_j120,ring_Step_j122,ring_Step_j123,ring_Step_j128,ring_Step_j129,ring_Step_j130,ring_Step_j133,ring_Step_j135,ring_Step_j136,ring_Step_j137,ring_Step_j140,ring_Step_j141,ring_Step_j143,ring_Step_j144,ring_Step_j147,ring_Step_j149,ring_Step_j150,ring_Step_j151,ring_Step_j154,ring_Step_j156,ring_Step_j157,ring_Step_j162,ring_Step_j163,ring_Step_j164,ring_Step_j165,ring_Step_j168,ring_Step_j170,ring_Step_j171,ring_Step_j174,ring_Step_j176,ring_Step_j177,ring_Step_j83,ring_Step_j88,ring_Step_j89,ring_Step_j94,ring_Step_j95,ring_Step_j96,ring_Step_j97];try (repeat' first|exact fin_some _ _ _ (by simp)|refine fin_if ?_ ?_))
end Go.Proofs.YtmlcinmdkhmjhaaGreat
