/- Helper lemmas for the claim's theorem: an abstract machine over the model, proved sound; no condition beyond each lemma's own. -/
import Derived.Test.YtkkimimkcchlnaaGreatL24ty
set_option linter.unusedVariables false
set_option linter.unusedSimpArgs false
set_option linter.unnecessarySimpa false
set_option linter.unusedSectionVars false
namespace Go.Proofs.YtkkimimkcchlnaaGreat
open Go Go.AM
set_option maxRecDepth 100000
set_option maxHeartbeats 1000000
set_option linter.unusedVariables false
set_option linter.unusedSimpArgs false
theorem fewC_eq {c:api_Config} (h:c.Progs.length≤9223372036854775807) (ha:∀p∈c.Progs,∀x∈p,i64ok x.A):∃r,r19_FewConfig c=some r∧(r=true→cok c):=by
 obtain ⟨r,h1,h2⟩:=few_poks h ha
 unfold r19_FewConfig
 rw [h1,Option.bind_some]
 refine ⟨_,rfl,fun h=>?_⟩
 simp only [Bool.and_eq_true,decide_eq_true_eq] at h
 exact ⟨(h2 h.1.1.1).1,by omega,by omega,by omega⟩
theorem fewLast {w:api_World} (hl:w.W.length≤9223372036854775807):∃r,whileO (r20_Few_s4 w) 0=some r∧(r=true→w.Sems.length≤20∧w.Fds.length≤40∧w.Joins.length≤100∧w.Idle.Is.length≤70∧w.W.length≤20∧w.Ten.length≤40):=by
 generalize hv:((((((((((((((((decide ((w.Dice.L.length:Int)≤2000))&&(decide ((w.T.length:Int)≤60)))&&(decide ((w.Mem.length:Int)≤400)))&&(decide ((w.Lists.Next.length:Int)≤100)))&&(decide ((w.Lists.Head.length:Int)≤100)))&&(decide ((w.Ten.length:Int)≤40)))&&(decide ((w.Heap.length:Int)≤100)))&&(decide ((w.Fds.length:Int)≤40)))&&(decide ((w.Sems.length:Int)≤20)))&&(decide ((w.Joins.length:Int)≤100)))&&(decide ((w.W.length:Int)≤20)))&&(decide ((w.Idle.Is.length:Int)≤70)))&&(decide ((w.Idle.Stack.length:Int)≤70)))&&(decide ((w.Seen.length:Int)≤2000)))&&(decide ((w.Ids.Gen.length:Int)≤300)))&&(decide ((w.Ids.Live.length:Int)≤300)))=v
 have hs:whileO (r20_Few_s4 w) 0=some (if w.W.any (fun x=>decide ((x.Ask.length:Int) > 100)) then false else v):=by
  rw [whileO_seek (step:=r20_Few_s4 w) (fun x=>decide ((x.Ask.length:Int) > 100)) w.W (fun _=>some false) (some v) hl (fun i hi=>by rw [r20_Few_s4,if_pos (by simpa using hi),if_pos (by omega)]) (by rw [r20_Few_s4,if_neg (by simp),hv]),seek_any]
  split<;>rfl
 refine ⟨_,hs,fun h=>?_⟩
 split at h
 ·cases h
 ·subst h
  simp only [Bool.and_eq_true,decide_eq_true_eq] at hv
  omega
theorem fewW_eq {w:api_World} (hl:w.W.length≤9223372036854775807) (hs:w.Sems.length≤9223372036854775807) (hi:∀x∈w.W,i64ok x.Task∧i64ok x.Kid):∃r,r20_Few w=some r∧(r=true→fewW w):=by
 obtain ⟨r,h1,h2⟩:=fewLast hl
 have h3:r20_Few w=some (if w.Sems.any (fun x=>decide ((x.Wait.length:Int) > 300)) then false else r):=by
  unfold r20_Few
  rw [whileO_seek (step:=r20_Few_s2 w) (fun x=>decide ((x.Wait.length:Int) > 300)) w.Sems (fun _=>some false) (some r) hs (fun i hi=>by rw [r20_Few_s2,if_pos (by simpa using hi),if_pos (by omega)]) (by rw [r20_Few_s2,if_neg (by simp),h1]),seek_any]
  split<;>rfl
 refine ⟨_,h3,fun h=>?_⟩
 split at h
 ·cases h
 ·have:=h2 h
  exact ⟨by omega,by omega,by omega,by omega,by omega,by omega,hi⟩
theorem live_eq:w24_live=some true:=by
 have hp:poks [[api_Instr.mk 9 0 0]]:=⟨by simp,fun p hp=>by
  simp at hp;subst hp
  exact ⟨by simp,by simp,fun x hx=>by simp at hx;subst hx;unfold i64ok;simp⟩⟩
 have hc:ckAll [[api_Instr.mk 9 0 0]]=true:=by decide
 have hD:D [[api_Instr.mk 9 0 0]] 1 0=some 1:=by decide
 have hF:Fw [[api_Instr.mk 9 0 0]] 1 0=some 2:=by decide
 have h:=Full_ok hp hc (by simp) hD (by omega) hF
 rw [if_neg (by omega)] at h
 unfold w24_live
 rw [h]
 simp only [Option.bind_some]
 rw [if_pos (by simp)]
 have h2:drain_Rest api_World.zero=some true:=whileO_inr rfl
 rw [h2];rfl
theorem drainTells_true {l:List (List api_Instr)} {i:Int} {c:api_Config} {w:api_World} (hl:l.length≤9223372036854775807) (ha:∀p∈l,∀x∈p,i64ok x.A)
 (hcl:c.Progs.length≤9223372036854775807) (hca:∀p∈c.Progs,∀x∈p,i64ok x.A) (hW:w.W.length≤9223372036854775807) (hS:w.Sems.length≤9223372036854775807) (hL:w.Ids.Live.length≤9223372036854775807) (hi:∀x∈w.W,i64ok x.Task∧i64ok x.Kid) :
 w24_DrainTells l i c w=some true:=by
 obtain ⟨r1,a1,b1⟩:=few_poks hl ha
 obtain ⟨r2,a2,b2⟩:=fewC_eq hcl hca
 obtain ⟨r3,a3,b3⟩:=fewW_eq hW hS hi
 unfold w24_DrainTells
 rw [live_eq,Option.bind_some,a1,Option.bind_some]
 cases r1 with
 | false=>rw [if_pos (by simp),w24_DrainTells_j1,if_pos rfl]
 | true =>
  rw [if_neg (by simp),a2,Option.bind_some]
  cases r2 with
  | false=>rw [w24_DrainTells_j1,if_pos (by simp)]
  | true =>
   rw [w24_DrainTells_j1,if_neg (by simp),a3,Option.bind_some]
   cases r3 with
   | false=>rw [if_pos (by simp)]
   | true =>
    rw [if_neg (by simp)]
    have hc:=b2 rfl
    have hp:∀p∈c.Progs,pok p:=fun p hp=>(hc.progs.2 p hp).2
    have f:=b3 rfl
    obtain ⟨⟨f1,f2⟩,g1,g2⟩:=full_same (i:=i) (b1 rfl).1
    obtain ⟨n,e,g3,g4,_⟩:=work_same hc hp f
    obtain ⟨⟨f3,f4⟩,g5,g6⟩:=bound_same hc hp f
    obtain ⟨r,g7,g8⟩:=rest_same hL
    rw [g1,g2,g3,g4,g5,g6]
    simp only [Option.bind_some]
    rw [g7,g8]
    simp
end Go.Proofs.YtkkimimkcchlnaaGreat
