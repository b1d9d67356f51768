/- Helper lemmas for the claim's theorem: an abstract machine over the model, proved sound; no condition beyond each lemma's own. -/
import Derived.Test.YtmlcinmdkhmjhaaGreatT2
set_option linter.unusedVariables false
set_option linter.unusedSimpArgs false
set_option linter.unnecessarySimpa false
set_option linter.unusedSectionVars false
namespace Go.Proofs.YtmlcinmdkhmjhaaGreat
open Go Go.AM
set_option maxRecDepth 100000
set_option maxHeartbeats 1000000
set_option linter.unusedVariables false
set_option linter.unusedSimpArgs false
variable {gl:List (Nat×List V)}
theorem slices_Clone_api_Sem_api_Sem_sc (xs:List api_Sem) (r:List api_Sem) (h:slices_Clone_api_Sem_api_Sem xs=some r):SC Tryz.prog gl 211 [V.sl 2 (rws api_Sem.cells xs)] (V.own 2 (rws api_Sem.cells r)):=by
 rw [slices_Clone_api_Sem_api_Sem] at h
 refine okG h (fun hf h=>?_)
 cases h
 refine SC.go Tryz.func211 Tryz.call211 0 ?_
 refine Q0 E_good rfl (v:=V.nils) (.fn rfl) ?_
 refine .go 0 ?_
 refine Q0 E_good rfl (v:=V.sl 2 (rws api_Sem.cells xs)) (.fn rfl) ?_
 refine SafeOps.nilcmp E_good rfl rfl rfl rfl rfl rfl rfl (fun b hb=>?_)
 refine .go 0 ?_
 cases b with
 | true =>
  have hx:xs=[]:=List.map_eq_nil_iff.1 (hb rfl)
  subst hx
  refine .go 1 ?_
  refine Q0 E_good rfl (v:=V.nils) (.fn rfl) ?_
  refine .go 0 ?_
  refine retG ?_
  exact ⟨_,(.nils _),by simp⟩
 | false =>
  refine .go 1 ?_
  refine SafeOps.quiet1 E_good rfl rfl rfl (.litM (f:=api_Sem.cells) (xs:=[]) rfl rfl (by decide) rfl rfl rfl rfl rfl) rfl ?_
  refine Q0 E_good rfl (v:=V.sl 2 (rws api_Sem.cells xs)) (.fn rfl) ?_
  refine SafeOps.appendM api_Sem.cells (xs:=[]) (ys:=xs) E_good rfl rfl rfl rfl rfl rfl rfl rfl rfl (.own rfl) (.sl _) (fun _=>rfl) hf ?_
  refine Q0 E_good rfl (v:=V.ref [7] 0 (rws api_Sem.cells ([]++xs)).length) (.fn rfl) ?_
  refine .go 0 ?_
  refine retG ?_
  exact ⟨_,.own rfl rfl,by simp⟩
theorem slices_Clone_api_Join_api_Join_sc (xs:List api_Join) (r:List api_Join) (h:slices_Clone_api_Join_api_Join xs=some r):SC Tryz.prog gl 212 [V.sl 2 (rws api_Join.cells xs)] (V.own 2 (rws api_Join.cells r)):=by
 rw [slices_Clone_api_Join_api_Join] at h
 refine okG h (fun hf h=>?_)
 cases h
 refine SC.go Tryz.func212 Tryz.call212 0 ?_
 refine Q0 E_good rfl (v:=V.nils) (.fn rfl) ?_
 refine .go 0 ?_
 refine Q0 E_good rfl (v:=V.sl 2 (rws api_Join.cells xs)) (.fn rfl) ?_
 refine SafeOps.nilcmp E_good rfl rfl rfl rfl rfl rfl rfl (fun b hb=>?_)
 refine .go 0 ?_
 cases b with
 | true =>
  have hx:xs=[]:=List.map_eq_nil_iff.1 (hb rfl)
  subst hx
  refine .go 1 ?_
  refine Q0 E_good rfl (v:=V.nils) (.fn rfl) ?_
  refine .go 0 ?_
  refine retG ?_
  exact ⟨_,(.nils _),by simp⟩
 | false =>
  refine .go 1 ?_
  refine SafeOps.quiet1 E_good rfl rfl rfl (.litM (f:=api_Join.cells) (xs:=[]) rfl rfl (by decide) rfl rfl rfl rfl rfl) rfl ?_
  refine Q0 E_good rfl (v:=V.sl 2 (rws api_Join.cells xs)) (.fn rfl) ?_
  refine SafeOps.appendM api_Join.cells (xs:=[]) (ys:=xs) E_good rfl rfl rfl rfl rfl rfl rfl rfl rfl (.own rfl) (.sl _) (fun _=>rfl) hf ?_
  refine Q0 E_good rfl (v:=V.ref [7] 0 (rws api_Join.cells ([]++xs)).length) (.fn rfl) ?_
  refine .go 0 ?_
  refine retG ?_
  exact ⟨_,.own rfl rfl,by simp⟩
theorem slices_Clone_api_Worker_api_Worker_sc (xs:List api_Worker) (r:List api_Worker) (h:slices_Clone_api_Worker_api_Worker xs=some r):SC Tryz.prog gl 213 [V.sl 14 (rws api_Worker.cells xs)] (V.own 14 (rws api_Worker.cells r)):=by
 rw [slices_Clone_api_Worker_api_Worker] at h
 refine okG h (fun hf h=>?_)
 cases h
 refine SC.go Tryz.func213 Tryz.call213 0 ?_
 refine Q0 E_good rfl (v:=V.nils) (.fn rfl) ?_
 refine .go 0 ?_
 refine Q0 E_good rfl (v:=V.sl 14 (rws api_Worker.cells xs)) (.fn rfl) ?_
 refine SafeOps.nilcmp E_good rfl rfl rfl rfl rfl rfl rfl (fun b hb=>?_)
 refine .go 0 ?_
 cases b with
 | true =>
  have hx:xs=[]:=List.map_eq_nil_iff.1 (hb rfl)
  subst hx
  refine .go 1 ?_
  refine Q0 E_good rfl (v:=V.nils) (.fn rfl) ?_
  refine .go 0 ?_
  refine retG ?_
  exact ⟨_,(.nils _),by simp⟩
 | false =>
  refine .go 1 ?_
  refine SafeOps.quiet1 E_good rfl rfl rfl (.litM (f:=api_Worker.cells) (xs:=[]) rfl rfl (by decide) rfl rfl rfl rfl rfl) rfl ?_
  refine Q0 E_good rfl (v:=V.sl 14 (rws api_Worker.cells xs)) (.fn rfl) ?_
  refine SafeOps.appendM api_Worker.cells (xs:=[]) (ys:=xs) E_good rfl rfl rfl rfl rfl rfl rfl rfl rfl (.own rfl) (.sl _) (fun _=>rfl) hf ?_
  refine Q0 E_good rfl (v:=V.ref [7] 0 (rws api_Worker.cells ([]++xs)).length) (.fn rfl) ?_
  refine .go 0 ?_
  refine retG ?_
  exact ⟨_,.own rfl rfl,by simp⟩
theorem slices_Clone_api_Event_api_Event_sc (xs:List api_Event) (r:List api_Event) (h:slices_Clone_api_Event_api_Event xs=some r):SC Tryz.prog gl 214 [V.sl 3 (rws api_Event.cells xs)] (V.own 3 (rws api_Event.cells r)):=by
 rw [slices_Clone_api_Event_api_Event] at h
 refine okG h (fun hf h=>?_)
 cases h
 refine SC.go Tryz.func214 Tryz.call214 0 ?_
 refine Q0 E_good rfl (v:=V.nils) (.fn rfl) ?_
 refine .go 0 ?_
 refine Q0 E_good rfl (v:=V.sl 3 (rws api_Event.cells xs)) (.fn rfl) ?_
 refine SafeOps.nilcmp E_good rfl rfl rfl rfl rfl rfl rfl (fun b hb=>?_)
 refine .go 0 ?_
 cases b with
 | true =>
  have hx:xs=[]:=List.map_eq_nil_iff.1 (hb rfl)
  subst hx
  refine .go 1 ?_
  refine Q0 E_good rfl (v:=V.nils) (.fn rfl) ?_
  refine .go 0 ?_
  refine retG ?_
  exact ⟨_,(.nils _),by simp⟩
 | false =>
  refine .go 1 ?_
  refine SafeOps.quiet1 E_good rfl rfl rfl (.litM (f:=api_Event.cells) (xs:=[]) rfl rfl (by decide) rfl rfl rfl rfl rfl) rfl ?_
  refine Q0 E_good rfl (v:=V.sl 3 (rws api_Event.cells xs)) (.fn rfl) ?_
  refine SafeOps.appendM api_Event.cells (xs:=[]) (ys:=xs) E_good rfl rfl rfl rfl rfl rfl rfl rfl rfl (.own rfl) (.sl _) (fun _=>rfl) hf ?_
  refine Q0 E_good rfl (v:=V.ref [7] 0 (rws api_Event.cells ([]++xs)).length) (.fn rfl) ?_
  refine .go 0 ?_
  refine retG ?_
  exact ⟨_,.own rfl rfl,by simp⟩
theorem slices_Clone_int64_int64_sc (xs:List Int) (r:List Int) (h:slices_Clone_int64_int64 xs=some r):SC Tryz.prog gl 215 [V.sl 1 (rws (fun n=>[I n]) xs)] (V.own 1 (rws (fun n=>[I n]) r)):=by
 rw [slices_Clone_int64_int64] at h
 refine okG h (fun hf h=>?_)
 cases h
 refine SC.go Tryz.func215 Tryz.call215 0 ?_
 refine Q0 E_good rfl (v:=V.nils) (.fn rfl) ?_
 refine .go 0 ?_
 refine Q0 E_good rfl (v:=V.sl 1 (rws (fun n=>[I n]) xs)) (.fn rfl) ?_
 refine SafeOps.nilcmp E_good rfl rfl rfl rfl rfl rfl rfl (fun b hb=>?_)
 refine .go 0 ?_
 cases b with
 | true =>
  have hx:xs=[]:=List.map_eq_nil_iff.1 (hb rfl)
  subst hx
  refine .go 1 ?_
  refine Q0 E_good rfl (v:=V.nils) (.fn rfl) ?_
  refine .go 0 ?_
  refine retG ?_
  exact ⟨_,(.nils _),by simp⟩
 | false =>
  refine .go 1 ?_
  refine SafeOps.quiet1 E_good rfl rfl rfl (.litM (f:=(fun n=>[I n])) (xs:=[]) rfl rfl (by decide) rfl rfl rfl rfl rfl) rfl ?_
  refine Q0 E_good rfl (v:=V.sl 1 (rws (fun n=>[I n]) xs)) (.fn rfl) ?_
  refine SafeOps.appendM (fun n=>[I n]) (xs:=[]) (ys:=xs) E_good rfl rfl rfl rfl rfl rfl rfl rfl rfl (.own rfl) (.sl _) (fun _=>rfl) hf ?_
  refine Q0 E_good rfl (v:=V.ref [7] 0 (rws (fun n=>[I n]) ([]++xs)).length) (.fn rfl) ?_
  refine .go 0 ?_
  refine retG ?_
  exact ⟨_,.own rfl rfl,by simp⟩
theorem slices_Clone_bool_bool_sc (xs:List Bool) (r:List Bool) (h:slices_Clone_bool_bool xs=some r):SC Tryz.prog gl 216 [V.sl 1 (rws (fun b=>[V.bool b]) xs)] (V.own 1 (rws (fun b=>[V.bool b]) r)):=by
 rw [slices_Clone_bool_bool] at h
 refine okG h (fun hf h=>?_)
 cases h
 refine SC.go Tryz.func216 Tryz.call216 0 ?_
 refine Q0 E_good rfl (v:=V.nils) (.fn rfl) ?_
 refine .go 0 ?_
 refine Q0 E_good rfl (v:=V.sl 1 (rws (fun b=>[V.bool b]) xs)) (.fn rfl) ?_
 refine SafeOps.nilcmp E_good rfl rfl rfl rfl rfl rfl rfl (fun b hb=>?_)
 refine .go 0 ?_
 cases b with
 | true =>
  have hx:xs=[]:=List.map_eq_nil_iff.1 (hb rfl)
  subst hx
  refine .go 1 ?_
  refine Q0 E_good rfl (v:=V.nils) (.fn rfl) ?_
  refine .go 0 ?_
  refine retG ?_
  exact ⟨_,(.nils _),by simp⟩
 | false =>
  refine .go 1 ?_
  refine SafeOps.quiet1 E_good rfl rfl rfl (.litM (f:=(fun b=>[V.bool b])) (xs:=[]) rfl rfl (by decide) rfl rfl rfl rfl rfl) rfl ?_
  refine Q0 E_good rfl (v:=V.sl 1 (rws (fun b=>[V.bool b]) xs)) (.fn rfl) ?_
  refine SafeOps.appendM (fun b=>[V.bool b]) (xs:=[]) (ys:=xs) E_good rfl rfl rfl rfl rfl rfl rfl rfl rfl (.own rfl) (.sl _) (fun _=>rfl) hf ?_
  refine Q0 E_good rfl (v:=V.ref [7] 0 (rws (fun b=>[V.bool b]) ([]++xs)).length) (.fn rfl) ?_
  refine .go 0 ?_
  refine retG ?_
  exact ⟨_,.own rfl rfl,by simp⟩
theorem crew_own_sc (a413:api_World) (r:api_World) (h:crew_own a413=some r):SC Tryz.prog gl 158 [V.agg a413.cells] (V.agg [I r.Now,V.own 1 (rws (fun n=>[V.int .u8 n]) r.Dice.L),I r.Dice.At,V.own 1 (rws (fun n=>[I n]) r.Ids.Gen),V.own 1 (rws (fun b=>[V.bool b]) r.Ids.Live),V.own 11 (rws api_Task.cells r.T),V.own 1 (rws (fun n=>[I n]) r.Mem),V.own 1 (rws (fun n=>[I n]) r.Lists.Next),V.own 1 (rws (fun n=>[I n]) r.Lists.Head),V.own 1 (rws (fun n=>[I n]) r.Lists.Tail),V.own 5 (rws api_Tenant.cells r.Ten),V.own 2 (rws api_Timer.cells r.Heap),V.own 3 (rws api_Fd.cells r.Fds),V.own 2 (rws api_Sem.cells r.Sems),V.own 2 (rws api_Join.cells r.Joins),V.own 1 (rws (fun n=>[I n]) r.Idle.Is),V.own 1 (rws (fun n=>[I n]) r.Idle.Stack),V.own 14 (rws api_Worker.cells r.W),V.bool r.Down,V.own 3 (rws api_Event.cells r.Seen)]) :=
 .w Tryz.func158 Tryz.call158 h (.D 2 32 [(21,[1]),(23,[1]),(25,[1]),(27,[1]),(29,[1]),(31,[1])] [] (.A 30 [0,1] (.P 2 [] (.A 28 [4] (.P 5 [] (.A 26 [7] (.P 8 [] (.A 24 [10] (.P 11 [] (.A 22 [13] (.P 14 [] (.A 20 [16] (.P 17 [] (.b fun x414=>.oh 3 (slices_Clone_byte_byte_sc a413.Dice.L) (.A 16 [19,20] (.b fun x415=>.oh 6 (slices_Clone_api_Task_api_Task_sc a413.T) (.b fun x416=>.oh 9 (slices_Clone_api_Mem_int64_sc a413.Mem) (.b fun x417=>.oh 12 (slices_Clone_api_Tenant_api_Tenant_sc a413.Ten) (.b fun x418=>.oh 15 (slices_Clone_api_Timer_api_Timer_sc a413.Heap) (.b fun x419=>.oh 18 (slices_Clone_api_Fd_api_Fd_sc a413.Fds) (.w 21 (.A 9 [22] (.w 23 (.A 7 [24] (.w 25 (.A 5 [26] (.w 27 (.A 3 [28] (.w 29 (.A 1 [30] (.w 31 (.Z (.D 0 20 [(13,[1]),(15,[1]),(17,[1]),(19,[1])] [] (.A 19 [0] (.P 1 [] (.A 17 [3] (.P 4 [] (.A 15 [6] (.P 7 [] (.A 13 [9] (.P 10 [] (.b fun(x434:List api_Sem)=>.oh 2 (slices_Clone_api_Sem_api_Sem_sc a413.Sems) (.A 10 [12] (.b fun x420=>.oh 5 (slices_Clone_api_Join_api_Join_sc a413.Joins) (.b fun(x421:List api_Worker)=>.oh 8 (slices_Clone_api_Worker_api_Worker_sc a413.W) (.b fun x422=>.oh 11 (slices_Clone_api_Event_api_Event_sc a413.Seen) (.w 13 (.A 5 [14] (.w 15 (.A 3 [16] (.w 17 (.A 1 [18] (.w 19 (.Z (.D 0 11 [(10,[1])] [] (.A 9 [0,1] (.P 2 [] (.A 6 [4,5] (.P 6 [] (.b fun x423=>.oh 3 (slices_Clone_int64_int64_sc a413.Ids.Gen) (.b fun x424=>.oh 7 (slices_Clone_bool_bool_sc a413.Ids.Live) (.A 1 [8,9] (.w 10 (.Z (.D 0 15 [(14,[1])] [] (.A 13 [0,1] (.P 2 [] (.A 10 [4,5] (.P 6 [] (.A 7 [8,9] (.P 10 [] (.b fun x425=>.oh 3 (slices_Clone_int_int_sc a413.Lists.Next) (.b fun x426=>.oh 7 (slices_Clone_int_int_sc a413.Lists.Head) (.b fun x427=>.oh 11 (slices_Clone_int_int_sc a413.Lists.Tail) (.A 1 [12,13] (.w 14 (.Z (.D 0 11 [(10,[1])] [] (.A 9 [0,1] (.P 2 [] (.A 6 [4,5] (.P 6 [] (.b fun x428=>.oh 3 (slices_Clone_int_int_sc a413.Idle.Is) (.b fun x429=>.oh 7 (slices_Clone_int_int_sc a413.Idle.Stack) (.A 1 [8,9] (.w 10 (.Z (.e 2 (.l2 1 [1,2,83] [] [[2],[8,0],[11,0],[14,0],[17,0],[20,0],[23,0],[36,0],[39,0],[42,0],[50,0],[54,0],[60,0],[64,0],[68,0],[74,0],[78,0]] (fun v435 v430 s=>((s.t 84 (I v435)).o [1] (Obj.box [I a413.Now,V.ref [8,0] 0 (rws (fun n=>[V.int .u8 n]) x414).length,I a413.Dice.At,V.ref [50,0] 0 (rws (fun n=>[I n]) x423).length,V.ref [54,0] 0 (rws (fun b=>[V.bool b]) x424).length,V.ref [11,0] 0 (rws api_Task.cells x415).length,V.ref [14,0] 0 (rws (fun n=>[I n]) x416).length,V.ref [60,0] 0 (rws (fun n=>[I n]) x425).length,V.ref [64,0] 0 (rws (fun n=>[I n]) x426).length,V.ref [68,0] 0 (rws (fun n=>[I n]) x427).length,V.ref [17,0] 0 (rws api_Tenant.cells x417).length,V.ref [20,0] 0 (rws api_Timer.cells x418).length,V.ref [23,0] 0 (rws api_Fd.cells x419).length,V.ref [33,0] 0 (rws api_Sem.cells v430).length,V.ref [36,0] 0 (rws api_Join.cells x420).length,V.ref [74,0] 0 (rws (fun n=>[I n]) x428).length,V.ref [78,0] 0 (rws (fun n=>[I n]) x429).length,V.ref [39,0] 0 (rws api_Worker.cells x421).length,V.bool a413.Down,V.ref [42,0] 0 (rws api_Event.cells x422).length])).o [33,0] (Obj.rows 2 (rws api_Sem.cells v430) false)) fun v435 v430=>.i 1 (.D 2 13 [] [12] (.A 7 (up 0 6) (.k (.P 6 [] (.A 5 [7] (.P 8 [] (.b fun x436=>.oh 9 (slices_Clone_int64_int64_sc ((gt v430 v435).Wait)) (.k (.P 10 [] (.A 1 [11] (.a 12 (.fz 0 [96,0] (.h 0 96 (V.sl 1 (rws (fun n=>[I n]) x436)) (.st 0 ((api_Sem.mk ((gt v430 v435).Free) x436)) (.h 0 88 (V.ref [33,0] 0 (rws api_Sem.cells (st v430 v435 (api_Sem.mk ((gt v430 v435).Free) x436))).length) (.h 0 91 (V.ref [33,0] 0 (rws api_Sem.cells (st v430 v435 (api_Sem.mk ((gt v430 v435).Free) x436))).length) (.hB 0 [1] [I a413.Now,V.ref [8,0] 0 (rws (fun n=>[V.int .u8 n]) x414).length,I a413.Dice.At,V.ref [50,0] 0 (rws (fun n=>[I n]) x423).length,V.ref [54,0] 0 (rws (fun b=>[V.bool b]) x424).length,V.ref [11,0] 0 (rws api_Task.cells x415).length,V.ref [14,0] 0 (rws (fun n=>[I n]) x416).length,V.ref [60,0] 0 (rws (fun n=>[I n]) x425).length,V.ref [64,0] 0 (rws (fun n=>[I n]) x426).length,V.ref [68,0] 0 (rws (fun n=>[I n]) x427).length,V.ref [17,0] 0 (rws api_Tenant.cells x417).length,V.ref [20,0] 0 (rws api_Timer.cells x418).length,V.ref [23,0] 0 (rws api_Fd.cells x419).length,V.ref [33,0] 0 (rws api_Sem.cells (st v430 v435 (api_Sem.mk ((gt v430 v435).Free) x436))).length,V.ref [36,0] 0 (rws api_Join.cells x420).length,V.ref [74,0] 0 (rws (fun n=>[I n]) x428).length,V.ref [78,0] 0 (rws (fun n=>[I n]) x429).length,V.ref [39,0] 0 (rws api_Worker.cells x421).length,V.bool a413.Down,V.ref [42,0] 0 (rws api_Event.cells x422).length] (.z 0 (.Z (.n 2)))))))))))))))))))) (.o (.e 2 (.l2 1 [1,2,102] [] [[2],[8,0],[11,0],[14,0],[17,0],[20,0],[23,0],[33,0],[36,0],[42,0],[50,0],[54,0],[60,0],[64,0],[68,0],[74,0],[78,0]] (fun v431 v432 s=>((s.t 103 (I v431)).o [1] (Obj.box [I a413.Now,V.ref [8,0] 0 (rws (fun n=>[V.int .u8 n]) x414).length,I a413.Dice.At,V.ref [50,0] 0 (rws (fun n=>[I n]) x423).length,V.ref [54,0] 0 (rws (fun b=>[V.bool b]) x424).length,V.ref [11,0] 0 (rws api_Task.cells x415).length,V.ref [14,0] 0 (rws (fun n=>[I n]) x416).length,V.ref [60,0] 0 (rws (fun n=>[I n]) x425).length,V.ref [64,0] 0 (rws (fun n=>[I n]) x426).length,V.ref [68,0] 0 (rws (fun n=>[I n]) x427).length,V.ref [17,0] 0 (rws api_Tenant.cells x417).length,V.ref [20,0] 0 (rws api_Timer.cells x418).length,V.ref [23,0] 0 (rws api_Fd.cells x419).length,V.ref [33,0] 0 (rws api_Sem.cells v430).length,V.ref [36,0] 0 (rws api_Join.cells x420).length,V.ref [74,0] 0 (rws (fun n=>[I n]) x428).length,V.ref [78,0] 0 (rws (fun n=>[I n]) x429).length,V.ref [39,0] 0 (rws api_Worker.cells v432).length,V.bool a413.Down,V.ref [42,0] 0 (rws api_Event.cells x422).length])).o [39,0] (Obj.rows 14 (rws api_Worker.cells v432) false)) fun v431 v432=>.i 1 (.D 2 13 [] [12] (.A 7 (up 0 6) (.k (.P 6 [] (.A 5 [7] (.P 8 [] (.b fun x433=>.oh 9 (slices_Clone_int_int_sc ((gt v432 v431).Ask)) (.k (.P 10 [] (.A 1 [11] (.a 12 (.fz 0 [115,0] (.h 0 115 (V.sl 1 (rws (fun n=>[I n]) x433)) (.st 0 ((api_Worker.mk ((gt v432 v431).Do) (api_Hand.mk ((gt v432 v431).Hand.Kind) ((gt v432 v431).Hand.Pc) ((gt v432 v431).Hand.V) ((gt v432 v431).Hand.T) ((gt v432 v431).Hand.B) ((gt v432 v431).Hand.Won) ((gt v432 v431).Hand.State)) ((gt v432 v431).At) x433 ((gt v432 v431).Task) ((gt v432 v431).Left) ((gt v432 v431).Kid) ((gt v432 v431).Spill))) (.h 0 107 (V.ref [39,0] 0 (rws api_Worker.cells (st v432 v431 (api_Worker.mk ((gt v432 v431).Do) (api_Hand.mk ((gt v432 v431).Hand.Kind) ((gt v432 v431).Hand.Pc) ((gt v432 v431).Hand.V) ((gt v432 v431).Hand.T) ((gt v432 v431).Hand.B) ((gt v432 v431).Hand.Won) ((gt v432 v431).Hand.State)) ((gt v432 v431).At) x433 ((gt v432 v431).Task) ((gt v432 v431).Left) ((gt v432 v431).Kid) ((gt v432 v431).Spill)))).length) (.h 0 110 (V.ref [39,0] 0 (rws api_Worker.cells (st v432 v431 (api_Worker.mk ((gt v432 v431).Do) (api_Hand.mk ((gt v432 v431).Hand.Kind) ((gt v432 v431).Hand.Pc) ((gt v432 v431).Hand.V) ((gt v432 v431).Hand.T) ((gt v432 v431).Hand.B) ((gt v432 v431).Hand.Won) ((gt v432 v431).Hand.State)) ((gt v432 v431).At) x433 ((gt v432 v431).Task) ((gt v432 v431).Left) ((gt v432 v431).Kid) ((gt v432 v431).Spill)))).length) (.hB 0 [1] [I a413.Now,V.ref [8,0] 0 (rws (fun n=>[V.int .u8 n]) x414).length,I a413.Dice.At,V.ref [50,0] 0 (rws (fun n=>[I n]) x423).length,V.ref [54,0] 0 (rws (fun b=>[V.bool b]) x424).length,V.ref [11,0] 0 (rws api_Task.cells x415).length,V.ref [14,0] 0 (rws (fun n=>[I n]) x416).length,V.ref [60,0] 0 (rws (fun n=>[I n]) x425).length,V.ref [64,0] 0 (rws (fun n=>[I n]) x426).length,V.ref [68,0] 0 (rws (fun n=>[I n]) x427).length,V.ref [17,0] 0 (rws api_Tenant.cells x417).length,V.ref [20,0] 0 (rws api_Timer.cells x418).length,V.ref [23,0] 0 (rws api_Fd.cells x419).length,V.ref [33,0] 0 (rws api_Sem.cells v430).length,V.ref [36,0] 0 (rws api_Join.cells x420).length,V.ref [74,0] 0 (rws (fun n=>[I n]) x428).length,V.ref [78,0] 0 (rws (fun n=>[I n]) x429).length,V.ref [39,0] 0 (rws api_Worker.cells (st v432 v431 (api_Worker.mk ((gt v432 v431).Do) (api_Hand.mk ((gt v432 v431).Hand.Kind) ((gt v432 v431).Hand.Pc) ((gt v432 v431).Hand.V) ((gt v432 v431).Hand.T) ((gt v432 v431).Hand.B) ((gt v432 v431).Hand.Won) ((gt v432 v431).Hand.State)) ((gt v432 v431).At) x433 ((gt v432 v431).Task) ((gt v432 v431).Left) ((gt v432 v431).Kid) ((gt v432 v431).Spill)))).length,V.bool a413.Down,V.ref [42,0] 0 (rws api_Event.cells x422).length] (.z 0 (.Z (.n 2)))))))))))))))))))) (.o (.R 2))))))))))))))))))))))))))))))))))))))))))))))))))))))))))))))))))))))))))))))))))))))))))))))
theorem lodge_change_1225_sc (a439:List api_Tenant) (a440:Int) (r:(List api_Tenant)×Int) (h:lodge_change_1225 a439 a440=some r):SC Tryz.prog gl 224 [V.sl 5 (rws api_Tenant.cells a439),I a440,V.fn 225 []] (V.tup [V.own 5 (rws api_Tenant.cells r.1),I r.2]):=by
 rw [lodge_change_1225] at h
 refine SC.go Tryz.func224 Tryz.call224 3 ?_
 refine bindG h ?_
 intro x441 he12936 h
 refine .cP (lodge_Check_sc a439 _ he12936) ?_
 refine .go 3 ?_
 refine .ifC h (fun hc12937 h=>?_) (fun hc12937 h=>?_)
 ·exact .w h (.R 3)
 ·refine .go 3 ?_
  refine SafeOps.bjoinL 5 23 18 rfl (b:=((decide (a440 < 0))||(decide (a440≥(a439.length:Int))))) (b1:=true) (b0:=decide (a440≥(a439.length:Int))) (fun hc12938 K=>?_) (fun hc12938 K=>?_) bj_or ?_
  ·refine rO 5 ?_
   exact SafeOps.drop' 5 rfl rfl rfl K
  ·exact .w h (.e 2 (.K 2 5))
  refine .go 0 ?_
  refine .ifC h (fun hc12939 h=>?_) (fun hc12939 h=>?_)
  ·exact .w h (.R 2)
  ·refine .go 1 ?_
   refine bindG h ?_
   intro x442 he12941 h
   refine .cP (slices_Clone_api_Tenant_api_Tenant_sc a439 _ he12941) ?_
   refine .go 4 ?_
   refine okG h (fun hb12942 h=>?_)
   refine Q0 E_good rfl (v:=V.ptr [25,0] (0+Int.toNat a440) 0) (.idxRefM (f:=api_Tenant.cells) (xs:=x442) rfl rfl rfl rfl rfl rfl hb12942) ?_
   refine .joinR 1 (fun((v437,v438):(List api_Tenant)×Int)=>lodge_change_1225_j1 v437 v438=some r) (fun((v437,v438):(List api_Tenant)×Int)=>⟨Tryz.f224.ntmps,[(9,V.ref [25,0] 0 (rws api_Tenant.cells v437).length),(30,I v438)],[([25,0],Obj.rows 5 (rws api_Tenant.cells v437) false)],[],[]⟩) ?_ (fun HJ12946=>?_)
   ·rintro ⟨v437,v438⟩ h
    dsimp only at h
    rw [lodge_change_1225_j1] at h
    exact .w h (.i 3 (.R 3) (.R 3))
   ·refine .inl Tryz.func225 Tryz.call225 1 ?_
    refine Safe.regionD (n:=9) [] [] E_good mixed rfl ?_
    refine rA 6 (up 0 3) ?_
    refine DT 3 [] rfl rfl (v:=I ((gt x442 a440).Live)) (fun _ hz=>(.load rfl rfl (.rowsM (f:=api_Tenant.cells) (xs:=x442) hb12942 (hz _ _ rfl rfl) rfl) rfl)) ?_
    refine rA 2 (up 4 3) ?_
    refine DT 7 [] rfl rfl (v:=I ((gt x442 a440).Quota)) (fun _ hz=>(.load rfl rfl (.rowsM (f:=api_Tenant.cells) (xs:=x442) hb12942 (hz _ _ rfl rfl) rfl) rfl)) ?_
    refine rA 0 [8] ?_
    refine DAny.nil (by kernel_rfl) ?_
    refine .go 0 ?_
    refine .ifC h (fun hc12948 h=>?_) (fun hc12948 h=>?_)
    ·refine .goN 2 ?_
     exact .got (HJ12946 (x442,10) h) covA
    ·refine .go 3 ?_
     refine Q0 E_good rfl (v:=I ((gt x442 a440).Live)) (.load rfl rfl (.rowsM (f:=api_Tenant.cells) (xs:=x442) hb12942 rfl rfl) rfl) ?_
     refine .go 3 ?_
     refine SafeOps.store (z:=Obj.rows 5 (rws api_Tenant.cells (st x442 a440 (api_Tenant.mk ((gt x442 a440).Weight) ((gt x442 a440).Quota) (IntKind.i64.wrap (((gt x442 a440).Live)+1)) ((gt x442 a440).Tag) ((gt x442 a440).Ran)))) false) E_good rfl rfl rfl rfl rfl rfl rfl (.rowsM (f:=api_Tenant.cells) (xs:=x442) (y:=(api_Tenant.mk ((gt x442 a440).Weight) ((gt x442 a440).Quota) (IntKind.i64.wrap (((gt x442 a440).Live)+1)) ((gt x442 a440).Tag) ((gt x442 a440).Ran))) hb12942 rfl rfl rfl rfl) ?_
     refine .goN 2 ?_
     exact .got (HJ12946 (st x442 a440 (api_Tenant.mk ((gt x442 a440).Weight) ((gt x442 a440).Quota) (IntKind.i64.wrap (((gt x442 a440).Live)+1)) ((gt x442 a440).Tag) ((gt x442 a440).Ran)),0) h) (.cov ⟨rfl,rfl,(upT_cons (.len (by simp [rws,st])) (ut upT_nil)),(uo upOb_nil),upOut_nil,rfl⟩)
theorem lodge_Admit_sc (a443:List api_Tenant) (a444:Int) (r:(List api_Tenant)×Int) (h:lodge_Admit a443 a444=some r):SC Tryz.prog gl 167 [V.sl 5 (rws api_Tenant.cells a443),I a444] (V.tup [V.own 5 (rws api_Tenant.cells r.1),I r.2]) :=
 .w Tryz.func167 Tryz.call167 h (.b2 fun x445 x446=>.g 4 (lodge_change_1225_sc a443 a444) (.R 4))
theorem slot_own_sc (a447:api_Places) (r:api_Places) (h:slot_own a447=some r):SC Tryz.prog gl 227 [V.agg a447.cells] (V.agg [V.own 1 (rws (fun n=>[I n]) r.Gen),V.own 1 (rws (fun b=>[V.bool b]) r.Live)]) :=
 .w Tryz.func227 Tryz.call227 h (.D 2 8 [(7,[2])] [] (.A 4 [0,1,3,4] (.b fun x448=>.oh 2 (slices_Clone_int64_int64_sc a447.Gen) (.b fun x449=>.oh 5 (slices_Clone_bool_bool_sc a447.Live) (.A 1 [6] (.w 7 (.Z (.R 0))))))))
theorem slot_id_sc (a450:api_Places) (a451:Int) (r:Int) (h:slot_id a450 a451=some r):SC Tryz.prog gl 228 [V.agg a450.cells,I a451] (I r) :=
 .w Tryz.func228 Tryz.call228 h (.q 5 (.r 4))
theorem slot_Take_sc (a452:api_Places) (r:Int×api_Places×Int) (h:slot_Take a452=some r):SC Tryz.prog gl 168 [V.agg a452.cells] (V.tup [I r.1,V.agg [V.own 1 (rws (fun n=>[I n]) r.2.1.Gen),V.own 1 (rws (fun b=>[V.bool b]) r.2.1.Live)],I r.2.2]) :=
 .w Tryz.func168 Tryz.call168 h (.v 5 (slot_Check_sc a452) fun x457=>.i 3 (.R 5) (.e 4 (.l1 1 [1,3,6,18] [] [[1],[3]] (fun v453 s=>s.t 19 (I v453)) fun v453=>.i 1 (.j1 4 2 1 [1,3,6,7,18,19] [] [[1],[3]] (slot_Take_j4 a452 v453) (fun v454 s=>s.t 24 (V.bool v454)) (fun v454=>.i 0 (.v 1 (slot_own_sc a452) fun(x455:api_Places)=>.k (.Q 5 (.st 0 true (.h 0 28 (V.ref [26,1] 0 (rws (fun b=>[V.bool b]) (st x455.Live v453 true)).length) (.hB 0 [8] [V.ref [26,0] 0 (rws (fun n=>[I n]) x455.Gen).length,V.ref [26,1] 0 (rws (fun b=>[V.bool b]) (st x455.Live v453 true)).length] (.D 0 7 [(5,[3])] [] (.A 5 [0,1] (.v 2 (slot_id_sc a452 v453) fun x456=>.A 2 [3,4] (.w 5 (.A 0 [6] (.Z (.o (.R 0))))))))))))) (.n 2)) fun HJ13068=>.y 0 Tryz.func226 Tryz.call226 (.q 4 (.s 2 10 (.q 3 (.J 4 HJ13068)) (.J 9 HJ13068)))) (.o (.R 4)))))
theorem life_New_sc (a458:Int) (a459:Int) (a460:Int) (r:api_Task×Int) (h:life_New a458 a459 a460=some r):SC Tryz.prog gl 169 [I a458,I a459,I a460] (V.tup [V.agg (api_Task.cells r.1),I r.2]) :=
 .w Tryz.func169 Tryz.call169 h (.v 10 (life_Check_sc (api_Task.mk a458 a459 a460 0 0 (A4_Int.mk (-1) (-1) (-1) (-1)) 1 0)) fun x461=>.i 3 (.r 4) (.r 3))
theorem crew_Spawn_sc (a476:api_Config) (a477:api_World) (a478:Int) (a479:Int) (r:Int×api_World×Int) (h:crew_Spawn a476 a477 a478 a479=some r):SC Tryz.prog gl 16 [V.agg a476.cells,V.agg a477.cells,I a478,I a479] (V.tup [I r.1,V.agg [I r.2.1.Now,V.own 1 (rws (fun n=>[V.int .u8 n]) r.2.1.Dice.L),I r.2.1.Dice.At,V.own 1 (rws (fun n=>[I n]) r.2.1.Ids.Gen),V.own 1 (rws (fun b=>[V.bool b]) r.2.1.Ids.Live),V.own 11 (rws api_Task.cells r.2.1.T),V.own 1 (rws (fun n=>[I n]) r.2.1.Mem),V.own 1 (rws (fun n=>[I n]) r.2.1.Lists.Next),V.own 1 (rws (fun n=>[I n]) r.2.1.Lists.Head),V.own 1 (rws (fun n=>[I n]) r.2.1.Lists.Tail),V.own 5 (rws api_Tenant.cells r.2.1.Ten),V.own 2 (rws api_Timer.cells r.2.1.Heap),V.own 3 (rws api_Fd.cells r.2.1.Fds),V.own 2 (rws api_Sem.cells r.2.1.Sems),V.own 2 (rws api_Join.cells r.2.1.Joins),V.own 1 (rws (fun n=>[I n]) r.2.1.Idle.Is),V.own 1 (rws (fun n=>[I n]) r.2.1.Idle.Stack),V.own 14 (rws api_Worker.cells r.2.1.W),V.bool r.2.1.Down,V.own 3 (rws api_Event.cells r.2.1.Seen)],I r.2.2]):=by
 rw [crew_Spawn] at h
 refine SC.go Tryz.func16 Tryz.call16 7 ?_
 refine .inl Tryz.func79 Tryz.call79 6 ?_
 refine bindG h ?_
 intro x480 he13120 h
 refine .cP (crew_Check_sc a476 a477 _ he13120) ?_
 refine .go 3 ?_
 refine .ifC h (fun hc13121 h=>?_) (fun hc13121 h=>?_)
 ·refine .go 11 ?_
  refine Safe.condK rfl hc13121 ?_
  exact .w h (.R 5)
 ·exact .w h (.D 0 7 [] [] (.A 5 [0,2] (.b fun(x462:api_World)=>.oh 1 (crew_own_sc a477) (.A 3 [3] (.ob 4 (.A 0 [5,6] (.Z (.j7 12 2 1 [9,11] [] [[9],[17,14,0],[17,14,4],[17,14,5],[17,14,6],[17,14,7],[17,14,9],[17,14,10],[17,14,11],[17,14,12],[17,14,13],[17,14,14],[17,14,15]] (crew_Spawn_j2 x462) (fun v463 v464 v465 v466 v467 v468 v469 s=>((((((s.t 28 (V.tup [I v463,I v464])).o [17,14,3] (Obj.rows 11 (rws api_Task.cells v467) false)).o [17,17] (Obj.box [I x462.Now,V.ref [17,14,0] 0 (rws (fun n=>[V.int .u8 n]) x462.Dice.L).length,I x462.Dice.At,V.ref [7000,114,17,17,3] 0 (rws (fun n=>[I n]) v465).length,V.ref [7000,114,17,17,4] 0 (rws (fun b=>[V.bool b]) v466).length,V.ref [17,14,3] 0 (rws api_Task.cells v467).length,V.ref [17,14,4] 0 (rws (fun n=>[I n]) x462.Mem).length,V.ref [17,14,5] 0 (rws (fun n=>[I n]) x462.Lists.Next).length,V.ref [17,14,6] 0 (rws (fun n=>[I n]) x462.Lists.Head).length,V.ref [17,14,7] 0 (rws (fun n=>[I n]) x462.Lists.Tail).length,V.ref [7000,114,17,17,10] 0 (rws api_Tenant.cells v468).length,V.ref [17,14,9] 0 (rws api_Timer.cells x462.Heap).length,V.ref [17,14,10] 0 (rws api_Fd.cells x462.Fds).length,V.ref [17,14,11] 0 (rws api_Sem.cells x462.Sems).length,V.ref [17,14,12] 0 (rws api_Join.cells x462.Joins).length,V.ref [17,14,13] 0 (rws (fun n=>[I n]) x462.Idle.Is).length,V.ref [17,14,14] 0 (rws (fun n=>[I n]) x462.Idle.Stack).length,V.ref [17,14,15] 0 (rws api_Worker.cells x462.W).length,V.bool x462.Down,V.ref [7000,114,17,17,19] 0 (rws api_Event.cells v469).length,I a476.Workers,I a476.Cap,I a476.Budget,V.sl 1 (rws (fun n=>[I n]) a476.Weights),V.sl 1 (rws (fun n=>[I n]) a476.Quotas),V.sl 1 (rws (fun l=>[V.sl 3 (rws api_Instr.cells l)]) a476.Progs),I a476.Tasks,I a476.Fds,V.sl 1 (rws (fun n=>[I n]) a476.Sems)])).o [7000,114,17,17,3] (Obj.rows 1 (rws (fun n=>[I n]) v465) false)).o [7000,114,17,17,4] (Obj.rows 1 (rws (fun b=>[V.bool b]) v466) false)).o [7000,114,17,17,10] (Obj.rows 5 (rws api_Tenant.cells v468) false)).o [7000,114,17,17,19] (Obj.rows 3 (rws api_Event.cells v469) false)) (fun v463 v464 v465 v466 v467 v468 v469=>.i 7 (.R 5) (.D 0 8 [(6,[9])] [] (.A 2 (up 0 6) (.w 6 (.A 0 [7] (.Z (.R 0))))))) fun HJ13155=>.y 0 Tryz.func88 Tryz.call88 (.i 8 (.jr 3 HJ13155 [([17,14,1],[7000,114,17,17,3]),([17,14,2],[7000,114,17,17,4]),([17,14,8],[7000,114,17,17,10]),([17,14,16],[7000,114,17,17,19])]) (.e 6 (.c 1 (crew_within_sc a479 0 (IntKind.i64.wrap ((a476.Progs.length:Int) - 1)) _ rfl) (.i 2 (.jr 3 HJ13155 [([17,14,1],[7000,114,17,17,3]),([17,14,2],[7000,114,17,17,4]),([17,14,8],[7000,114,17,17,10]),([17,14,16],[7000,114,17,17,19])]) (.b2 fun x470 x481=>.G 6 (lodge_Admit_sc x462.Ten a478) (.i 7 (.jr 4 HJ13155 [([17,14,1],[7000,114,17,17,3]),([17,14,2],[7000,114,17,17,4]),([17,14,8],[7000,114,17,17,10]),([17,14,16],[7000,114,17,17,19])]) (.b3 fun x471 (x472:api_Places) x482=>.G 5 (slot_Take_sc x462.Ids) (.i 10 (.jr 4 HJ13155 [([17,14,1],[7000,114,17,17,3]),([17,14,2],[7000,114,17,17,4]),([17,14,8],[7000,114,17,17,10]),([17,14,16],[7000,114,17,17,19])]) (.b2 fun(x473:api_Task) x483=>.g 3 (life_New_sc x471 a478 a479) (.i 8 (.jr 4 HJ13155 [([17,14,1],[7000,114,17,17,3]),([17,14,2],[7000,114,17,17,4]),([17,14,8],[7000,114,17,17,10]),([17,14,16],[7000,114,17,17,19])]) (.j2 3 2 1 [0,8,10,11,12] [[9,11]] [[9],[17,14,0],[17,14,1],[17,14,2],[17,14,3],[17,14,4],[17,14,5],[17,14,6],[17,14,7],[17,14,8],[17,14,9],[17,14,10],[17,14,11],[17,14,12],[17,14,13],[17,14,14],[17,14,15],[28,11],[28,12],[28,37,0],[28,49,0],[28,49,1]] (crew_Spawn_j3 x462 x470 x471 x472 x473) (fun v474 v475 s=>((s.t 69 (I v474)).o [17,17] (Obj.box [I x462.Now,V.ref [17,14,0] 0 (rws (fun n=>[V.int .u8 n]) x462.Dice.L).length,I x462.Dice.At,V.ref [17,14,1] 0 (rws (fun n=>[I n]) x462.Ids.Gen).length,V.ref [17,14,2] 0 (rws (fun b=>[V.bool b]) x462.Ids.Live).length,V.ref [17,14,3] 0 (rws api_Task.cells x462.T).length,V.ref [17,14,4] 0 (rws (fun n=>[I n]) x462.Mem).length,V.ref [17,14,5] 0 (rws (fun n=>[I n]) x462.Lists.Next).length,V.ref [17,14,6] 0 (rws (fun n=>[I n]) x462.Lists.Head).length,V.ref [17,14,7] 0 (rws (fun n=>[I n]) x462.Lists.Tail).length,V.ref [17,14,8] 0 (rws api_Tenant.cells x462.Ten).length,V.ref [17,14,9] 0 (rws api_Timer.cells x462.Heap).length,V.ref [17,14,10] 0 (rws api_Fd.cells x462.Fds).length,V.ref [17,14,11] 0 (rws api_Sem.cells x462.Sems).length,V.ref [17,14,12] 0 (rws api_Join.cells x462.Joins).length,V.ref [17,14,13] 0 (rws (fun n=>[I n]) x462.Idle.Is).length,V.ref [17,14,14] 0 (rws (fun n=>[I n]) x462.Idle.Stack).length,V.ref [17,14,15] 0 (rws api_Worker.cells x462.W).length,V.bool x462.Down,V.ref [7000,114,17,17,19] 0 (rws api_Event.cells v475).length,I a476.Workers,I a476.Cap,I a476.Budget,V.sl 1 (rws (fun n=>[I n]) a476.Weights),V.sl 1 (rws (fun n=>[I n]) a476.Quotas),V.sl 1 (rws (fun l=>[V.sl 3 (rws api_Instr.cells l)]) a476.Progs),I a476.Tasks,I a476.Fds,V.sl 1 (rws (fun n=>[I n]) a476.Sems)])).o [7000,114,17,17,19] (Obj.rows 3 (rws api_Event.cells v475) false)) (fun v474 v475=>.i 3 (.jr 4 HJ13155 [([17,14,1],[7000,114,17,17,3]),([17,14,2],[7000,114,17,17,4]),([17,14,8],[7000,114,17,17,10])]) (.D 0 22 [(15,[17,17]),(19,[17,17]),(21,[17,14,3])] [] (.A 16 (up 0 6) (.P 6 [[17,14,3]] (.A 14 [7] (.P 8 [[17,14,3],[17,17]] (.A 7 (up 9 6) (.w 15 (.A 3 (up 16 3) (.w 19 (.k (.P 20 [[17,17]] (.os 21 x473 (.Z (.h 0 79 (V.ref [17,14,3] 0 (rws api_Task.cells (st x462.T (Int.tmod x471 256) x473)).length) (.hB 0 [17,17] [I x462.Now,V.ref [17,14,0] 0 (rws (fun n=>[V.int .u8 n]) x462.Dice.L).length,I x462.Dice.At,V.ref [28,49,0] 0 (rws (fun n=>[I n]) x472.Gen).length,V.ref [28,49,1] 0 (rws (fun b=>[V.bool b]) x472.Live).length,V.ref [17,14,3] 0 (rws api_Task.cells (st x462.T (Int.tmod x471 256) x473)).length,V.ref [17,14,4] 0 (rws (fun n=>[I n]) x462.Mem).length,V.ref [17,14,5] 0 (rws (fun n=>[I n]) x462.Lists.Next).length,V.ref [17,14,6] 0 (rws (fun n=>[I n]) x462.Lists.Head).length,V.ref [17,14,7] 0 (rws (fun n=>[I n]) x462.Lists.Tail).length,V.ref [28,37,0] 0 (rws api_Tenant.cells x470).length,V.ref [17,14,9] 0 (rws api_Timer.cells x462.Heap).length,V.ref [17,14,10] 0 (rws api_Fd.cells x462.Fds).length,V.ref [17,14,11] 0 (rws api_Sem.cells x462.Sems).length,V.ref [17,14,12] 0 (rws api_Join.cells x462.Joins).length,V.ref [17,14,13] 0 (rws (fun n=>[I n]) x462.Idle.Is).length,V.ref [17,14,14] 0 (rws (fun n=>[I n]) x462.Idle.Stack).length,V.ref [17,14,15] 0 (rws api_Worker.cells x462.W).length,V.bool x462.Down,V.ref [7000,114,17,17,19] 0 (rws api_Event.cells v475).length,I a476.Workers,I a476.Cap,I a476.Budget,V.sl 1 (rws (fun n=>[I n]) a476.Weights),V.sl 1 (rws (fun n=>[I n]) a476.Quotas),V.sl 1 (rws (fun l=>[V.sl 3 (rws api_Instr.cells l)]) a476.Progs),I a476.Tasks,I a476.Fds,V.sl 1 (rws (fun n=>[I n]) a476.Sems)] (.jr 4 HJ13155 [([28,49,0],[7000,114,17,17,3]),([28,49,1],[7000,114,17,17,4]),([28,37,0],[7000,114,17,17,10])]))))))))))))))))) fun HJ13178=>.y 0 Tryz.func170 Tryz.call170 (.e 6 (.i 1 (.jr 2 HJ13178 [([17,14,16],[7000,114,17,17,19])]) (.L 10 api_Event.cells ([(api_Event.mk 1 x471 a479)]) (.k (.ap 0 (.jr 6 HJ13178 [([28,69,27],[7000,114,17,17,19])])))))))))))))))))))))))))
end Go.Proofs.YtmlcinmdkhmjhaaGreat
