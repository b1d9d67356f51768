/- Helper lemmas for the claim's theorem: an abstract machine over the model, proved sound; no condition beyond each lemma's own. -/
import Derived.Test.YtmlcinmdkhmjhaaGreatT5
set_option linter.unusedVariables false
set_option linter.unusedSimpArgs false
set_option linter.unnecessarySimpa false
set_option linter.unusedSectionVars false
namespace Go.Proofs.YtmlcinmdkhmjhaaGreat
open Go Go.AM
set_option maxRecDepth 100000
set_option maxHeartbeats 1000000
set_option linter.unusedVariables false
set_option linter.unusedSimpArgs false
variable {gl:List (Nat×List V)}
theorem heap_Same_sc (a836:List api_Timer) (a830:List api_Timer) (r:Bool) (h:heap_Same a836 a830=some r):SC Tryz.prog gl 70 [V.sl 2 (rws api_Timer.cells a836),V.sl 2 (rws api_Timer.cells a830)] (V.bool r):=by
 rw [heap_Same] at h
 refine SC.go Tryz.func70 Tryz.call70 2 ?_
 refine .inl Tryz.func154 Tryz.call154 5 ?_
 refine .inl Tryz.func153 Tryz.call153 2 ?_
 refine .inl Tryz.func200 Tryz.call200 2 ?_
 refine .inl Tryz.func245 Tryz.call245 3 ?_
 refine Safe.rangeFunc (k:=9007) rfl rfl Tryz.func202 rfl (fun _ _=>Tryz.call202 _ _) rfl rfl rfl ?_
 refine .go0 1 ?_
 refine .len ?_
 refine .go 1 ?_
 refine Safe.loopS (fun((v837,v838):Int×(List api_Timer))=>⟨Tryz.f202.ntmps,[(0,V.yld [7,7,4,9007]),(5,V.sl 2 (rws api_Timer.cells a836)),(6,I (a836.length:Int)),(7,I v837)],[([7,7,4,2],Obj.box [V.ref [7000,114,7,7,4,2,0] 0 (rws api_Timer.cells v838).length]),([7,7,4,9007],Go.AM.Obj.loop Tryz.f245.ntmps [(2,V.ptr [7,7,4,2] 0 0)] [7] (rfA Tryz.f245 0) (rfB Tryz.f245 0) .ready none),([7000,114,7,7,4,2,0],Obj.rows 2 (rws api_Timer.cells v838) false)],[(1,[(0,V.yld [7,7,4,9007])]),(Tryz.f245.ntmps,[(2,V.ptr [7,7,4,2] 0 0)]),(Tryz.f200.ntmps,[]),(Tryz.f153.ntmps,[(1,V.fn 155 [])]),(Tryz.f70.ntmps,[(1,V.sl 2 (rws api_Timer.cells a830))])],[7,7,4,9007,0]⟩) h (.empty [7000,114,7,7,4,2,0] 2 rfl (.cov ⟨rfl,rfl,(ut (ut (ut (ut upT_nil)))),(upOb_cons rfl (.box (.cons (.nilref _) .nil)) (upOb_cons rfl (by exact .loop (ut upT_nil)) (uo upOb_nil))),(upOut_cons rfl (ut upT_nil) (upOut_cons rfl (ut upT_nil) (upOut_cons rfl upT_nil (upOut_cons rfl (ut upT_nil) (upOut_cons rfl (ut upT_nil) upOut_nil))))),rfl⟩)) ?_
 rintro ⟨v837,v838⟩ ohr31844 h hr31844
 rw [heap_Same_s8] at h
 refine .go 1 ?_
 refine .ifC h (fun hc31845 h=>?_) (fun hc31845 h=>?_)
 ·refine .go 0 ?_
  refine okG h (fun hb31846 h=>?_)
  refine .ix hb31846 ?_
  refine .ld hb31846 ?_
  refine .go 4 ?_
  refine SafeOps.yield rfl rfl rfl rfl rfl rfl rfl rfl ?_
  refine .go0 2 ?_
  refine asgQ.go rfl rfl ?_
  refine .go0 2 ?_
  refine SafeOps.quiet1 E_good rfl rfl rfl (.litM (f:=api_Timer.cells) (xs:=[(gt a836 v837)]) rfl rfl (by decide) rfl rfl rfl rfl rfl) rfl ?_
  refine okG h (fun hb31847 h=>?_)
  refine SafeOps.appendM api_Timer.cells (xs:=v838) (ys:=[(gt a836 v837)]) E_good rfl rfl rfl rfl rfl rfl rfl rfl rfl (.own rfl) (.own rfl) (fun _=>rfl) hb31847 ?_
  refine .go 1 ?_
  refine roundQ.go rfl rfl rfl rfl rfl ?_
  refine .go 4 ?_
  exact lpK ⟨_,next_out h,(.ren [7,7,4,9007,0,13,11] [7000,114,7,7,4,2,0] (.cov ⟨rfl,rfl,(ut (ut (ut (ut upT_nil)))),(uo (upOb_cons rfl (by exact .loop (ut upT_nil)) (uo upOb_nil))),(upOut_cons rfl (ut upT_nil) (upOut_cons rfl (ut upT_nil) (upOut_cons rfl upT_nil (upOut_cons rfl (ut upT_nil) (upOut_cons rfl (ut upT_nil) upOut_nil))))),rfl⟩))⟩
 ·refine .go 0 ?_
  replace h:=inr_out h hr31844
  refine .go 0 ?_
  refine rfQ.n (.inl rfl) rfl rfl (fun hbusy=>by cases hbusy) ?_
  refine .go 8 ?_
  refine bindG h ?_
  intro s831 he31849 h
  refine SafeOps.sort api_Timer.cells E_good sortL201 rfl rfl rfl rfl rfl rfl rfl rfl rfl rfl rfl rfl rfl (fun _=>rfl) (fun _=>rfl) (fun _ _=>Tryz.call155 _ _) (fun a b v hv=>heap_order_sc a b v hv) he31849 ?_
  refine .see 7 (u:=V.ref [7000,114,7,7,4,2,0] 0 (rws api_Timer.cells s831).length) rfl (.len (by rw [rws_len,rws_len];first|exact sortO_len he31849|exact (sortO_len he31849).symm)) ?_
  refine .see 5 (u:=V.ref [7000,114,7,7,4,2,0] 0 (rws api_Timer.cells s831).length) rfl (.len (by rw [rws_len,rws_len];first|exact sortO_len he31849|exact (sortO_len he31849).symm)) ?_
  refine .see 8 (u:=V.ref [7000,114,7,7,4,2,0] 0 (rws api_Timer.cells s831).length) rfl (.len (by rw [rws_len,rws_len];first|exact sortO_len he31849|exact (sortO_len he31849).symm)) ?_
  refine .go 4 ?_
  refine .inl Tryz.func154 Tryz.call154 5 ?_
  refine .inl Tryz.func153 Tryz.call153 2 ?_
  refine .inl Tryz.func200 Tryz.call200 2 ?_
  refine .inl Tryz.func245 Tryz.call245 3 ?_
  refine Safe.rangeFunc (k:=9007) rfl rfl Tryz.func202 rfl (fun _ _=>Tryz.call202 _ _) rfl rfl rfl ?_
  refine .go0 1 ?_
  refine .len ?_
  refine .go 1 ?_
  refine Safe.loopS (fun((v832,v833):Int×(List api_Timer))=>⟨Tryz.f202.ntmps,[(0,V.yld [10,7,4,9007]),(5,V.sl 2 (rws api_Timer.cells a830)),(6,I (a830.length:Int)),(7,I v832)],[([10,7,4,2],Obj.box [V.ref [7000,114,10,7,4,2,0] 0 (rws api_Timer.cells v833).length]),([10,7,4,9007],Go.AM.Obj.loop Tryz.f245.ntmps [(2,V.ptr [10,7,4,2] 0 0)] [7] (rfA Tryz.f245 0) (rfB Tryz.f245 0) .ready none),([7000,114,7,7,4,2,0],Obj.rows 2 (rws api_Timer.cells s831) false),([7000,114,10,7,4,2,0],Obj.rows 2 (rws api_Timer.cells v833) false)],[(1,[(0,V.yld [10,7,4,9007])]),(Tryz.f245.ntmps,[(2,V.ptr [10,7,4,2] 0 0)]),(Tryz.f200.ntmps,[]),(Tryz.f153.ntmps,[(1,V.fn 155 [])]),(Tryz.f70.ntmps,[(7,V.ref [7000,114,7,7,4,2,0] 0 (rws api_Timer.cells s831).length)])],[10,7,4,9007,0]⟩) h (.empty [7000,114,10,7,4,2,0] 2 rfl (.cov ⟨rfl,rfl,(ut (ut (ut (ut upT_nil)))),(upOb_cons rfl (.box (.cons (.nilref _) .nil)) (upOb_cons rfl (by exact .loop (ut upT_nil)) (uo (uo upOb_nil)))),(upOut_cons rfl (ut upT_nil) (upOut_cons rfl (ut upT_nil) (upOut_cons rfl upT_nil (upOut_cons rfl (ut upT_nil) (upOut_cons rfl (ut upT_nil) upOut_nil))))),rfl⟩)) ?_
  rintro ⟨v832,v833⟩ ohr31960 h hr31960
  rw [heap_Same_s16] at h
  refine .go 1 ?_
  refine .ifC h (fun hc31961 h=>?_) (fun hc31961 h=>?_)
  ·refine .go 0 ?_
   refine okG h (fun hb31962 h=>?_)
   refine .ix hb31962 ?_
   refine .ld hb31962 ?_
   refine .go 4 ?_
   refine SafeOps.yield rfl rfl rfl rfl rfl rfl rfl rfl ?_
   refine .go0 2 ?_
   refine asgQ.go rfl rfl ?_
   refine .go0 2 ?_
   refine SafeOps.quiet1 E_good rfl rfl rfl (.litM (f:=api_Timer.cells) (xs:=[(gt a830 v832)]) rfl rfl (by decide) rfl rfl rfl rfl rfl) rfl ?_
   refine okG h (fun hb31963 h=>?_)
   refine SafeOps.appendM api_Timer.cells (xs:=v833) (ys:=[(gt a830 v832)]) E_good rfl rfl rfl rfl rfl rfl rfl rfl rfl (.own rfl) (.own rfl) (fun _=>rfl) hb31963 ?_
   refine .go 1 ?_
   refine roundQ.go rfl rfl rfl rfl rfl ?_
   refine .go 4 ?_
   exact lpK ⟨_,next_out h,(.ren [10,7,4,9007,0,13,11] [7000,114,10,7,4,2,0] (.cov ⟨rfl,rfl,(ut (ut (ut (ut upT_nil)))),(uo (upOb_cons rfl (by exact .loop (ut upT_nil)) (uo (uo upOb_nil)))),(upOut_cons rfl (ut upT_nil) (upOut_cons rfl (ut upT_nil) (upOut_cons rfl upT_nil (upOut_cons rfl (ut upT_nil) (upOut_cons rfl (ut upT_nil) upOut_nil))))),rfl⟩))⟩
  ·refine .go 0 ?_
   replace h:=inr_out h hr31960
   refine .go 0 ?_
   refine rfQ.n (.inl rfl) rfl rfl (fun hbusy=>by cases hbusy) ?_
   refine .go 8 ?_
   refine bindG h ?_
   intro s834 he31965 h
   refine SafeOps.sort api_Timer.cells E_good sortL201 rfl rfl rfl rfl rfl rfl rfl rfl rfl rfl rfl rfl rfl (fun _=>rfl) (fun _=>rfl) (fun _ _=>Tryz.call155 _ _) (fun a b v hv=>heap_order_sc a b v hv) he31965 ?_
   refine .see 7 (u:=V.ref [7000,114,10,7,4,2,0] 0 (rws api_Timer.cells s834).length) rfl (.len (by rw [rws_len,rws_len];first|exact sortO_len he31965|exact (sortO_len he31965).symm)) ?_
   refine .see 5 (u:=V.ref [7000,114,10,7,4,2,0] 0 (rws api_Timer.cells s834).length) rfl (.len (by rw [rws_len,rws_len];first|exact sortO_len he31965|exact (sortO_len he31965).symm)) ?_
   refine .see 8 (u:=V.ref [7000,114,10,7,4,2,0] 0 (rws api_Timer.cells s834).length) rfl (.len (by rw [rws_len,rws_len];first|exact sortO_len he31965|exact (sortO_len he31965).symm)) ?_
   exact .w h (.V 3 (slices_Equal_api_Timer_api_Timer_sc s831 s834) fun x835=>.r 1)
theorem slices_Equal_api_Fd_api_Fd_sc (a839:List api_Fd) (a840:List api_Fd) (r:Bool) (h:slices_Equal_api_Fd_api_Fd a839 a840=some r):SC Tryz.prog gl 156 [V.sl 3 (rws api_Fd.cells a839),V.sl 3 (rws api_Fd.cells a840)] (V.bool r) :=
 .w Tryz.func156 Tryz.call156 h (.e 2 (.e 1 (.i 1 (.r 1) (.e 1 (.l1 1 [0,1,12] [] [] (fun v841 s=>s.t 13 (I v841)) fun v841=>.i 1 (.D 2 9 [] [] (.A 7 [0,1] (.k (.X 2 [] (.Y 3 [] (.A 3 [4,5] (.k (.X 6 [] (.Y 7 [] (.P 8 [] (.Z (.i 0 (.o (.r 1)) (.n 2))))))))))))) (.o (.r 1)))))))
theorem poll_Same_sc (a842:List api_Fd) (a843:List api_Fd) (r:Bool) (h:poll_Same a842 a843=some r):SC Tryz.prog gl 71 [V.sl 3 (rws api_Fd.cells a842),V.sl 3 (rws api_Fd.cells a843)] (V.bool r) :=
 .w Tryz.func71 Tryz.call71 h (.v 3 (slices_Equal_api_Fd_api_Fd_sc a842 a843) fun x844=>.r 1)
theorem sema_Same_sc (a845:api_Sem) (a846:api_Sem) (r:Bool) (h:sema_Same a845 a846=some r):SC Tryz.prog gl 73 [V.agg a845.cells,V.agg a846.cells] (V.bool r) :=
 .w Tryz.func73 Tryz.call73 h (.s 9 10 (.v 4 (slices_Equal_int64_int64_sc a845.Wait a846.Wait) fun x847=>.r 2) (.r 7))
theorem slices_EqualFunc_api_Sem_api_Sem_api_Sem_api_Sem_Same73_sc (a848:List api_Sem) (a849:List api_Sem) (r:Bool) (h:slices_EqualFunc_api_Sem_api_Sem_api_Sem_api_Sem_Same73 a848 a849=some r):SC Tryz.prog gl 72 [V.sl 2 (rws api_Sem.cells a848),V.sl 2 (rws api_Sem.cells a849),V.fn 73 []] (V.bool r) :=
 .w Tryz.func72 Tryz.call72 h (.e 2 (.e 1 (.i 1 (.r 1) (.e 1 (.l1 1 [1,2,15,16] [] [] (fun v850 s=>s.t 17 (I v850)) fun v850=>.i 1 (.q 1 (.q 5 (.v 5 (sema_Same_sc (gt a848 v850) (gt a849 v850)) fun x851=>.i 1 (.o (.r 1)) (.n 2)))) (.o (.r 1)))))))
theorem slices_Equal_api_Join_api_Join_sc (a852:List api_Join) (a853:List api_Join) (r:Bool) (h:slices_Equal_api_Join_api_Join a852 a853=some r):SC Tryz.prog gl 157 [V.sl 2 (rws api_Join.cells a852),V.sl 2 (rws api_Join.cells a853)] (V.bool r) :=
 .w Tryz.func157 Tryz.call157 h (.e 2 (.e 1 (.i 1 (.r 1) (.e 1 (.l1 1 [0,1,12] [] [] (fun v854 s=>s.t 13 (I v854)) fun v854=>.i 1 (.D 2 9 [] [] (.A 7 [0,1] (.k (.X 2 [] (.Y 3 [] (.A 3 [4,5] (.k (.X 6 [] (.Y 7 [] (.P 8 [] (.Z (.i 0 (.o (.r 1)) (.n 2))))))))))))) (.o (.r 1)))))))
theorem joins_Same_sc (a855:List api_Join) (a856:List api_Join) (r:Bool) (h:joins_Same a855 a856=some r):SC Tryz.prog gl 74 [V.sl 2 (rws api_Join.cells a855),V.sl 2 (rws api_Join.cells a856)] (V.bool r) :=
 .w Tryz.func74 Tryz.call74 h (.v 3 (slices_Equal_api_Join_api_Join_sc a855 a856) fun x857=>.r 1)
theorem idle_Same_sc (a858:api_Idle) (a859:api_Idle) (r:Bool) (h:idle_Same a858 a859=some r):SC Tryz.prog gl 75 [V.agg a858.cells,V.agg a859.cells] (V.bool r) :=
 .w Tryz.func75 Tryz.call75 h (.v 7 (slices_Equal_int_int_sc a858.Is a859.Is) fun x860=>.s 1 10 (.v 4 (slices_Equal_int_int_sc a858.Stack a859.Stack) fun x861=>.r 2) (.r 7))
theorem crew_sameWorker_sc (a862:api_Worker) (a863:api_Worker) (r:Bool) (h:crew_sameWorker a862 a863=some r):SC Tryz.prog gl 77 [V.agg a862.cells,V.agg a863.cells] (V.bool r) :=
 .w Tryz.func77 Tryz.call77 h (.v 7 (slices_Equal_int_int_sc a862.Ask a863.Ask) fun x864=>.i 1 (.r 1) (.B 6 6 22 16 (api_Hand.beq a862.Hand a863.Hand) (.Q 4 (.K 1 6)) (.K 6 6) (.M 1 6 29 23 (.M 1 6 36 30 (.M 1 6 43 37 (.M 1 6 50 44 (.M 1 6 57 51 (.r 1))))))))
theorem slices_EqualFunc_api_Worker_api_Worker_api_Worker_api_Worker_sameWorker77_sc (a865:List api_Worker) (a866:List api_Worker) (r:Bool) (h:slices_EqualFunc_api_Worker_api_Worker_api_Worker_api_Worker_sameWorker77 a865 a866=some r):SC Tryz.prog gl 76 [V.sl 14 (rws api_Worker.cells a865),V.sl 14 (rws api_Worker.cells a866),V.fn 77 []] (V.bool r) :=
 .w Tryz.func76 Tryz.call76 h (.e 2 (.e 1 (.i 1 (.r 1) (.e 1 (.l1 1 [1,2,15,16] [] [] (fun v867 s=>s.t 17 (I v867)) fun v867=>.i 1 (.q 1 (.q 5 (.v 5 (crew_sameWorker_sc (gt a865 v867) (gt a866 v867)) fun x868=>.i 1 (.o (.r 1)) (.n 2)))) (.o (.r 1)))))))
theorem slices_Equal_api_Event_api_Event_sc (a869:List api_Event) (a870:List api_Event) (r:Bool) (h:slices_Equal_api_Event_api_Event a869 a870=some r):SC Tryz.prog gl 78 [V.sl 3 (rws api_Event.cells a869),V.sl 3 (rws api_Event.cells a870)] (V.bool r) :=
 .w Tryz.func78 Tryz.call78 h (.e 2 (.e 1 (.i 1 (.r 1) (.e 1 (.l1 1 [0,1,12] [] [] (fun v871 s=>s.t 13 (I v871)) fun v871=>.i 1 (.D 2 9 [] [] (.A 7 [0,1] (.k (.X 2 [] (.Y 3 [] (.A 3 [4,5] (.k (.X 6 [] (.Y 7 [] (.P 8 [] (.Z (.i 0 (.o (.r 1)) (.n 2))))))))))))) (.o (.r 1)))))))
theorem crew_Same_sc (a872:api_World) (a873:api_World) (r:Bool) (h:crew_Same a872 a873=some r):SC Tryz.prog gl 14 [V.agg a872.cells,V.agg a873.cells] (V.bool r) :=
 .w Tryz.func14 Tryz.call14 h (.N 9 6 17 11 (.O 1 7 25 18 ((!(dice_Same a872.Dice a873.Dice))) (.K 7 7) (.c 4 (dice_Same_sc a872.Dice a873.Dice _ rfl) (.K 2 7)) (.T 1 7 33 (crew_Same_j6 a872 a873) (fun HJ32397=>.s 0 26 (.U 7 7 26 HJ32397) (.v 4 (slot_Same_sc a872.Ids a873.Ids) fun x890=>.U 2 7 26 HJ32397)) fun b886=>.s 1 34 (.r 10) (.v 4 (slices_Equal_api_Task_api_Task_sc a872.T a873.T) fun x887=>.i 3 (.r 1) (.v 4 (cell_Same_sc a872.Mem a873.Mem) fun x888=>.T 2 7 56 (crew_Same_j7 a872 a873) (fun HJ32410=>.s 0 49 (.U 7 7 49 HJ32410) (.v 4 (chain_Same_sc a872.Lists a873.Lists) fun x889=>.U 2 7 49 HJ32410)) fun b884=>.T 1 7 64 (crew_Same_j8 a872 a873) (fun HJ32415=>.s 0 57 (.U 7 7 57 HJ32415) (.v 4 (lodge_Same_sc a872.Ten a873.Ten) fun x885=>.U 2 7 57 HJ32415)) fun b882=>.T 1 7 72 (crew_Same_j9 a872 a873) (fun HJ32420=>.s 0 65 (.U 7 7 65 HJ32420) (.v 4 (heap_Same_sc a872.Heap a873.Heap) fun x883=>.U 2 7 65 HJ32420)) fun b878=>.s 1 73 (.r 10) (.v 4 (poll_Same_sc a872.Fds a873.Fds) fun x879=>.i 3 (.r 1) (.v 4 (slices_EqualFunc_api_Sem_api_Sem_api_Sem_api_Sem_Same73_sc a872.Sems a873.Sems) fun x880=>.T 2 7 95 (crew_Same_j10 a872 a873) (fun HJ32433=>.s 0 88 (.U 7 7 88 HJ32433) (.v 4 (joins_Same_sc a872.Joins a873.Joins) fun x881=>.U 2 7 88 HJ32433)) fun b874=>.s 1 96 (.r 10) (.v 4 (idle_Same_sc a872.Idle a873.Idle) fun x875=>.i 3 (.r 1) (.v 4 (slices_EqualFunc_api_Worker_api_Worker_api_Worker_api_Worker_sameWorker77_sc a872.W a873.W) fun x876=>.s 1 109 (.v 4 (slices_Equal_api_Event_api_Event_sc a872.Seen a873.Seen) fun x877=>.r 2) (.r 7))))))))))
theorem w20_CrewTells_sc (a891:api_Config) (a892:api_World) (a893:api_World) (r:Bool) (h:w20_CrewTells a891 a892 a893=some r):SC Tryz.prog gl 3 [V.agg a891.cells,V.agg a892.cells,V.agg a893.cells] (V.bool r) :=
 .w Tryz.func3 Tryz.call3 h (.v 4 (w20_live_sc ) fun x894=>.v 2 (r19_FewConfig_sc a891) fun x906=>.T 2 4 20 (w20_CrewTells_j1 a891 a892 a893 x894) (fun HJ32471=>.s 0 16 (.U 4 4 16 HJ32471) (.v 1 (r20_Few_sc a892) fun x907=>.U 2 4 16 HJ32471)) fun b895=>.s 1 21 (.r 7) (.v 1 (r20_Few_sc a893) fun x896=>.i 2 (.r 2) (.b2 fun x897 x898=>.g 1 (crew_Start_sc a891) (.b2 fun x899 x900=>.g 7 (r20_Start_sc a891) (.D 6 30 [] [] (.A 28 [0,1] (.S 38 (.A 26 [2,3] (.b fun x901=>.G 4 (r20_Same_sc x897 x899) (.A 23 [5,6] (.S 43 (.A 18 (up 7 5) (.S 48 (.A 16 [12,13] (.v 14 (crew_Check_sc a891 a892) fun x902=>.A 13 [15,16] (.v 17 (r20_Check_sc a891 a892) fun x903=>.A 9 (up 18 3) (.S 57 (.A 7 [21,22] (.v 23 (crew_Same_sc a892 a893) fun x904=>.A 4 [24,25] (.v 26 (r20_Same_sc a892 a893) fun x905=>.A 0 (up 27 3) (.Z (.r 0))))) (.A 0 (up 21 9) (.Z (.r 0))))))) (.A 0 (up 12 18) (.Z (.r 0))))) (.A 0 (up 7 23) (.Z (.r 0))))))) (.A 0 (up 2 28) (.Z (.r 0))))))))))
end Go.Proofs.YtmlcinmdkhmjhaaGreat
