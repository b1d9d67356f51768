/- Helper lemmas for the claim's theorem: an abstract machine over the model, proved sound; no condition beyond each lemma's own. -/
import Derived.Test.YtmlcinmdkhmjhaaGreatT1
set_option linter.unusedVariables false
set_option linter.unusedSimpArgs false
set_option linter.unnecessarySimpa false
set_option linter.unusedSectionVars false
namespace Go.Proofs.YtmlcinmdkhmjhaaGreat
open Go Go.AM
set_option maxRecDepth 100000
set_option maxHeartbeats 1000000
set_option linter.unusedVariables false
set_option linter.unusedSimpArgs false
variable {gl:List (Nat×List V)}
theorem slices_Clone_api_Mem_int64_sc (xs:List Int) (r:List Int) (h:slices_Clone_api_Mem_int64 xs=some r):SC Tryz.prog gl 207 [V.sl 1 (rws (fun n=>[I n]) xs)] (V.own 1 (rws (fun n=>[I n]) r)):=by
 rw [slices_Clone_api_Mem_int64] at h
 refine okG h (fun hf h=>?_)
 cases h
 refine SC.go Tryz.func207 Tryz.call207 0 ?_
 refine Q0 E_good rfl (v:=V.nils) (.fn rfl) ?_
 refine .go 0 ?_
 refine Q0 E_good rfl (v:=V.sl 1 (rws (fun n=>[I n]) xs)) (.fn rfl) ?_
 refine SafeOps.nilcmp E_good rfl rfl rfl rfl rfl rfl rfl (fun b hb=>?_)
 refine .go 0 ?_
 cases b with
 | true =>
  have hx:xs=[]:=List.map_eq_nil_iff.1 (hb rfl)
  subst hx
  refine .go 1 ?_
  refine Q0 E_good rfl (v:=V.nils) (.fn rfl) ?_
  refine .go 0 ?_
  refine retG ?_
  exact ⟨_,(.nils _),by simp⟩
 | false =>
  refine .go 1 ?_
  refine SafeOps.quiet1 E_good rfl rfl rfl (.litM (f:=(fun n=>[I n])) (xs:=[]) rfl rfl (by decide) rfl rfl rfl rfl rfl) rfl ?_
  refine Q0 E_good rfl (v:=V.sl 1 (rws (fun n=>[I n]) xs)) (.fn rfl) ?_
  refine SafeOps.appendM (fun n=>[I n]) (xs:=[]) (ys:=xs) E_good rfl rfl rfl rfl rfl rfl rfl rfl rfl (.own rfl) (.sl _) (fun _=>rfl) hf ?_
  refine Q0 E_good rfl (v:=V.ref [7] 0 (rws (fun n=>[I n]) ([]++xs)).length) (.fn rfl) ?_
  refine .go 0 ?_
  refine retG ?_
  exact ⟨_,.own rfl rfl,by simp⟩
theorem cell_Store_sc (a254:List Int) (a255:Int) (a256:Int) (r:(List Int)×Int) (h:cell_Store a254 a255 a256=some r):SC Tryz.prog gl 300 [V.sl 1 (rws (fun n=>[I n]) a254),I a255,I a256] (V.tup [V.own 1 (rws (fun n=>[I n]) r.1),I r.2]) :=
 .w Tryz.func300 Tryz.call300 h (.y 4 Tryz.func304 Tryz.call304 (.y 5 Tryz.func305 Tryz.call305 (.c 3 (cell_Check_sc a254 _ rfl) (.N 2 3 12 9 (.O 1 5 18 13 (decide (a255≥(a254.length:Int))) (.K 5 5) (.e 2 (.K 2 5)) (.i 0 (.R 29) (.k (.x 2 (.v 12 (slices_Clone_api_Mem_int64_sc a254) fun x257=>.D 1 7 [] [] (.A 4 (up 0 3) (.k (.P 3 [] (.A 0 (up 4 3) (.Z (.st 14 a256 (.h 0 15 (V.ref [14,19,0] 0 (rws (fun n=>[I n]) (st x257 a255 a256)).length) (.h 0 8 (V.ref [14,19,0] 0 (rws (fun n=>[I n]) (st x257 a255 a256)).length) (.R 3))))))))))))))))))
theorem cell_Cas_sc (a262:List Int) (a258:Int) (a259:Int) (a263:Int) (r:(List Int)×Bool×Int) (h:cell_Cas a262 a258 a259 a263=some r):SC Tryz.prog gl 302 [V.sl 1 (rws (fun n=>[I n]) a262),I a258,I a259,I a263] (V.tup [V.own 1 (rws (fun n=>[I n]) r.1),V.bool r.2.1,I r.2.2]) :=
 .w Tryz.func302 Tryz.call302 h (.y 5 Tryz.func304 Tryz.call304 (.y 5 Tryz.func305 Tryz.call305 (.c 3 (cell_Check_sc a262 _ rfl) (.N 2 3 12 9 (.O 1 5 18 13 (decide (a258≥(a262.length:Int))) (.K 5 5) (.e 2 (.K 2 5)) (.i 0 (.R 30) (.k (.x 2 (.v 12 (slices_Clone_api_Mem_int64_sc a262) fun x260=>.D 1 7 [] [] (.A 4 (up 0 3) (.k (.P 3 [] (.A 0 (up 4 3) (.Z (.Q 13 (.j1 4 0 0 [14] [] [] (cell_Cas_j1 a258 a259 x260) (fun v261 s=>(s.t 11 (V.ref [18,19,0] 0 (rws (fun n=>[I n]) v261).length)).o [18,19,0] (Obj.rows 1 (rws (fun n=>[I n]) v261) false)) (fun v261=>.R 5) fun HJ10653=>.i 0 (.st 3 a263 (.h 0 19 (V.ref [18,19,0] 0 (rws (fun n=>[I n]) (st x260 a258 a263)).length) (.h 0 11 (V.ref [18,19,0] 0 (rws (fun n=>[I n]) (st x260 a258 a263)).length) (.j 0 HJ10653)))) (.j 0 HJ10653)))))))))))))))))
theorem ring_Step_sc (a273:List Int) (a281:api_Deque) (a264:api_Hand) (r:(List Int)×api_Hand×Int) (h:ring_Step a273 a281 a264=some r):SC Tryz.prog gl 195 [V.sl 1 (rws (fun n=>[I n]) a273),V.agg a281.cells,V.agg a264.cells] (V.tup [V.own 1 (rws (fun n=>[I n]) r.1),V.agg (api_Hand.cells r.2.1),I r.2.2]) :=
 .w Tryz.func195 Tryz.call195 h (.c 7 (ring_Check_sc a273 a281 _ rfl) (.O 2 4 19 15 ((!(ring_may a264))) (.K 4 4) (.c 1 (ring_may_sc a264 _ rfl) (.K 2 4)) (.i 1 (.R 4) (.i 4 (.R 4) (.D 0 7 [] [] (.A 4 [0,1,3] (.k (.oa 2 (.A 2 [4] (.ob 5 (.A 0 [6] (.Z (.D 0 9 [] [8] (.A 7 [0,1] (.b fun x374=>.g 2 (ring_accesses_sc a264.Kind) (.A 4 [3,4] (.k (.X 5 [] (.Y 6 [] (.A 1 [7] (.a 8 (.j8 0 2 1 [7,9] [] [[7]] (ring_Step_j83 a264) (fun v265 v266 v267 v268 v269 v270 v271 v272 s=>(s.o [31] (Obj.box [I a264.Kind,I v265,I v266,I v267,I v268,V.bool v269,I v270,V.ref [7000,114,31,7] 0 (rws (fun n=>[I n]) v271).length,I a281.Base,I a281.Cap,I v272])).o [7000,114,31,7] (Obj.rows 1 (rws (fun n=>[I n]) v271) false)) (fun v265 v266 v267 v268 v269 v270 v271 v272=>.z 0 (.Z (.i 5 (.D 0 8 [(6,[7])] [] (.A 2 (up 0 6) (.w 6 (.A 0 [7] (.Z (.R 0)))))) (.D 0 11 [(9,[7])] [] (.A 2 (up 0 9) (.w 9 (.A 0 [10] (.Z (.R 0))))))))) fun HJ11372=>.I (.h 0 38 (V.fn 257 []) (.y 0 Tryz.func257 Tryz.call257 (.C 3 (pring_actor_top_sc (ring_actor.mk a264 ([]++a273) a281 0) _ rfl) (.y 0 Tryz.func285 Tryz.call285 (.y 3 Tryz.func292 Tryz.call292 (.b2 fun x274 x375=>.G 6 (cell_Load_sc ([]++a273) (pring_actor_top (ring_actor.mk a264 ([]++a273) a281 0))) (.j1 8 2 1 [5] [[0,2],[0,2],[7,9]] [[7],[28]] (ring_Step_j88 a273 a264 x274) (fun v276 s=>s.o [31] (Obj.box [I a264.Kind,I a264.Pc,I a264.V,I a264.T,I a264.B,V.bool a264.Won,I a264.State,V.ref [28] 0 (rws (fun n=>[I n]) ([]++a273)).length,I a281.Base,I a281.Cap,I v276])) (fun v276=>.M 9 3 18 15 (.j1 0 2 1 [7] [[0,2],[7,9]] [[7],[28]] (ring_Step_j89 a273 a264 x274) (fun v275 s=>s.o [31] (Obj.box [I a264.Kind,I a264.Pc,I a264.V,I a264.T,I a264.B,V.bool a264.Won,I a264.State,V.ref [28] 0 (rws (fun n=>[I n]) ([]++a273)).length,I a281.Base,I a281.Cap,I v275])) (fun v275=>.jr 18 HJ11372 [([28],[7000,114,31,7])]) fun HJ11406=>.y 0 Tryz.func289 Tryz.call289 (.i 3 (.J 7 HJ11406) (.J 3 HJ11406)))) fun HJ11402=>.y 0 Tryz.func289 Tryz.call289 (.i 3 (.J 7 HJ11402) (.J 3 HJ11402))))))))) (.I (.h 0 38 (V.fn 258 []) (.y 0 Tryz.func258 Tryz.call258 (.C 3 (pring_actor_bottom_sc (ring_actor.mk a264 ([]++a273) a281 0) _ rfl) (.y 0 Tryz.func285 Tryz.call285 (.y 3 Tryz.func292 Tryz.call292 (.b2 fun x277 x376=>.G 6 (cell_Load_sc ([]++a273) (pring_actor_bottom (ring_actor.mk a264 ([]++a273) a281 0))) (.j1 8 2 1 [5] [[0,2],[0,2],[7,9]] [[7],[28]] (ring_Step_j94 a273 a281 a264 x277) (fun v282 s=>s.o [31] (Obj.box [I a264.Kind,I a264.Pc,I a264.V,I a264.T,I a264.B,V.bool a264.Won,I a264.State,V.ref [28] 0 (rws (fun n=>[I n]) ([]++a273)).length,I a281.Base,I a281.Cap,I v282])) (fun v282=>.M 9 3 18 15 (.j1 0 2 1 [7] [[0,2],[7,9]] [[7],[28]] (ring_Step_j95 a273 a281 a264 x277) (fun v278 s=>s.o [31] (Obj.box [I a264.Kind,I a264.Pc,I a264.V,I a264.T,I a264.B,V.bool a264.Won,I a264.State,V.ref [28] 0 (rws (fun n=>[I n]) ([]++a273)).length,I a281.Base,I a281.Cap,I v278])) (fun v278=>.D 7 19 [] [18] (.A 1 (up 0 18) (.a 18 (.j2 0 2 1 [] [[7,9]] [[7],[28]] (ring_Step_j96 a273 a264 x277 v278) (fun v279 v280 s=>s.o [31] (Obj.box [I a264.Kind,I v279,I a264.V,I a264.T,I x277,V.bool a264.Won,I v280,V.ref [28] 0 (rws (fun n=>[I n]) ([]++a273)).length,I a281.Base,I a281.Cap,I v278])) (fun v279 v280=>.z 0 (.Z (.jr 1 HJ11372 [([28],[7000,114,31,7])]))) fun HJ11445=>.y 0 Tryz.func288 Tryz.call288 (.i 1 (.J 7 HJ11445) (.J 7 HJ11445)))))) fun HJ11441=>.y 0 Tryz.func289 Tryz.call289 (.i 3 (.J 7 HJ11441) (.J 3 HJ11441)))) fun HJ11437=>.y 0 Tryz.func289 Tryz.call289 (.i 3 (.J 7 HJ11437) (.J 3 HJ11437))))))))) (.I (.h 0 38 (V.fn 259 []) (.y 0 Tryz.func259 Tryz.call259 (.j1 7 2 1 [0] [[7,9]] [[7],[28]] (ring_Step_j97 a273 a281 a264) (fun v290 s=>(s.t 9 (V.bool (decide (a264.B≥0)))).o [31] (Obj.box [I a264.Kind,I a264.Pc,I a264.V,I a264.T,I a264.B,V.bool a264.Won,I a264.State,V.ref [28] 0 (rws (fun n=>[I n]) ([]++a273)).length,I a281.Base,I a281.Cap,I v290])) (fun v290=>.j2 0 0 0 [0] [[7,9]] [[7]] (ring_Step_j100 a264) (fun v283 v284 s=>(s.o [31] (Obj.box [I a264.Kind,I a264.Pc,I a264.V,I a264.T,I a264.B,V.bool a264.Won,I a264.State,V.ref [7000,114,31,7] 0 (rws (fun n=>[I n]) v283).length,I a281.Base,I a281.Cap,I v284])).o [7000,114,31,7] (Obj.rows 1 (rws (fun n=>[I n]) v283) false)) (fun v283 v284=>.J 11 HJ11372) fun HJ11467=>.i 0 (.D 0 14 [] [13] (.A 7 (up 0 7) (.b fun x291=>.G 7 (pring_actor_slot_sc (ring_actor.mk a264 ([]++a273) a281 v290) a264.B) (.A 1 (up 8 5) (.a 13 (.j2 0 2 1 [0] [[7,9]] [[7]] (ring_Step_j102 a264) (fun v285 v286 s=>(s.o [31] (Obj.box [I a264.Kind,I a264.Pc,I a264.V,I a264.T,I a264.B,V.bool a264.Won,I a264.State,V.ref [7000,114,31,7] 0 (rws (fun n=>[I n]) v285).length,I a281.Base,I a281.Cap,I v286])).o [7000,114,31,7] (Obj.rows 1 (rws (fun n=>[I n]) v285) false)) (fun v285 v286=>.z 0 (.Z (.j 0 HJ11467))) fun HJ11480=>.y 0 Tryz.func290 Tryz.call290 (.b2 fun x287 x288=>.G 6 (cell_Store_sc ([]++a273) x291 a264.V) (.j1 8 2 1 [0,6] [[0],[7,9]] [[7],[28],[40,23,15,0]] (ring_Step_j103 a273 a264 x287 x288) (fun v289 s=>(s.t 21 (V.bool (x288==0))).o [31] (Obj.box [I a264.Kind,I a264.Pc,I a264.V,I a264.T,I a264.B,V.bool a264.Won,I a264.State,V.ref [28] 0 (rws (fun n=>[I n]) ([]++a273)).length,I a281.Base,I a281.Cap,I v289])) (fun v289=>.i 0 (.jr 6 HJ11480 [([40,23,15,0],[7000,114,31,7])]) (.jr 1 HJ11480 [([28],[7000,114,31,7])])) fun HJ11486=>.y 0 Tryz.func289 Tryz.call289 (.i 3 (.J 7 HJ11486) (.J 3 HJ11486)))))))))) (.jR 0 HJ11467 [([28],[7000,114,31,7])])) fun HJ11452=>.y 0 Tryz.func289 Tryz.call289 (.i 3 (.J 7 HJ11452) (.J 3 HJ11452))))) (.I (.h 0 38 (V.fn 260 []) (.y 0 Tryz.func260 Tryz.call260 (.j1 7 2 1 [0] [[7,9]] [[7],[28]] (ring_Step_j104 a273 a281 a264) (fun v299 s=>(s.t 9 (V.bool (decide (a264.B≥0)))).o [31] (Obj.box [I a264.Kind,I a264.Pc,I a264.V,I a264.T,I a264.B,V.bool a264.Won,I a264.State,V.ref [28] 0 (rws (fun n=>[I n]) ([]++a273)).length,I a281.Base,I a281.Cap,I v299])) (fun v299=>.j2 0 0 0 [0] [[7,9]] [[7]] (ring_Step_j107 a264) (fun v292 v293 s=>(s.o [31] (Obj.box [I a264.Kind,I a264.Pc,I a264.V,I a264.T,I a264.B,V.bool a264.Won,I a264.State,V.ref [7000,114,31,7] 0 (rws (fun n=>[I n]) v292).length,I a281.Base,I a281.Cap,I v293])).o [7000,114,31,7] (Obj.rows 1 (rws (fun n=>[I n]) v292) false)) (fun v292 v293=>.J 6 HJ11372) fun HJ11506=>.i 0 (.D 0 10 [] [9] (.A 8 [0,1] (.C 2 (pring_actor_bottom_sc (ring_actor.mk a264 ([]++a273) a281 v299) _ rfl) (.A 1 (up 3 6) (.a 9 (.j2 0 2 1 [0] [[7,9]] [[7]] (ring_Step_j109 a264) (fun v294 v295 s=>(s.o [31] (Obj.box [I a264.Kind,I a264.Pc,I a264.V,I a264.T,I a264.B,V.bool a264.Won,I a264.State,V.ref [7000,114,31,7] 0 (rws (fun n=>[I n]) v294).length,I a281.Base,I a281.Cap,I v295])).o [7000,114,31,7] (Obj.rows 1 (rws (fun n=>[I n]) v294) false)) (fun v294 v295=>.z 0 (.Z (.j 0 HJ11506))) fun HJ11517=>.y 0 Tryz.func290 Tryz.call290 (.b2 fun x296 x297=>.G 6 (cell_Store_sc ([]++a273) (pring_actor_bottom (ring_actor.mk a264 ([]++a273) a281 v299)) (IntKind.i64.wrap (a264.B+1))) (.j1 8 2 1 [0,6] [[0],[7,9]] [[7],[28],[40,19,15,0]] (ring_Step_j110 a273 a264 x296 x297) (fun v298 s=>(s.t 21 (V.bool (x297==0))).o [31] (Obj.box [I a264.Kind,I a264.Pc,I a264.V,I a264.T,I a264.B,V.bool a264.Won,I a264.State,V.ref [28] 0 (rws (fun n=>[I n]) ([]++a273)).length,I a281.Base,I a281.Cap,I v298])) (fun v298=>.i 0 (.jr 6 HJ11517 [([40,19,15,0],[7000,114,31,7])]) (.jr 1 HJ11517 [([28],[7000,114,31,7])])) fun HJ11523=>.y 0 Tryz.func289 Tryz.call289 (.i 3 (.J 7 HJ11523) (.J 3 HJ11523)))))))))) (.jR 0 HJ11506 [([28],[7000,114,31,7])])) fun HJ11493=>.y 0 Tryz.func289 Tryz.call289 (.i 3 (.J 7 HJ11493) (.J 3 HJ11493))))) (.I (.h 0 38 (V.fn 261 []) (.y 0 Tryz.func261 Tryz.call261 (.C 3 (pring_actor_bottom_sc (ring_actor.mk a264 ([]++a273) a281 0) _ rfl) (.y 0 Tryz.func285 Tryz.call285 (.y 3 Tryz.func292 Tryz.call292 (.b2 fun x300 x377=>.G 6 (cell_Load_sc ([]++a273) (pring_actor_bottom (ring_actor.mk a264 ([]++a273) a281 0))) (.j1 8 2 1 [5] [[0,2],[0,2],[7,9]] [[7],[28]] (ring_Step_j115 a273 a264 x300) (fun v302 s=>s.o [31] (Obj.box [I a264.Kind,I a264.Pc,I a264.V,I a264.T,I a264.B,V.bool a264.Won,I a264.State,V.ref [28] 0 (rws (fun n=>[I n]) ([]++a273)).length,I a281.Base,I a281.Cap,I v302])) (fun v302=>.M 9 3 18 15 (.j1 0 2 1 [7] [[0,2],[7,9]] [[7],[28]] (ring_Step_j116 a273 a264 x300) (fun v301 s=>s.o [31] (Obj.box [I a264.Kind,I a264.Pc,I a264.V,I a264.T,I a264.B,V.bool a264.Won,I a264.State,V.ref [28] 0 (rws (fun n=>[I n]) ([]++a273)).length,I a281.Base,I a281.Cap,I v301])) (fun v301=>.jr 18 HJ11372 [([28],[7000,114,31,7])]) fun HJ11559=>.y 0 Tryz.func289 Tryz.call289 (.i 3 (.J 7 HJ11559) (.J 3 HJ11559)))) fun HJ11555=>.y 0 Tryz.func289 Tryz.call289 (.i 3 (.J 7 HJ11555) (.J 3 HJ11555))))))))) (.I (.h 0 38 (V.fn 262 []) (.y 0 Tryz.func262 Tryz.call262 (.j1 7 2 1 [0] [[7,9]] [[7],[28]] (ring_Step_j117 a273 a281 a264) (fun v311 s=>(s.t 9 (V.bool (decide (a264.B≥0)))).o [31] (Obj.box [I a264.Kind,I a264.Pc,I a264.V,I a264.T,I a264.B,V.bool a264.Won,I a264.State,V.ref [28] 0 (rws (fun n=>[I n]) ([]++a273)).length,I a281.Base,I a281.Cap,I v311])) (fun v311=>.j3 0 0 0 [0] [[7,9]] [[7]] (ring_Step_j120 a264) (fun v303 v304 v305 s=>(s.o [31] (Obj.box [I a264.Kind,I a264.Pc,I a264.V,I a264.T,I v303,V.bool a264.Won,I a264.State,V.ref [7000,114,31,7] 0 (rws (fun n=>[I n]) v304).length,I a281.Base,I a281.Cap,I v305])).o [7000,114,31,7] (Obj.rows 1 (rws (fun n=>[I n]) v304) false)) (fun v303 v304 v305=>.J 11 HJ11372) fun HJ11579=>.i 0 (.D 10 9 [] [8] (.A 7 [0,1] (.C 2 (pring_actor_bottom_sc (ring_actor.mk (api_Hand.mk a264.Kind a264.Pc a264.V a264.T (IntKind.i64.wrap (a264.B - 1)) a264.Won a264.State) ([]++a273) a281 v311) _ rfl) (.A 1 (up 3 5) (.a 8 (.j2 0 2 1 [0] [[7,9]] [[7]] (ring_Step_j122 a264) (fun v306 v307 s=>(s.o [31] (Obj.box [I a264.Kind,I a264.Pc,I a264.V,I a264.T,I (IntKind.i64.wrap (a264.B - 1)),V.bool a264.Won,I a264.State,V.ref [7000,114,31,7] 0 (rws (fun n=>[I n]) v306).length,I a281.Base,I a281.Cap,I v307])).o [7000,114,31,7] (Obj.rows 1 (rws (fun n=>[I n]) v306) false)) (fun v306 v307=>.z 0 (.Z (.j 0 HJ11579))) fun HJ11590=>.y 0 Tryz.func290 Tryz.call290 (.b2 fun x308 x309=>.G 6 (cell_Store_sc ([]++a273) (pring_actor_bottom (ring_actor.mk (api_Hand.mk a264.Kind a264.Pc a264.V a264.T (IntKind.i64.wrap (a264.B - 1)) a264.Won a264.State) ([]++a273) a281 v311)) (IntKind.i64.wrap (a264.B - 1))) (.j1 8 2 1 [0,6] [[0],[7,9]] [[7],[28],[40,27,15,0]] (ring_Step_j123 a273 a264 x308 x309) (fun v310 s=>(s.t 21 (V.bool (x309==0))).o [31] (Obj.box [I a264.Kind,I a264.Pc,I a264.V,I a264.T,I (IntKind.i64.wrap (a264.B - 1)),V.bool a264.Won,I a264.State,V.ref [28] 0 (rws (fun n=>[I n]) ([]++a273)).length,I a281.Base,I a281.Cap,I v310])) (fun v310=>.i 0 (.jr 6 HJ11590 [([40,27,15,0],[7000,114,31,7])]) (.jr 1 HJ11590 [([28],[7000,114,31,7])])) fun HJ11596=>.y 0 Tryz.func289 Tryz.call289 (.i 3 (.J 7 HJ11596) (.J 3 HJ11596)))))))))) (.jR 0 HJ11579 [([28],[7000,114,31,7])])) fun HJ11565=>.y 0 Tryz.func289 Tryz.call289 (.i 3 (.J 7 HJ11565) (.J 3 HJ11565))))) (.I (.h 0 38 (V.fn 263 []) (.y 0 Tryz.func263 Tryz.call263 (.C 3 (pring_actor_top_sc (ring_actor.mk a264 ([]++a273) a281 0) _ rfl) (.y 0 Tryz.func285 Tryz.call285 (.y 3 Tryz.func292 Tryz.call292 (.b2 fun x312 x378=>.G 6 (cell_Load_sc ([]++a273) (pring_actor_top (ring_actor.mk a264 ([]++a273) a281 0))) (.j1 8 2 1 [5] [[0,2],[0,2],[7,9]] [[7],[28]] (ring_Step_j128 a273 a264 x312) (fun v314 s=>s.o [31] (Obj.box [I a264.Kind,I a264.Pc,I a264.V,I a264.T,I a264.B,V.bool a264.Won,I a264.State,V.ref [28] 0 (rws (fun n=>[I n]) ([]++a273)).length,I a281.Base,I a281.Cap,I v314])) (fun v314=>.M 9 3 18 15 (.j1 0 2 1 [7] [[0,2],[7,9]] [[7],[28]] (ring_Step_j129 a273 a264 x312) (fun v313 s=>s.o [31] (Obj.box [I a264.Kind,I a264.Pc,I a264.V,I a264.T,I a264.B,V.bool a264.Won,I a264.State,V.ref [28] 0 (rws (fun n=>[I n]) ([]++a273)).length,I a281.Base,I a281.Cap,I v313])) (fun v313=>.D 12 11 [] [] (.A 0 (up 0 11) (.Z (.i 0 (.jr 6 HJ11372 [([28],[7000,114,31,7])]) (.jr 1 HJ11372 [([28],[7000,114,31,7])]))))) fun HJ11632=>.y 0 Tryz.func289 Tryz.call289 (.i 3 (.J 7 HJ11632) (.J 3 HJ11632)))) fun HJ11628=>.y 0 Tryz.func289 Tryz.call289 (.i 3 (.J 7 HJ11628) (.J 3 HJ11628))))))))) (.I (.h 0 38 (V.fn 264 []) (.y 0 Tryz.func264 Tryz.call264 (.j1 7 2 1 [0] [[7,9]] [[7],[28]] (ring_Step_j130 a273 a281 a264) (fun v322 s=>(s.t 9 (V.bool (decide (a264.T≥0)))).o [31] (Obj.box [I a264.Kind,I a264.Pc,I a264.V,I a264.T,I a264.B,V.bool a264.Won,I a264.State,V.ref [28] 0 (rws (fun n=>[I n]) ([]++a273)).length,I a281.Base,I a281.Cap,I v322])) (fun v322=>.j2 0 0 0 [0] [[7,9]] [[7]] (ring_Step_j133 a264) (fun v315 v316 s=>(s.o [31] (Obj.box [I a264.Kind,I a264.Pc,I a264.V,I a264.T,I a264.B,V.bool a264.Won,I a264.State,V.ref [7000,114,31,7] 0 (rws (fun n=>[I n]) v315).length,I a281.Base,I a281.Cap,I v316])).o [7000,114,31,7] (Obj.rows 1 (rws (fun n=>[I n]) v315) false)) (fun v315 v316=>.J 6 HJ11372) fun HJ11652=>.i 0 (.D 0 9 [] [8] (.A 7 [0,1] (.C 2 (pring_actor_bottom_sc (ring_actor.mk a264 ([]++a273) a281 v322) _ rfl) (.A 1 (up 3 5) (.a 8 (.j2 0 2 1 [0] [[7,9]] [[7]] (ring_Step_j135 a264) (fun v317 v318 s=>(s.o [31] (Obj.box [I a264.Kind,I a264.Pc,I a264.V,I a264.T,I a264.B,V.bool a264.Won,I a264.State,V.ref [7000,114,31,7] 0 (rws (fun n=>[I n]) v317).length,I a281.Base,I a281.Cap,I v318])).o [7000,114,31,7] (Obj.rows 1 (rws (fun n=>[I n]) v317) false)) (fun v317 v318=>.z 0 (.Z (.j 0 HJ11652))) fun HJ11663=>.y 0 Tryz.func290 Tryz.call290 (.b2 fun x319 x320=>.G 6 (cell_Store_sc ([]++a273) (pring_actor_bottom (ring_actor.mk a264 ([]++a273) a281 v322)) a264.T) (.j1 8 2 1 [0,6] [[0],[7,9]] [[7],[28],[40,18,15,0]] (ring_Step_j136 a273 a264 x319 x320) (fun v321 s=>(s.t 21 (V.bool (x320==0))).o [31] (Obj.box [I a264.Kind,I a264.Pc,I a264.V,I a264.T,I a264.B,V.bool a264.Won,I a264.State,V.ref [28] 0 (rws (fun n=>[I n]) ([]++a273)).length,I a281.Base,I a281.Cap,I v321])) (fun v321=>.i 0 (.jr 6 HJ11663 [([40,18,15,0],[7000,114,31,7])]) (.jr 1 HJ11663 [([28],[7000,114,31,7])])) fun HJ11669=>.y 0 Tryz.func289 Tryz.call289 (.i 3 (.J 7 HJ11669) (.J 3 HJ11669)))))))))) (.jR 0 HJ11652 [([28],[7000,114,31,7])])) fun HJ11639=>.y 0 Tryz.func289 Tryz.call289 (.i 3 (.J 7 HJ11639) (.J 3 HJ11639))))) (.I (.h 0 38 (V.fn 265 []) (.y 0 Tryz.func265 Tryz.call265 (.j1 7 2 1 [0] [[7,9]] [[7],[28]] (ring_Step_j137 a273 a281 a264) (fun v329 s=>(s.t 9 (V.bool (decide (a264.B≥0)))).o [31] (Obj.box [I a264.Kind,I a264.Pc,I a264.V,I a264.T,I a264.B,V.bool a264.Won,I a264.State,V.ref [28] 0 (rws (fun n=>[I n]) ([]++a273)).length,I a281.Base,I a281.Cap,I v329])) (fun v329=>.j2 0 0 0 [0] [[7,9]] [[7],[28]] (ring_Step_j140 a273 a264) (fun v323 v324 s=>s.o [31] (Obj.box [I a264.Kind,I a264.Pc,I v323,I a264.T,I a264.B,V.bool a264.Won,I a264.State,V.ref [28] 0 (rws (fun n=>[I n]) ([]++a273)).length,I a281.Base,I a281.Cap,I v324])) (fun v323 v324=>.D 0 13 [] [12] (.A 1 (up 0 12) (.a 12 (.j2 0 2 1 [] [[7,9]] [[7],[28]] (ring_Step_j141 a273 a264 v323 v324) (fun v325 v326 s=>s.o [31] (Obj.box [I a264.Kind,I v325,I v323,I a264.T,I a264.B,V.bool a264.Won,I v326,V.ref [28] 0 (rws (fun n=>[I n]) ([]++a273)).length,I a281.Base,I a281.Cap,I v324])) (fun v325 v326=>.z 0 (.Z (.jr 1 HJ11372 [([28],[7000,114,31,7])]))) fun HJ11697=>.y 0 Tryz.func288 Tryz.call288 (.i 1 (.J 7 HJ11697) (.J 7 HJ11697)))))) fun HJ11693=>.i 0 (.V 8 (pring_actor_slot_sc (ring_actor.mk a264 ([]++a273) a281 v329) a264.B) fun x330=>.y 0 Tryz.func292 Tryz.call292 (.b2 fun x327 x331=>.G 6 (cell_Load_sc ([]++a273) x330) (.j1 8 2 1 [5] [[0,10],[7,9]] [[7],[28]] (ring_Step_j143 a273 a264 x327) (fun v328 s=>s.o [31] (Obj.box [I a264.Kind,I a264.Pc,I a264.V,I a264.T,I a264.B,V.bool a264.Won,I a264.State,V.ref [28] 0 (rws (fun n=>[I n]) ([]++a273)).length,I a281.Base,I a281.Cap,I v328])) (fun v328=>.j 7 HJ11693) fun HJ11713=>.y 0 Tryz.func289 Tryz.call289 (.i 3 (.J 7 HJ11713) (.J 3 HJ11713))))) (.j 0 HJ11693)) fun HJ11676=>.y 0 Tryz.func289 Tryz.call289 (.i 3 (.J 7 HJ11676) (.J 3 HJ11676))))) (.I (.h 0 38 (V.fn 266 []) (.y 0 Tryz.func266 Tryz.call266 (.j1 8 2 1 [0,2] [[7,9]] [[7],[28]] (ring_Step_j144 a273 a281 a264) (fun v342 s=>(s.t 10 (V.bool (decide (a264.T≥0)))).o [31] (Obj.box [I a264.Kind,I a264.Pc,I a264.V,I a264.T,I a264.B,V.bool a264.Won,I a264.State,V.ref [28] 0 (rws (fun n=>[I n]) ([]++a273)).length,I a281.Base,I a281.Cap,I v342])) (fun v342=>.j3 1 2 3 [0,2] [[7,9]] [[7]] (ring_Step_j147 a264) (fun v332 v333 v334 s=>((s.t 14 (V.bool v332)).o [31] (Obj.box [I a264.Kind,I a264.Pc,I a264.V,I a264.T,I a264.B,V.bool a264.Won,I a264.State,V.ref [7000,114,31,7] 0 (rws (fun n=>[I n]) v333).length,I a281.Base,I a281.Cap,I v334])).o [7000,114,31,7] (Obj.rows 1 (rws (fun n=>[I n]) v333) false)) (fun v332 v333 v334=>.J 15 HJ11372) fun HJ11771=>.s 0 11 (.j3 1 2 1 [0,2,11] [[7,9]] [[7]] (ring_Step_j149 a264) (fun v335 v336 v337 s=>((s.t 13 (V.bool v335)).o [31] (Obj.box [I a264.Kind,I a264.Pc,I a264.V,I a264.T,I a264.B,V.bool a264.Won,I a264.State,V.ref [7000,114,31,7] 0 (rws (fun n=>[I n]) v336).length,I a281.Base,I a281.Cap,I v337])).o [7000,114,31,7] (Obj.rows 1 (rws (fun n=>[I n]) v336) false)) (fun v335 v336 v337=>.J 1 HJ11771) fun HJ11783=>.y 0 Tryz.func293 Tryz.call293 (.D 1 25 [] [] (.A 20 (up 0 5) (.C 5 (pring_actor_top_sc (ring_actor.mk a264 ([]++a273) a281 v342) _ rfl) (.A 8 (up 6 11) (.b3 fun x338 x339 x340=>.og 17 (cell_Cas_sc ([]++a273) (pring_actor_top (ring_actor.mk a264 ([]++a273) a281 v342)) a264.T (IntKind.i64.wrap (a264.T+1))) (.A 0 (up 18 7) (.Z (.j1 3 2 1 [0,3,4] [[0,2,11],[7,9]] [[7],[28],[40,13,24,0]] (ring_Step_j150 a273 a264 x338 x339 x340) (fun v341 s=>(s.t 31 (V.bool (x340==0))).o [31] (Obj.box [I a264.Kind,I a264.Pc,I a264.V,I a264.T,I a264.B,V.bool a264.Won,I a264.State,V.ref [28] 0 (rws (fun n=>[I n]) ([]++a273)).length,I a281.Base,I a281.Cap,I v341])) (fun v341=>.i 0 (.jr 8 HJ11783 [([40,13,24,0],[7000,114,31,7])]) (.jr 3 HJ11783 [([28],[7000,114,31,7])])) fun HJ11790=>.y 0 Tryz.func289 Tryz.call289 (.i 3 (.J 7 HJ11790) (.J 3 HJ11790))))))))))) (.jr 3 HJ11771 [([28],[7000,114,31,7])])) fun HJ11719=>.y 0 Tryz.func289 Tryz.call289 (.i 3 (.J 7 HJ11719) (.J 3 HJ11719))))) (.I (.h 0 38 (V.fn 267 []) (.y 0 Tryz.func267 Tryz.call267 (.j1 7 2 1 [0] [[7,9]] [[7],[28]] (ring_Step_j151 a273 a281 a264) (fun v350 s=>(s.t 9 (V.bool (decide (a264.T≥0)))).o [31] (Obj.box [I a264.Kind,I a264.Pc,I a264.V,I a264.T,I a264.B,V.bool a264.Won,I a264.State,V.ref [28] 0 (rws (fun n=>[I n]) ([]++a273)).length,I a281.Base,I a281.Cap,I v350])) (fun v350=>.j2 0 0 0 [0] [[7,9]] [[7]] (ring_Step_j154 a264) (fun v343 v344 s=>(s.o [31] (Obj.box [I a264.Kind,I a264.Pc,I a264.V,I a264.T,I a264.B,V.bool a264.Won,I a264.State,V.ref [7000,114,31,7] 0 (rws (fun n=>[I n]) v343).length,I a281.Base,I a281.Cap,I v344])).o [7000,114,31,7] (Obj.rows 1 (rws (fun n=>[I n]) v343) false)) (fun v343 v344=>.i 10 (.J 6 HJ11372) (.J 1 HJ11372)) fun HJ11810=>.i 0 (.D 0 10 [] [9] (.A 8 [0,1] (.C 2 (pring_actor_bottom_sc (ring_actor.mk a264 ([]++a273) a281 v350) _ rfl) (.A 1 (up 3 6) (.a 9 (.j2 0 2 1 [0] [[7,9]] [[7]] (ring_Step_j156 a264) (fun v345 v346 s=>(s.o [31] (Obj.box [I a264.Kind,I a264.Pc,I a264.V,I a264.T,I a264.B,V.bool a264.Won,I a264.State,V.ref [7000,114,31,7] 0 (rws (fun n=>[I n]) v345).length,I a281.Base,I a281.Cap,I v346])).o [7000,114,31,7] (Obj.rows 1 (rws (fun n=>[I n]) v345) false)) (fun v345 v346=>.z 0 (.Z (.j 0 HJ11810))) fun HJ11822=>.y 0 Tryz.func290 Tryz.call290 (.b2 fun x347 x348=>.G 6 (cell_Store_sc ([]++a273) (pring_actor_bottom (ring_actor.mk a264 ([]++a273) a281 v350)) (IntKind.i64.wrap (a264.T+1))) (.j1 8 2 1 [0,6] [[0],[7,9]] [[7],[28],[40,19,15,0]] (ring_Step_j157 a273 a264 x347 x348) (fun v349 s=>(s.t 21 (V.bool (x348==0))).o [31] (Obj.box [I a264.Kind,I a264.Pc,I a264.V,I a264.T,I a264.B,V.bool a264.Won,I a264.State,V.ref [28] 0 (rws (fun n=>[I n]) ([]++a273)).length,I a281.Base,I a281.Cap,I v349])) (fun v349=>.i 0 (.jr 6 HJ11822 [([40,19,15,0],[7000,114,31,7])]) (.jr 1 HJ11822 [([28],[7000,114,31,7])])) fun HJ11828=>.y 0 Tryz.func289 Tryz.call289 (.i 3 (.J 7 HJ11828) (.J 3 HJ11828)))))))))) (.jR 0 HJ11810 [([28],[7000,114,31,7])])) fun HJ11797=>.y 0 Tryz.func289 Tryz.call289 (.i 3 (.J 7 HJ11797) (.J 3 HJ11797))))) (.I (.h 0 38 (V.fn 268 []) (.y 0 Tryz.func268 Tryz.call268 (.C 3 (pring_actor_bottom_sc (ring_actor.mk a264 ([]++a273) a281 0) _ rfl) (.y 0 Tryz.func285 Tryz.call285 (.y 3 Tryz.func292 Tryz.call292 (.b2 fun x351 x379=>.G 6 (cell_Load_sc ([]++a273) (pring_actor_bottom (ring_actor.mk a264 ([]++a273) a281 0))) (.j1 8 2 1 [5] [[0,2],[0,2],[7,9]] [[7],[28]] (ring_Step_j162 a273 a264 x351) (fun v355 s=>s.o [31] (Obj.box [I a264.Kind,I a264.Pc,I a264.V,I a264.T,I a264.B,V.bool a264.Won,I a264.State,V.ref [28] 0 (rws (fun n=>[I n]) ([]++a273)).length,I a281.Base,I a281.Cap,I v355])) (fun v355=>.M 9 3 18 15 (.j1 0 2 1 [7] [[0,2],[7,9]] [[7],[28]] (ring_Step_j163 a273 a264 x351) (fun v352 s=>s.o [31] (Obj.box [I a264.Kind,I a264.Pc,I a264.V,I a264.T,I a264.B,V.bool a264.Won,I a264.State,V.ref [28] 0 (rws (fun n=>[I n]) ([]++a273)).length,I a281.Base,I a281.Cap,I v352])) (fun v352=>.D 7 14 [] [13] (.A 1 (up 0 13) (.a 13 (.j2 0 2 1 [] [[7,9]] [[7],[28]] (ring_Step_j164 a273 a264 x351 v352) (fun v353 v354 s=>s.o [31] (Obj.box [I a264.Kind,I v353,I a264.V,I a264.T,I x351,V.bool a264.Won,I v354,V.ref [28] 0 (rws (fun n=>[I n]) ([]++a273)).length,I a281.Base,I a281.Cap,I v352])) (fun v353 v354=>.z 0 (.Z (.jr 1 HJ11372 [([28],[7000,114,31,7])]))) fun HJ11868=>.y 0 Tryz.func288 Tryz.call288 (.i 1 (.J 7 HJ11868) (.J 7 HJ11868)))))) fun HJ11864=>.y 0 Tryz.func289 Tryz.call289 (.i 3 (.J 7 HJ11864) (.J 3 HJ11864)))) fun HJ11860=>.y 0 Tryz.func289 Tryz.call289 (.i 3 (.J 7 HJ11860) (.J 3 HJ11860))))))))) (.I (.h 0 38 (V.fn 269 []) (.y 0 Tryz.func269 Tryz.call269 (.j1 7 2 1 [0] [[7,9]] [[7],[28]] (ring_Step_j165 a273 a281 a264) (fun v360 s=>(s.t 9 (V.bool (decide (a264.T≥0)))).o [31] (Obj.box [I a264.Kind,I a264.Pc,I a264.V,I a264.T,I a264.B,V.bool a264.Won,I a264.State,V.ref [28] 0 (rws (fun n=>[I n]) ([]++a273)).length,I a281.Base,I a281.Cap,I v360])) (fun v360=>.j2 0 0 0 [0] [[7,9]] [[7],[28]] (ring_Step_j168 a273 a264) (fun v356 v357 s=>s.o [31] (Obj.box [I a264.Kind,I a264.Pc,I v356,I a264.T,I a264.B,V.bool a264.Won,I a264.State,V.ref [28] 0 (rws (fun n=>[I n]) ([]++a273)).length,I a281.Base,I a281.Cap,I v357])) (fun v356 v357=>.jr 11 HJ11372 [([28],[7000,114,31,7])]) fun HJ11892=>.i 0 (.V 8 (pring_actor_slot_sc (ring_actor.mk a264 ([]++a273) a281 v360) a264.T) fun x361=>.y 0 Tryz.func292 Tryz.call292 (.b2 fun x358 x362=>.G 6 (cell_Load_sc ([]++a273) x361) (.j1 8 2 1 [5] [[0,10],[7,9]] [[7],[28]] (ring_Step_j170 a273 a264 x358) (fun v359 s=>s.o [31] (Obj.box [I a264.Kind,I a264.Pc,I a264.V,I a264.T,I a264.B,V.bool a264.Won,I a264.State,V.ref [28] 0 (rws (fun n=>[I n]) ([]++a273)).length,I a281.Base,I a281.Cap,I v359])) (fun v359=>.j 7 HJ11892) fun HJ11907=>.y 0 Tryz.func289 Tryz.call289 (.i 3 (.J 7 HJ11907) (.J 3 HJ11907))))) (.j 0 HJ11892)) fun HJ11875=>.y 0 Tryz.func289 Tryz.call289 (.i 3 (.J 7 HJ11875) (.J 3 HJ11875))))) (.I (.h 0 38 (V.fn 270 []) (.y 0 Tryz.func270 Tryz.call270 (.j1 12 2 1 [0] [[7,9]] [[7],[28]] (ring_Step_j171 a273 a281 a264) (fun v373 s=>(s.t 13 (V.bool (decide (a264.T≥0)))).o [31] (Obj.box [I a264.Kind,I a264.Pc,I a264.V,I a264.T,I a264.B,V.bool a264.Won,I 4,V.ref [28] 0 (rws (fun n=>[I n]) ([]++a273)).length,I a281.Base,I a281.Cap,I v373])) (fun v373=>.j3 1 2 3 [0] [[7,9]] [[7]] (ring_Step_j174 a264) (fun v363 v364 v365 s=>((s.t 17 (V.bool v363)).o [31] (Obj.box [I a264.Kind,I a264.Pc,I a264.V,I a264.T,I a264.B,V.bool a264.Won,I 4,V.ref [7000,114,31,7] 0 (rws (fun n=>[I n]) v364).length,I a281.Base,I a281.Cap,I v365])).o [7000,114,31,7] (Obj.rows 1 (rws (fun n=>[I n]) v364) false)) (fun v363 v364 v365=>.i 0 (.J 6 HJ11372) (.J 1 HJ11372)) fun HJ11966=>.s 0 14 (.j3 1 2 1 [0,14] [[7,9]] [[7]] (ring_Step_j176 a264) (fun v366 v367 v368 s=>((s.t 16 (V.bool v366)).o [31] (Obj.box [I a264.Kind,I a264.Pc,I a264.V,I a264.T,I a264.B,V.bool a264.Won,I 4,V.ref [7000,114,31,7] 0 (rws (fun n=>[I n]) v367).length,I a281.Base,I a281.Cap,I v368])).o [7000,114,31,7] (Obj.rows 1 (rws (fun n=>[I n]) v367) false)) (fun v366 v367 v368=>.J 1 HJ11966) fun HJ11979=>.y 0 Tryz.func293 Tryz.call293 (.D 1 25 [] [] (.A 20 (up 0 5) (.C 5 (pring_actor_top_sc (ring_actor.mk (api_Hand.mk a264.Kind a264.Pc a264.V a264.T a264.B a264.Won 4) ([]++a273) a281 v373) _ rfl) (.A 8 (up 6 11) (.b3 fun x369 x370 x371=>.og 17 (cell_Cas_sc ([]++a273) (pring_actor_top (ring_actor.mk (api_Hand.mk a264.Kind a264.Pc a264.V a264.T a264.B a264.Won 4) ([]++a273) a281 v373)) a264.T (IntKind.i64.wrap (a264.T+1))) (.A 0 (up 18 7) (.Z (.j1 3 2 1 [0,3,4] [[0,14],[7,9]] [[7],[28],[40,16,24,0]] (ring_Step_j177 a273 a264 x369 x370 x371) (fun v372 s=>(s.t 31 (V.bool (x371==0))).o [31] (Obj.box [I a264.Kind,I a264.Pc,I a264.V,I a264.T,I a264.B,V.bool a264.Won,I 4,V.ref [28] 0 (rws (fun n=>[I n]) ([]++a273)).length,I a281.Base,I a281.Cap,I v372])) (fun v372=>.i 0 (.jr 8 HJ11979 [([40,16,24,0],[7000,114,31,7])]) (.jr 3 HJ11979 [([28],[7000,114,31,7])])) fun HJ11986=>.y 0 Tryz.func289 Tryz.call289 (.i 3 (.J 7 HJ11986) (.J 3 HJ11986))))))))))) (.jr 3 HJ11966 [([28],[7000,114,31,7])])) fun HJ11913=>.y 0 Tryz.func289 Tryz.call289 (.i 3 (.J 7 HJ11913) (.J 3 HJ11913))))) (.nn))))))))))))))))))))))))))))))))))))
theorem crew_hand_sc (a380:api_Hand) (r:Bool) (h:crew_hand a380=some r):SC Tryz.prog gl 129 [V.agg a380.cells] (V.bool r):=by
 rw [crew_hand] at h
 refine SC.go Tryz.func129 Tryz.call129 2 ?_
 refine Safe.regionD (n:=12) [(10,[4])] [] E_good mixed rfl ?_
 refine rA 10 [1,2] ?_
 refine DAny.fork (i:=0) (j:=8) rfl rfl (by kernel_rfl) ?_ ?_
 ·refine okG h (fun hb12006 h=>?_)
  refine .quiet rfl rfl rfl (.makeM (f:=(fun n=>[I n])) (d:=(0:Int)) rfl rfl rfl rfl hb12006 rfl rfl rfl) rfl ?_
  refine DAny.fork (i:=3) (j:=8) rfl rfl (by kernel_rfl) ?_ ?_
  ·refine bindG h ?_
   rintro ⟨x381,x382,x383⟩ he12010 h
   refine .quiet rfl rfl rfl (v:=V.tup [V.ref [10,0] 0 (rws (fun n=>[I n]) x381).length,V.agg x382.cells,I x383]) (.callS rfl (.cons (.full rfl rfl) (.cons (.free rfl) (.cons (.free rfl) .nil))) (ring_Step_sc (List.replicate (Int.toNat 3) (0:Int)) (api_Deque.mk 0 1) a380 _ he12010) (.tupL (.cons (.ownM (fun _=>rfl)) (.cons (.aggL (.cons (.plain rfl) (.cons (.plain rfl) (.cons (.plain rfl) (.cons (.plain rfl) (.cons (.plain rfl) (.cons (.plain rfl) (.cons (.plain rfl) .nil)))))))) (.cons (.plain rfl) .nil)))) rfl) rfl ?_
   refine rA 4 (up 4 4) ?_
   refine DAny.only (i:=8) rfl (by kernel_rfl) (.quiet rfl rfl rfl (.alloc rfl rfl) rfl ?_)
   refine rA 2 [9] ?_
   refine .sto 10 ?_
   refine rA 0 [11] ?_
   refine DAny.nil (by kernel_rfl) ?_
   exact .w h (.Q 2 (.O 1 8 25 17 (((x383 != 1)&&(a380.State==0))) (.K 8 8) (.M 3 4 24 20 (.K 1 5)) (.r 1)))
  ·refine .quiet rfl rfl rfl (.alloc rfl rfl) rfl ?_
   refine bindG h ?_
   rintro ⟨x381,x382,x383⟩ he12010 h
   refine DAny.only (i:=3) rfl (by kernel_rfl) (.quiet rfl rfl rfl (v:=V.tup [V.ref [10,0] 0 (rws (fun n=>[I n]) x381).length,V.agg x382.cells,I x383]) (.callS rfl (.cons (.full rfl rfl) (.cons (.free rfl) (.cons (.free rfl) .nil))) (ring_Step_sc (List.replicate (Int.toNat 3) (0:Int)) (api_Deque.mk 0 1) a380 _ he12010) (.tupL (.cons (.ownM (fun _=>rfl)) (.cons (.aggL (.cons (.plain rfl) (.cons (.plain rfl) (.cons (.plain rfl) (.cons (.plain rfl) (.cons (.plain rfl) (.cons (.plain rfl) (.cons (.plain rfl) .nil)))))))) (.cons (.plain rfl) .nil)))) rfl) rfl ?_)
   refine rA 2 [4,5,6,7,9] ?_
   refine .sto 10 ?_
   refine rA 0 [11] ?_
   refine DAny.nil (by kernel_rfl) ?_
   exact .w h (.Q 2 (.O 1 8 25 17 (((x383 != 1)&&(a380.State==0))) (.K 8 8) (.M 3 4 24 20 (.K 1 5)) (.r 1)))
 ·refine .quiet rfl rfl rfl (.alloc rfl rfl) rfl ?_
  refine okG h (fun hb12006 h=>?_)
  refine DAny.only (i:=0) rfl (by kernel_rfl) (.quiet rfl rfl rfl (.makeM (f:=(fun n=>[I n])) (d:=(0:Int)) rfl rfl rfl rfl hb12006 rfl rfl rfl) rfl ?_)
  refine bindG h ?_
  rintro ⟨x381,x382,x383⟩ he12010 h
  refine DAny.only (i:=3) rfl (by kernel_rfl) (.quiet rfl rfl rfl (v:=V.tup [V.ref [10,0] 0 (rws (fun n=>[I n]) x381).length,V.agg x382.cells,I x383]) (.callS rfl (.cons (.full rfl rfl) (.cons (.free rfl) (.cons (.free rfl) .nil))) (ring_Step_sc (List.replicate (Int.toNat 3) (0:Int)) (api_Deque.mk 0 1) a380 _ he12010) (.tupL (.cons (.ownM (fun _=>rfl)) (.cons (.aggL (.cons (.plain rfl) (.cons (.plain rfl) (.cons (.plain rfl) (.cons (.plain rfl) (.cons (.plain rfl) (.cons (.plain rfl) (.cons (.plain rfl) .nil)))))))) (.cons (.plain rfl) .nil)))) rfl) rfl ?_)
  refine rA 2 [4,5,6,7,9] ?_
  refine .sto 10 ?_
  refine rA 0 [11] ?_
  refine DAny.nil (by kernel_rfl) ?_
  exact .w h (.Q 2 (.O 1 8 25 17 (((x383 != 1)&&(a380.State==0))) (.K 8 8) (.M 3 4 24 20 (.K 1 5)) (.r 1)))
theorem slot_Find_sc (a384:api_Places) (a385:Int) (r:Int×Int) (h:slot_Find a384 a385=some r):SC Tryz.prog gl 89 [V.agg a384.cells,I a385] (V.tup [I r.1,I r.2]) :=
 .w Tryz.func89 Tryz.call89 h (.v 4 (slot_Check_sc a384) fun x386=>.N 2 3 14 11 (.i 0 (.r 2) (.Q 3 (.e 5 (.s 2 25 (.r 12) (.q 4 (.i 3 (.r 2) (.q 4 (.i 2 (.r 2) (.q 3 (.i 2 (.r 2) (.r 3))))))))))))
theorem crew_checker_holds_sc (a387:crew_checker) (a388:Int) (a389:Int) (r:Bool) (h:crew_checker_holds a387 a388 a389=some r):SC Tryz.prog gl 130 [V.agg a387.cells,I a388,I a389] (V.bool r) :=
 .w Tryz.func130 Tryz.call130 h (.i 4 (.r 1) (.b2 fun x390 x391=>.g 4 (slot_Find_sc a387.w.Ids a388) (.s 8 21 (.k (.x 4 (.d 1 (.r 4)))) (.r 11))))
theorem crew_checker_worker_sc (a392:crew_checker) (a393:Int) (r:Bool) (h:crew_checker_worker a392 a393=some r):SC Tryz.prog gl 53 [V.agg a392.cells,I a393] (V.bool r) :=
 .w Tryz.func53 Tryz.call53 h (.D 2 16 [(14,[5])] [] (.A 12 (up 0 4) (.k (.X 4 [[5]] (.Y 5 [[5]] (.A 5 (up 6 5) (.k (.X 11 [[5]] (.Y 12 [[5]] (.oq 13 (.w 14 (.A 0 [15] (.Z (.c 4 (crew_within_sc ((gt a392.w.W a393).Do) 0 13 _ rfl) (.T 2 5 33 (crew_checker_worker_j7 a392 a393) (fun HJ12221=>.s 0 28 (.U 5 5 28 HJ12221) (.v 2 (crew_hand_sc ((gt a392.w.W a393).Hand)) fun x400=>.U 2 5 28 HJ12221)) fun b399=>.O 1 8 42 34 ((!(crew_within ((gt a392.w.W a393).At) 0 a392.c.Workers))) (.K 8 8) (.c 5 (crew_within_sc ((gt a392.w.W a393).At) 0 a392.c.Workers _ rfl) (.K 2 8)) (.O 1 5 48 43 (decide ((((gt a392.w.W a393).Ask).length:Int) > 64)) (.K 5 5) (.e 2 (.K 2 5)) (.s 1 49 (.r 8) (.y 3 Tryz.func97 Tryz.call97 (.j1 3 2 1 [] [[2,5,6,49]] [[2],[5]] (crew_checker_worker_j11 a392 a393) (fun v396 s=>s.t 7 (I v396)) (fun v396=>.i 5 (.r 1) (.c 5 (crew_within_sc ((gt a392.w.W a393).Left) 0 a392.c.Budget _ rfl) (.O 2 8 71 63 ((!(crew_within ((gt a392.w.W a393).Spill) 0 a392.c.Cap))) (.K 8 8) (.c 5 (crew_within_sc ((gt a392.w.W a393).Spill) 0 a392.c.Cap _ rfl) (.K 2 8)) (.T 1 6 78 (crew_checker_worker_j12 a392 a393) (fun HJ12299=>.s 0 72 (.U 6 6 72 HJ12299) (.v 3 (crew_checker_holds_sc a392 ((gt a392.w.W a393).Task) 2) fun x397=>.U 2 6 72 HJ12299)) fun b394=>.s 1 79 (.r 9) (.v 3 (crew_checker_holds_sc a392 ((gt a392.w.W a393).Kid) 1) fun x395=>.i 3 (.r 1) (.m 0 (fun n:Int=>I n) (fun n:Int=>I n) (.p 0 (.p 0 (.p 0 (.p 0 (.Q 5 (.r 3)))))))))))) fun HJ12292=>.y 0 Tryz.func176 Tryz.call176 (.e 2 (.l1 1 [0,1,7] [[],[2,5,6,49]] [[2],[5]] (fun v398 s=>s.t 8 (I v398)) fun v398=>.i 1 (.q 5 (.y 0 Tryz.func127 Tryz.call127 (.c 6 (crew_within_sc (gt ((gt a392.w.W a393).Ask) v398) 0 (IntKind.i64.wrap (a392.c.Workers - 1)) _ rfl) (.i 3 (.o (.J 3 HJ12292)) (.n 2))))) (.o (.J 2 HJ12292)))))))))))))))))))))))
theorem crew_Check_sc (a405:api_Config) (a401:api_World) (r:Int) (h:crew_Check a405 a401=some r):SC Tryz.prog gl 12 [V.agg a405.cells,V.agg a401.cells] (I r) :=
 .w Tryz.func12 Tryz.call12 h (.v 9 (crew_checker_parts_sc (crew_checker.mk a405 a401)) fun x412=>.i 1 (.r 1) (.e 2 (.l1 1 [3,5,21] [] [[3],[5]] (fun v410 s=>s.t 22 (I v410)) fun v410=>.i 1 (.v 4 (crew_checker_task_sc (crew_checker.mk a405 a401) v410) fun x411=>.i 1 (.o (.r 1)) (.n 2)) (.o (.e 2 (.l1 1 [3,5,32] [] [[3],[5]] (fun v408 s=>s.t 33 (I v408)) fun v408=>.i 1 (.v 4 (crew_checker_list_sc (crew_checker.mk a405 a401) v408) fun x409=>.i 1 (.o (.r 1)) (.n 2)) (.o (.m 0 (fun n:Int=>I n) (fun b:Bool=>V.bool b) (.e 3 (.l2 1 [5,8,43,44] [] [[5]] (fun v402 v406 s=>(s.t 45 (I v402)).o [41] (Go.AM.Obj.map (mps (fun n:Int=>I n) (fun b:Bool=>V.bool b) v406))) fun v402 v406=>.i 1 (.q 1 (.v 5 (crew_checker_worker_sc (crew_checker.mk a405 a401) v402) fun x407=>.i 1 (.o (.r 1)) (.l2 6 [5,8,43,44,45,58] [] [[5]] (fun v403 v404 s=>(s.t 59 (I v403)).o [41] (Go.AM.Obj.map (mps (fun n:Int=>I n) (fun b:Bool=>V.bool b) v404))) fun v403 v404=>.i 1 (.k (.iv 0 [(gt a401.W v402).Task,(gt a401.W v402).Kid] (.Q 3 (.i 0 (.o (.o (.r 1))) (.p 4 (.n 2)))))) (.o (.n 2))))) (.o (.r 1))))))))))))
theorem slices_Clone_byte_byte_sc (xs:List Int) (r:List Int) (h:slices_Clone_byte_byte xs=some r):SC Tryz.prog gl 205 [V.sl 1 (rws (fun n=>[V.int .u8 n]) xs)] (V.own 1 (rws (fun n=>[V.int .u8 n]) r)):=by
 rw [slices_Clone_byte_byte] at h
 refine okG h (fun hf h=>?_)
 cases h
 refine SC.go Tryz.func205 Tryz.call205 0 ?_
 refine Q0 E_good rfl (v:=V.nils) (.fn rfl) ?_
 refine .go 0 ?_
 refine Q0 E_good rfl (v:=V.sl 1 (rws (fun n=>[V.int .u8 n]) xs)) (.fn rfl) ?_
 refine SafeOps.nilcmp E_good rfl rfl rfl rfl rfl rfl rfl (fun b hb=>?_)
 refine .go 0 ?_
 cases b with
 | true =>
  have hx:xs=[]:=List.map_eq_nil_iff.1 (hb rfl)
  subst hx
  refine .go 1 ?_
  refine Q0 E_good rfl (v:=V.nils) (.fn rfl) ?_
  refine .go 0 ?_
  refine retG ?_
  exact ⟨_,(.nils _),by simp⟩
 | false =>
  refine .go 1 ?_
  refine SafeOps.quiet1 E_good rfl rfl rfl (.litM (f:=(fun n=>[V.int .u8 n])) (xs:=[]) rfl rfl (by decide) rfl rfl rfl rfl rfl) rfl ?_
  refine Q0 E_good rfl (v:=V.sl 1 (rws (fun n=>[V.int .u8 n]) xs)) (.fn rfl) ?_
  refine SafeOps.appendM (fun n=>[V.int .u8 n]) (xs:=[]) (ys:=xs) E_good rfl rfl rfl rfl rfl rfl rfl rfl rfl (.own rfl) (.sl _) (fun _=>rfl) hf ?_
  refine Q0 E_good rfl (v:=V.ref [7] 0 (rws (fun n=>[V.int .u8 n]) ([]++xs)).length) (.fn rfl) ?_
  refine .go 0 ?_
  refine retG ?_
  exact ⟨_,.own rfl rfl,by simp⟩
theorem slices_Clone_api_Task_api_Task_sc (xs:List api_Task) (r:List api_Task) (h:slices_Clone_api_Task_api_Task xs=some r):SC Tryz.prog gl 206 [V.sl 11 (rws api_Task.cells xs)] (V.own 11 (rws api_Task.cells r)):=by
 rw [slices_Clone_api_Task_api_Task] at h
 refine okG h (fun hf h=>?_)
 cases h
 refine SC.go Tryz.func206 Tryz.call206 0 ?_
 refine Q0 E_good rfl (v:=V.nils) (.fn rfl) ?_
 refine .go 0 ?_
 refine Q0 E_good rfl (v:=V.sl 11 (rws api_Task.cells xs)) (.fn rfl) ?_
 refine SafeOps.nilcmp E_good rfl rfl rfl rfl rfl rfl rfl (fun b hb=>?_)
 refine .go 0 ?_
 cases b with
 | true =>
  have hx:xs=[]:=List.map_eq_nil_iff.1 (hb rfl)
  subst hx
  refine .go 1 ?_
  refine Q0 E_good rfl (v:=V.nils) (.fn rfl) ?_
  refine .go 0 ?_
  refine retG ?_
  exact ⟨_,(.nils _),by simp⟩
 | false =>
  refine .go 1 ?_
  refine SafeOps.quiet1 E_good rfl rfl rfl (.litM (f:=api_Task.cells) (xs:=[]) rfl rfl (by decide) rfl rfl rfl rfl rfl) rfl ?_
  refine Q0 E_good rfl (v:=V.sl 11 (rws api_Task.cells xs)) (.fn rfl) ?_
  refine SafeOps.appendM api_Task.cells (xs:=[]) (ys:=xs) E_good rfl rfl rfl rfl rfl rfl rfl rfl rfl (.own rfl) (.sl _) (fun _=>rfl) hf ?_
  refine Q0 E_good rfl (v:=V.ref [7] 0 (rws api_Task.cells ([]++xs)).length) (.fn rfl) ?_
  refine .go 0 ?_
  refine retG ?_
  exact ⟨_,.own rfl rfl,by simp⟩
theorem slices_Clone_api_Tenant_api_Tenant_sc (xs:List api_Tenant) (r:List api_Tenant) (h:slices_Clone_api_Tenant_api_Tenant xs=some r):SC Tryz.prog gl 208 [V.sl 5 (rws api_Tenant.cells xs)] (V.own 5 (rws api_Tenant.cells r)):=by
 rw [slices_Clone_api_Tenant_api_Tenant] at h
 refine okG h (fun hf h=>?_)
 cases h
 refine SC.go Tryz.func208 Tryz.call208 0 ?_
 refine Q0 E_good rfl (v:=V.nils) (.fn rfl) ?_
 refine .go 0 ?_
 refine Q0 E_good rfl (v:=V.sl 5 (rws api_Tenant.cells xs)) (.fn rfl) ?_
 refine SafeOps.nilcmp E_good rfl rfl rfl rfl rfl rfl rfl (fun b hb=>?_)
 refine .go 0 ?_
 cases b with
 | true =>
  have hx:xs=[]:=List.map_eq_nil_iff.1 (hb rfl)
  subst hx
  refine .go 1 ?_
  refine Q0 E_good rfl (v:=V.nils) (.fn rfl) ?_
  refine .go 0 ?_
  refine retG ?_
  exact ⟨_,(.nils _),by simp⟩
 | false =>
  refine .go 1 ?_
  refine SafeOps.quiet1 E_good rfl rfl rfl (.litM (f:=api_Tenant.cells) (xs:=[]) rfl rfl (by decide) rfl rfl rfl rfl rfl) rfl ?_
  refine Q0 E_good rfl (v:=V.sl 5 (rws api_Tenant.cells xs)) (.fn rfl) ?_
  refine SafeOps.appendM api_Tenant.cells (xs:=[]) (ys:=xs) E_good rfl rfl rfl rfl rfl rfl rfl rfl rfl (.own rfl) (.sl _) (fun _=>rfl) hf ?_
  refine Q0 E_good rfl (v:=V.ref [7] 0 (rws api_Tenant.cells ([]++xs)).length) (.fn rfl) ?_
  refine .go 0 ?_
  refine retG ?_
  exact ⟨_,.own rfl rfl,by simp⟩
theorem slices_Clone_api_Timer_api_Timer_sc (xs:List api_Timer) (r:List api_Timer) (h:slices_Clone_api_Timer_api_Timer xs=some r):SC Tryz.prog gl 209 [V.sl 2 (rws api_Timer.cells xs)] (V.own 2 (rws api_Timer.cells r)):=by
 rw [slices_Clone_api_Timer_api_Timer] at h
 refine okG h (fun hf h=>?_)
 cases h
 refine SC.go Tryz.func209 Tryz.call209 0 ?_
 refine Q0 E_good rfl (v:=V.nils) (.fn rfl) ?_
 refine .go 0 ?_
 refine Q0 E_good rfl (v:=V.sl 2 (rws api_Timer.cells xs)) (.fn rfl) ?_
 refine SafeOps.nilcmp E_good rfl rfl rfl rfl rfl rfl rfl (fun b hb=>?_)
 refine .go 0 ?_
 cases b with
 | true =>
  have hx:xs=[]:=List.map_eq_nil_iff.1 (hb rfl)
  subst hx
  refine .go 1 ?_
  refine Q0 E_good rfl (v:=V.nils) (.fn rfl) ?_
  refine .go 0 ?_
  refine retG ?_
  exact ⟨_,(.nils _),by simp⟩
 | false =>
  refine .go 1 ?_
  refine SafeOps.quiet1 E_good rfl rfl rfl (.litM (f:=api_Timer.cells) (xs:=[]) rfl rfl (by decide) rfl rfl rfl rfl rfl) rfl ?_
  refine Q0 E_good rfl (v:=V.sl 2 (rws api_Timer.cells xs)) (.fn rfl) ?_
  refine SafeOps.appendM api_Timer.cells (xs:=[]) (ys:=xs) E_good rfl rfl rfl rfl rfl rfl rfl rfl rfl (.own rfl) (.sl _) (fun _=>rfl) hf ?_
  refine Q0 E_good rfl (v:=V.ref [7] 0 (rws api_Timer.cells ([]++xs)).length) (.fn rfl) ?_
  refine .go 0 ?_
  refine retG ?_
  exact ⟨_,.own rfl rfl,by simp⟩
theorem slices_Clone_api_Fd_api_Fd_sc (xs:List api_Fd) (r:List api_Fd) (h:slices_Clone_api_Fd_api_Fd xs=some r):SC Tryz.prog gl 210 [V.sl 3 (rws api_Fd.cells xs)] (V.own 3 (rws api_Fd.cells r)):=by
 rw [slices_Clone_api_Fd_api_Fd] at h
 refine okG h (fun hf h=>?_)
 cases h
 refine SC.go Tryz.func210 Tryz.call210 0 ?_
 refine Q0 E_good rfl (v:=V.nils) (.fn rfl) ?_
 refine .go 0 ?_
 refine Q0 E_good rfl (v:=V.sl 3 (rws api_Fd.cells xs)) (.fn rfl) ?_
 refine SafeOps.nilcmp E_good rfl rfl rfl rfl rfl rfl rfl (fun b hb=>?_)
 refine .go 0 ?_
 cases b with
 | true =>
  have hx:xs=[]:=List.map_eq_nil_iff.1 (hb rfl)
  subst hx
  refine .go 1 ?_
  refine Q0 E_good rfl (v:=V.nils) (.fn rfl) ?_
  refine .go 0 ?_
  refine retG ?_
  exact ⟨_,(.nils _),by simp⟩
 | false =>
  refine .go 1 ?_
  refine SafeOps.quiet1 E_good rfl rfl rfl (.litM (f:=api_Fd.cells) (xs:=[]) rfl rfl (by decide) rfl rfl rfl rfl rfl) rfl ?_
  refine Q0 E_good rfl (v:=V.sl 3 (rws api_Fd.cells xs)) (.fn rfl) ?_
  refine SafeOps.appendM api_Fd.cells (xs:=[]) (ys:=xs) E_good rfl rfl rfl rfl rfl rfl rfl rfl rfl (.own rfl) (.sl _) (fun _=>rfl) hf ?_
  refine Q0 E_good rfl (v:=V.ref [7] 0 (rws api_Fd.cells ([]++xs)).length) (.fn rfl) ?_
  refine .go 0 ?_
  refine retG ?_
  exact ⟨_,.own rfl rfl,by simp⟩
end Go.Proofs.YtmlcinmdkhmjhaaGreat
