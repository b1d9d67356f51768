/- Helper lemmas for the claim's theorem: an abstract machine over the model, proved sound; no condition beyond each lemma's own. -/
import Derived.Test.YtkkimimkcchlnaaGreatT0
set_option linter.unusedVariables false
set_option linter.unusedSimpArgs false
set_option linter.unnecessarySimpa false
set_option linter.unusedSectionVars false
namespace Go.Proofs.YtkkimimkcchlnaaGreat
open Go Go.AM
set_option maxRecDepth 100000
set_option maxHeartbeats 1000000
set_option linter.unusedVariables false
set_option linter.unusedSimpArgs false
variable {gl:List (Nat×List V)}
theorem ring_Step_sc (a335:List Int) (a343:api_Deque) (a326:api_Hand) (r:(List Int)×api_Hand×Int) (h:ring_Step a335 a343 a326=some r):SC Tryz.prog gl 127 [V.sl 1 (rws (fun n=>[I n]) a335),V.agg a343.cells,V.agg a326.cells] (V.tup [V.own 1 (rws (fun n=>[I n]) r.1),V.agg (api_Hand.cells r.2.1),I r.2.2]):=by
 rw [ring_Step] at h
 refine SC.go Tryz.func127 Tryz.call127 7 ?_
 refine .cP (ring_Check_sc a335 a343 _ rfl) ?_
 refine .go 2 ?_
 refine SafeOps.bjoinL 4 19 15 rfl (b:=(((ring_Check a335 a343) != 0)||(!(ring_may a326)))) (b1:=true) (b0:=(!(ring_may a326))) (fun hc12704 K=>?_) (fun hc12704 K=>?_) bj_or ?_
 ·refine rO 4 ?_
  exact SafeOps.drop' 4 rfl rfl rfl K
 ·refine .go 1 ?_
  refine .cP (ring_may_sc a326 _ rfl) ?_
  refine rO 2 ?_
  exact SafeOps.drop' 4 rfl rfl rfl K
 refine .go 1 ?_
 refine .ifC h (fun hc12705 h=>?_) (fun hc12705 h=>?_)
 ·refine .go 4 ?_
  cases h
  refine retG ?_
  exact ⟨_,(.tup (.cons (.nils _) (.cons (.free rfl) (.cons (.free rfl) .nil)))),by simp⟩
 ·refine .go 4 ?_
  refine .ifC h (fun hc12706 h=>?_) (fun hc12706 h=>?_)
  ·refine .go 4 ?_
   cases h
   refine retG ?_
   exact ⟨_,(.tup (.cons (.nils _) (.cons (.free rfl) (.cons (.free rfl) .nil)))),by simp⟩
  ·refine .go 0 ?_
   refine Safe.regionD (n:=7) [] [] E_good mixed rfl ?_
   refine rA 4 [0,1,3] ?_
   refine okG h (fun hb12707 h=>?_)
   refine DAny.only (i:=2) rfl (by kernel_rfl) (.appendM (fun n=>[I n]) (xs:=[]) (ys:=a335) rfl rfl rfl rfl rfl rfl rfl rfl rfl .nils (.sl _) (fun _=>rfl) hb12707 rfl ?_)
   refine rA 2 [4] ?_
   refine DAny.only (i:=5) rfl (by kernel_rfl) (.quiet rfl rfl rfl (.box rfl rfl) rfl ?_)
   refine rA 0 [6] ?_
   refine DAny.nil (by kernel_rfl) ?_
   refine .go 0 ?_
   refine Safe.regionD (n:=9) [] [8] E_good mixed rfl ?_
   refine rA 7 [0,1] ?_
   refine letG h ?_
   intro x436 he12709 h
   refine .cP (ring_accesses_sc a326.Kind _ he12709) 2 ?_
   refine rA 4 [3,4] ?_
   refine okG h (fun hb12710 h=>?_)
   refine DT 5 [] rfl rfl (v:=V.spt 1 (rws (fun f:Nat=>[V.fn f []]) x436) (Int.toNat a326.Pc) 0) (fun _ hz=>(.idxSlM (f:=(fun f:Nat=>[V.fn f []])) rfl rfl rfl rfl rfl hb12710)) ?_
   refine DT 6 [] rfl rfl (v:=V.fn (gt x436 a326.Pc) []) (fun _ hz=>(.load rfl rfl (.sptM (f:=(fun f:Nat=>[V.fn f []])) hb12710 rfl) rfl)) ?_
   refine rA 1 [7] ?_
   refine DAny.onlyS (i:=8) rfl (by kernel_rfl) rfl ?_
   refine .go0 0 ?_
   refine .joinR 1 (fun((v327,v328,v329,v330,v331,v332,v333,v334):Int×Int×Int×Int×Bool×Int×(List Int)×Int)=>ring_Step_j83 a326 v327 v328 v329 v330 v331 v332 v333 v334=some r) (fun((v327,v328,v329,v330,v331,v332,v333,v334):Int×Int×Int×Int×Bool×Int×(List Int)×Int)=>⟨Tryz.f127.ntmps,[(7,V.ptr [7] 0 0),(9,V.ptr [31] 0 0)],[([7],Obj.box [I 0,I 0,I 0,I 0,I 0,V.bool false,I 0]),([31],Obj.box [I a326.Kind,I v327,I v328,I v329,I v330,V.bool v331,I v332,V.ref [7000,114,31,7] 0 (rws (fun n=>[I n]) v333).length,I a343.Base,I a343.Cap,I v334]),([7000,114,31,7],Obj.rows 1 (rws (fun n=>[I n]) v333) false)],[],[]⟩) ?_ (fun HJ13211=>?_)
   ·rintro ⟨v327,v328,v329,v330,v331,v332,v333,v334⟩ h
    dsimp only at h
    rw [ring_Step_j83] at h
    refine .go 0 ?_
    refine oNil ?_
    refine DAny.nil (by kernel_rfl) ?_
    refine .go 5 ?_
    refine .ifC h (fun hc13212 h=>?_) (fun hc13212 h=>?_)
    ·refine .go 0 ?_
     refine Safe.regionD (n:=8) [(6,[7])] [] E_good mixed rfl ?_
     refine rA 2 (up 0 6) ?_
     refine .sto 6 ?_
     refine rA 0 [7] ?_
     refine DAny.nil (by kernel_rfl) ?_
     refine .go 0 ?_
     cases h
     refine retG ?_
     exact ⟨_,(.tup (.cons (.nils _) (.cons (.free rfl) (.cons (.free rfl) .nil)))),by simp⟩
    ·refine .go 0 ?_
     refine Safe.regionD (n:=11) [(9,[7])] [] E_good mixed rfl ?_
     refine rA 2 (up 0 9) ?_
     refine .sto 9 ?_
     refine rA 0 [10] ?_
     refine DAny.nil (by kernel_rfl) ?_
     refine .go 0 ?_
     cases h
     refine retG ?_
     exact ⟨_,(.tup (.cons (.own rfl rfl) (.cons (.free rfl) (.cons (.free rfl) .nil)))),by simp⟩
   ·refine ifP_G h (fun hq13213 h=>?_) (fun _ h=>?_)
    ·refine .see 38 (u:=V.fn 152 []) rfl (up_fn hq13213) ?_
     refine .inl Tryz.func152 Tryz.call152 3 ?_
     refine .cS (pring_actor_top_sc (ring_actor.mk a326 ([]++a335) a343 0) _ rfl) ?_
     refine .inl Tryz.func167 Tryz.call167 3 ?_
     refine .inl Tryz.func174 Tryz.call174 6 ?_
     refine bindG h ?_
     rintro ⟨x336,x437⟩ he13238 h
     refine .cS (cell_Load_sc ([]++a335) (pring_actor_top (ring_actor.mk a326 ([]++a335) a343 0)) _ he13238) ?_
     refine .go 8 ?_
     refine .joinR 1 (fun(v338:Int)=>ring_Step_j88 a335 a326 x336 v338=some r) (fun(v338:Int)=>⟨Tryz.f174.ntmps,[(5,I x336)],[([7],Obj.box [I 0,I 0,I 0,I 0,I 0,V.bool false,I 0]),([28],Obj.rows 1 (rws (fun n=>[I n]) ([]++a335)) false),([31],Obj.box [I a326.Kind,I a326.Pc,I a326.V,I a326.T,I a326.B,V.bool a326.Won,I a326.State,V.ref [28] 0 (rws (fun n=>[I n]) ([]++a335)).length,I a343.Base,I a343.Cap,I v338])],[(Tryz.f167.ntmps,[(0,V.ptr [31] 0 0),(2,I 0)]),(Tryz.f152.ntmps,[(0,V.ptr [31] 0 0),(2,V.ptr [31] 0 0)]),(Tryz.f127.ntmps,[(7,V.ptr [7] 0 0),(9,V.ptr [31] 0 0)])],[40,6,10]⟩) ?_ (fun HJ13241=>?_)
     ·intro v338 h
      rw [ring_Step_j88] at h
      refine .go 9 ?_
      refine .bjA 3 18 15 ?_
      refine .joinR 1 (fun(v337:Int)=>ring_Step_j89 a335 a326 x336 v337=some r) (fun(v337:Int)=>⟨Tryz.f167.ntmps,[(7,I x336)],[([7],Obj.box [I 0,I 0,I 0,I 0,I 0,V.bool false,I 0]),([28],Obj.rows 1 (rws (fun n=>[I n]) ([]++a335)) false),([31],Obj.box [I a326.Kind,I a326.Pc,I a326.V,I a326.T,I a326.B,V.bool a326.Won,I a326.State,V.ref [28] 0 (rws (fun n=>[I n]) ([]++a335)).length,I a343.Base,I a343.Cap,I v337])],[(Tryz.f152.ntmps,[(0,V.ptr [31] 0 0),(2,V.ptr [31] 0 0)]),(Tryz.f127.ntmps,[(7,V.ptr [7] 0 0),(9,V.ptr [31] 0 0)])],[40,6]⟩) ?_ (fun HJ13245=>?_)
      ·intro v337 h
       rw [ring_Step_j89] at h
       refine .goN 18 ?_
       exact .got (HJ13211 (IntKind.i64.wrap (a326.Pc+1),a326.V,x336,a326.B,a326.Won,a326.State,[]++a335,v337) h) (.ren [28] [7000,114,31,7] covA)
      ·refine .inl Tryz.func171 Tryz.call171 3 ?_
       refine .ifC h (fun hc13246 h=>?_) (fun hc13246 h=>?_)
       ·refine .goN 7 ?_
        exact .got (HJ13245 (9) h) covA
       ·refine .goN 3 ?_
        exact .got (HJ13245 (v338) h) covA
     ·refine .inl Tryz.func171 Tryz.call171 3 ?_
      refine .ifC h (fun hc13247 h=>?_) (fun hc13247 h=>?_)
      ·refine .goN 7 ?_
       exact .got (HJ13241 (9) h) covA
      ·refine .goN 3 ?_
       exact .got (HJ13241 (0) h) covA
    refine ifP_G h (fun hq13248 h=>?_) (fun _ h=>?_)
    ·refine .see 38 (u:=V.fn 153 []) rfl (up_fn hq13248) ?_
     refine .inl Tryz.func153 Tryz.call153 3 ?_
     refine .cS (pring_actor_bottom_sc (ring_actor.mk a326 ([]++a335) a343 0) _ rfl) ?_
     refine .inl Tryz.func167 Tryz.call167 3 ?_
     refine .inl Tryz.func174 Tryz.call174 6 ?_
     refine bindG h ?_
     rintro ⟨x339,x438⟩ he13273 h
     refine .cS (cell_Load_sc ([]++a335) (pring_actor_bottom (ring_actor.mk a326 ([]++a335) a343 0)) _ he13273) ?_
     refine .go 8 ?_
     refine .joinR 1 (fun(v344:Int)=>ring_Step_j94 a335 a343 a326 x339 v344=some r) (fun(v344:Int)=>⟨Tryz.f174.ntmps,[(5,I x339)],[([7],Obj.box [I 0,I 0,I 0,I 0,I 0,V.bool false,I 0]),([28],Obj.rows 1 (rws (fun n=>[I n]) ([]++a335)) false),([31],Obj.box [I a326.Kind,I a326.Pc,I a326.V,I a326.T,I a326.B,V.bool a326.Won,I a326.State,V.ref [28] 0 (rws (fun n=>[I n]) ([]++a335)).length,I a343.Base,I a343.Cap,I v344])],[(Tryz.f167.ntmps,[(0,V.ptr [31] 0 0),(2,I 0)]),(Tryz.f153.ntmps,[(0,V.ptr [31] 0 0),(2,V.ptr [31] 0 0)]),(Tryz.f127.ntmps,[(7,V.ptr [7] 0 0),(9,V.ptr [31] 0 0)])],[40,6,10]⟩) ?_ (fun HJ13276=>?_)
     ·intro v344 h
      rw [ring_Step_j94] at h
      refine .go 9 ?_
      refine .bjA 3 18 15 ?_
      refine .joinR 1 (fun(v340:Int)=>ring_Step_j95 a335 a343 a326 x339 v340=some r) (fun(v340:Int)=>⟨Tryz.f167.ntmps,[(7,I x339)],[([7],Obj.box [I 0,I 0,I 0,I 0,I 0,V.bool false,I 0]),([28],Obj.rows 1 (rws (fun n=>[I n]) ([]++a335)) false),([31],Obj.box [I a326.Kind,I a326.Pc,I a326.V,I a326.T,I a326.B,V.bool a326.Won,I a326.State,V.ref [28] 0 (rws (fun n=>[I n]) ([]++a335)).length,I a343.Base,I a343.Cap,I v340])],[(Tryz.f153.ntmps,[(0,V.ptr [31] 0 0),(2,V.ptr [31] 0 0)]),(Tryz.f127.ntmps,[(7,V.ptr [7] 0 0),(9,V.ptr [31] 0 0)])],[40,6]⟩) ?_ (fun HJ13280=>?_)
      ·intro v340 h
       rw [ring_Step_j95] at h
       refine .go 7 ?_
       refine Safe.regionD (n:=19) [] [18] E_good mixed rfl ?_
       refine rA 1 (up 0 18) ?_
       refine DAny.onlyS (i:=18) rfl (by kernel_rfl) rfl ?_
       refine .go0 0 ?_
       refine .joinR 1 (fun((v341,v342):Int×Int)=>ring_Step_j96 a335 a326 x339 v340 v341 v342=some r) (fun((v341,v342):Int×Int)=>⟨Tryz.f153.ntmps,[],[([7],Obj.box [I 0,I 0,I 0,I 0,I 0,V.bool false,I 0]),([28],Obj.rows 1 (rws (fun n=>[I n]) ([]++a335)) false),([31],Obj.box [I a326.Kind,I v341,I a326.V,I a326.T,I x339,V.bool a326.Won,I v342,V.ref [28] 0 (rws (fun n=>[I n]) ([]++a335)).length,I a343.Base,I a343.Cap,I v340])],[(Tryz.f127.ntmps,[(7,V.ptr [7] 0 0),(9,V.ptr [31] 0 0)])],[40]⟩) ?_ (fun HJ13284=>?_)
       ·rintro ⟨v341,v342⟩ h
        dsimp only at h
        rw [ring_Step_j96] at h
        refine .go 0 ?_
        refine oNil ?_
        refine DAny.nil (by kernel_rfl) ?_
        refine .goN 1 ?_
        exact .got (HJ13211 (v341,a326.V,a326.T,x339,a326.Won,v342,[]++a335,v340) h) (.ren [28] [7000,114,31,7] covA)
       ·refine .inl Tryz.func170 Tryz.call170 1 ?_
        refine .ifC h (fun hc13285 h=>?_) (fun hc13285 h=>?_)
        ·refine .goN 7 ?_
         exact .got (HJ13284 (a326.Pc,3) h) covA
        ·refine .goN 7 ?_
         exact .got (HJ13284 (2,a326.State) h) covA
      ·refine .inl Tryz.func171 Tryz.call171 3 ?_
       refine .ifC h (fun hc13286 h=>?_) (fun hc13286 h=>?_)
       ·refine .goN 7 ?_
        exact .got (HJ13280 (9) h) covA
       ·refine .goN 3 ?_
        exact .got (HJ13280 (v344) h) covA
     ·refine .inl Tryz.func171 Tryz.call171 3 ?_
      refine .ifC h (fun hc13287 h=>?_) (fun hc13287 h=>?_)
      ·refine .goN 7 ?_
       exact .got (HJ13276 (9) h) covA
      ·refine .goN 3 ?_
       exact .got (HJ13276 (0) h) covA
    refine ifP_G h (fun hq13288 h=>?_) (fun _ h=>?_)
    ·refine .see 38 (u:=V.fn 154 []) rfl (up_fn hq13288) ?_
     refine .inl Tryz.func154 Tryz.call154 7 ?_
     refine .joinR 1 (fun(v352:Int)=>ring_Step_j97 a335 a343 a326 v352=some r) (fun(v352:Int)=>⟨Tryz.f154.ntmps,[(0,V.ptr [31] 0 0),(9,V.bool (decide (a326.B≥0)))],[([7],Obj.box [I 0,I 0,I 0,I 0,I 0,V.bool false,I 0]),([28],Obj.rows 1 (rws (fun n=>[I n]) ([]++a335)) false),([31],Obj.box [I a326.Kind,I a326.Pc,I a326.V,I a326.T,I a326.B,V.bool a326.Won,I a326.State,V.ref [28] 0 (rws (fun n=>[I n]) ([]++a335)).length,I a343.Base,I a343.Cap,I v352])],[(Tryz.f127.ntmps,[(7,V.ptr [7] 0 0),(9,V.ptr [31] 0 0)])],[40]⟩) ?_ (fun HJ13291=>?_)
     ·intro v352 h
      rw [ring_Step_j97] at h
      refine .go 0 ?_
      refine .joinS (fun((v345,v346):(List Int)×Int)=>ring_Step_j100 a326 v345 v346=some r) (fun((v345,v346):(List Int)×Int)=>⟨Tryz.f154.ntmps,[(0,V.ptr [31] 0 0)],[([7],Obj.box [I 0,I 0,I 0,I 0,I 0,V.bool false,I 0]),([31],Obj.box [I a326.Kind,I a326.Pc,I a326.V,I a326.T,I a326.B,V.bool a326.Won,I a326.State,V.ref [7000,114,31,7] 0 (rws (fun n=>[I n]) v345).length,I a343.Base,I a343.Cap,I v346]),([7000,114,31,7],Obj.rows 1 (rws (fun n=>[I n]) v345) false)],[(Tryz.f127.ntmps,[(7,V.ptr [7] 0 0),(9,V.ptr [31] 0 0)])],[40]⟩) ?_ (fun HJ13306=>?_)
      ·rintro ⟨v345,v346⟩ h
       dsimp only at h
       rw [ring_Step_j100] at h
       refine .goN 11 ?_
       exact .got (HJ13211 (IntKind.i64.wrap (a326.Pc+1),a326.V,a326.T,a326.B,a326.Won,a326.State,v345,v346) h) covA
      ·refine .ifC h (fun hc13307 h=>?_) (fun hc13307 h=>?_)
       ·refine .go 0 ?_
        refine Safe.regionD (n:=14) [] [13] E_good mixed rfl ?_
        refine rA 7 (up 0 7) ?_
        refine bindG h ?_
        intro x353 he13309 h
        refine DT 7 [] rfl rfl (v:=I x353) (fun _ hz=>(.callS rfl (.cons (.box (hz _ _ rfl rfl) (.cons (.free rfl) (.cons (.free rfl) (.cons (.free rfl) (.cons (.free rfl) (.cons (.free rfl) (.cons (.free rfl) (.cons (.free rfl) (.cons (.full (hz _ _ rfl rfl) rfl) (.cons (.free rfl) (.cons (.free rfl) (.cons (.free rfl) .nil)))))))))))) (.cons (.free rfl) .nil)) (pring_actor_slot_sc (ring_actor.mk a326 ([]++a335) a343 v352) a326.B _ he13309) (.plain rfl) rfl)) ?_
        refine rA 1 (up 8 5) ?_
        refine DAny.onlyS (i:=13) rfl (by kernel_rfl) rfl ?_
        refine .go0 0 ?_
        refine .joinR 1 (fun((v347,v348):(List Int)×Int)=>ring_Step_j102 a326 v347 v348=some r) (fun((v347,v348):(List Int)×Int)=>⟨Tryz.f154.ntmps,[(0,V.ptr [31] 0 0)],[([7],Obj.box [I 0,I 0,I 0,I 0,I 0,V.bool false,I 0]),([31],Obj.box [I a326.Kind,I a326.Pc,I a326.V,I a326.T,I a326.B,V.bool a326.Won,I a326.State,V.ref [7000,114,31,7] 0 (rws (fun n=>[I n]) v347).length,I a343.Base,I a343.Cap,I v348]),([7000,114,31,7],Obj.rows 1 (rws (fun n=>[I n]) v347) false)],[(Tryz.f127.ntmps,[(7,V.ptr [7] 0 0),(9,V.ptr [31] 0 0)])],[40]⟩) ?_ (fun HJ13319=>?_)
        ·rintro ⟨v347,v348⟩ h
         dsimp only at h
         rw [ring_Step_j102] at h
         refine .go 0 ?_
         refine oNil ?_
         refine DAny.nil (by kernel_rfl) ?_
         refine .go 0 ?_
         exact .got (HJ13306 (v347,v348) h) covA
        ·refine .inl Tryz.func172 Tryz.call172 6 ?_
         refine bindG h ?_
         rintro ⟨x349,x350⟩ he13322 h
         refine .cS (cell_Store_sc ([]++a335) x353 a326.V _ he13322) ?_
         refine .go 8 ?_
         refine .joinR 1 (fun(v351:Int)=>ring_Step_j103 a335 a326 x349 x350 v351=some r) (fun(v351:Int)=>⟨Tryz.f172.ntmps,[(0,V.ptr [31] 0 0),(6,V.ref [40,23,15,0] 0 (rws (fun n=>[I n]) x349).length),(21,V.bool (x350==0))],[([7],Obj.box [I 0,I 0,I 0,I 0,I 0,V.bool false,I 0]),([28],Obj.rows 1 (rws (fun n=>[I n]) ([]++a335)) false),([31],Obj.box [I a326.Kind,I a326.Pc,I a326.V,I a326.T,I a326.B,V.bool a326.Won,I a326.State,V.ref [28] 0 (rws (fun n=>[I n]) ([]++a335)).length,I a343.Base,I a343.Cap,I v351]),([40,23,15,0],Obj.rows 1 (rws (fun n=>[I n]) x349) false)],[(Tryz.f154.ntmps,[(0,V.ptr [31] 0 0)]),(Tryz.f127.ntmps,[(7,V.ptr [7] 0 0),(9,V.ptr [31] 0 0)])],[40,23]⟩) ?_ (fun HJ13325=>?_)
         ·intro v351 h
          rw [ring_Step_j103] at h
          refine .go 0 ?_
          refine .ifC h (fun hc13326 h=>?_) (fun hc13326 h=>?_)
          ·refine .goN 6 ?_
           exact .got (HJ13319 (x349,v351) h) (.ren [40,23,15,0] [7000,114,31,7] covA)
          ·refine .goN 1 ?_
           exact .got (HJ13319 ([]++a335,v351) h) (.ren [28] [7000,114,31,7] covA)
         ·refine .inl Tryz.func171 Tryz.call171 3 ?_
          refine .ifC h (fun hc13327 h=>?_) (fun hc13327 h=>?_)
          ·refine .goN 7 ?_
           exact .got (HJ13325 (9) h) covA
          ·refine .goN 3 ?_
           exact .got (HJ13325 (v352) h) covA
       ·refine .go 0 ?_
        exact .got (HJ13306 ([]++a335,v352) h) (.ren [28] [7000,114,31,7] covA)
     ·refine .inl Tryz.func171 Tryz.call171 3 ?_
      refine .ifC h (fun hc13328 h=>?_) (fun hc13328 h=>?_)
      ·refine .goN 7 ?_
       exact .got (HJ13291 (9) h) covA
      ·refine .goN 3 ?_
       exact .got (HJ13291 (0) h) covA
    refine ifP_G h (fun hq13329 h=>?_) (fun _ h=>?_)
    ·refine .see 38 (u:=V.fn 155 []) rfl (up_fn hq13329) ?_
     refine .inl Tryz.func155 Tryz.call155 7 ?_
     refine .joinR 1 (fun(v361:Int)=>ring_Step_j104 a335 a343 a326 v361=some r) (fun(v361:Int)=>⟨Tryz.f155.ntmps,[(0,V.ptr [31] 0 0),(9,V.bool (decide (a326.B≥0)))],[([7],Obj.box [I 0,I 0,I 0,I 0,I 0,V.bool false,I 0]),([28],Obj.rows 1 (rws (fun n=>[I n]) ([]++a335)) false),([31],Obj.box [I a326.Kind,I a326.Pc,I a326.V,I a326.T,I a326.B,V.bool a326.Won,I a326.State,V.ref [28] 0 (rws (fun n=>[I n]) ([]++a335)).length,I a343.Base,I a343.Cap,I v361])],[(Tryz.f127.ntmps,[(7,V.ptr [7] 0 0),(9,V.ptr [31] 0 0)])],[40]⟩) ?_ (fun HJ13332=>?_)
     ·intro v361 h
      rw [ring_Step_j104] at h
      refine .go 0 ?_
      refine .joinS (fun((v354,v355):(List Int)×Int)=>ring_Step_j107 a326 v354 v355=some r) (fun((v354,v355):(List Int)×Int)=>⟨Tryz.f155.ntmps,[(0,V.ptr [31] 0 0)],[([7],Obj.box [I 0,I 0,I 0,I 0,I 0,V.bool false,I 0]),([31],Obj.box [I a326.Kind,I a326.Pc,I a326.V,I a326.T,I a326.B,V.bool a326.Won,I a326.State,V.ref [7000,114,31,7] 0 (rws (fun n=>[I n]) v354).length,I a343.Base,I a343.Cap,I v355]),([7000,114,31,7],Obj.rows 1 (rws (fun n=>[I n]) v354) false)],[(Tryz.f127.ntmps,[(7,V.ptr [7] 0 0),(9,V.ptr [31] 0 0)])],[40]⟩) ?_ (fun HJ13345=>?_)
      ·rintro ⟨v354,v355⟩ h
       dsimp only at h
       rw [ring_Step_j107] at h
       refine .goN 6 ?_
       exact .got (HJ13211 (a326.Pc,a326.V,a326.T,a326.B,a326.Won,1,v354,v355) h) covA
      ·refine .ifC h (fun hc13346 h=>?_) (fun hc13346 h=>?_)
       ·refine .go 0 ?_
        refine Safe.regionD (n:=10) [] [9] E_good mixed rfl ?_
        refine rA 8 [0,1] ?_
        refine DT 2 [] rfl rfl (v:=I (pring_actor_bottom (ring_actor.mk a326 ([]++a335) a343 v361))) (fun _ hz=>(.callS rfl (.cons (.box (hz _ _ rfl rfl) (.cons (.free rfl) (.cons (.free rfl) (.cons (.free rfl) (.cons (.free rfl) (.cons (.free rfl) (.cons (.free rfl) (.cons (.free rfl) (.cons (.full (hz _ _ rfl rfl) rfl) (.cons (.free rfl) (.cons (.free rfl) (.cons (.free rfl) .nil)))))))))))) .nil) (pring_actor_bottom_sc (ring_actor.mk a326 ([]++a335) a343 v361) _ rfl) (.plain rfl) rfl)) ?_
        refine rA 1 (up 3 6) ?_
        refine DAny.onlyS (i:=9) rfl (by kernel_rfl) rfl ?_
        refine .go0 0 ?_
        refine .joinR 1 (fun((v356,v357):(List Int)×Int)=>ring_Step_j109 a326 v356 v357=some r) (fun((v356,v357):(List Int)×Int)=>⟨Tryz.f155.ntmps,[(0,V.ptr [31] 0 0)],[([7],Obj.box [I 0,I 0,I 0,I 0,I 0,V.bool false,I 0]),([31],Obj.box [I a326.Kind,I a326.Pc,I a326.V,I a326.T,I a326.B,V.bool a326.Won,I a326.State,V.ref [7000,114,31,7] 0 (rws (fun n=>[I n]) v356).length,I a343.Base,I a343.Cap,I v357]),([7000,114,31,7],Obj.rows 1 (rws (fun n=>[I n]) v356) false)],[(Tryz.f127.ntmps,[(7,V.ptr [7] 0 0),(9,V.ptr [31] 0 0)])],[40]⟩) ?_ (fun HJ13356=>?_)
        ·rintro ⟨v356,v357⟩ h
         dsimp only at h
         rw [ring_Step_j109] at h
         refine .go 0 ?_
         refine oNil ?_
         refine DAny.nil (by kernel_rfl) ?_
         refine .go 0 ?_
         exact .got (HJ13345 (v356,v357) h) covA
        ·refine .inl Tryz.func172 Tryz.call172 6 ?_
         refine bindG h ?_
         rintro ⟨x358,x359⟩ he13359 h
         refine .cS (cell_Store_sc ([]++a335) (pring_actor_bottom (ring_actor.mk a326 ([]++a335) a343 v361)) (IntKind.i64.wrap (a326.B+1)) _ he13359) ?_
         refine .go 8 ?_
         refine .joinR 1 (fun(v360:Int)=>ring_Step_j110 a335 a326 x358 x359 v360=some r) (fun(v360:Int)=>⟨Tryz.f172.ntmps,[(0,V.ptr [31] 0 0),(6,V.ref [40,19,15,0] 0 (rws (fun n=>[I n]) x358).length),(21,V.bool (x359==0))],[([7],Obj.box [I 0,I 0,I 0,I 0,I 0,V.bool false,I 0]),([28],Obj.rows 1 (rws (fun n=>[I n]) ([]++a335)) false),([31],Obj.box [I a326.Kind,I a326.Pc,I a326.V,I a326.T,I a326.B,V.bool a326.Won,I a326.State,V.ref [28] 0 (rws (fun n=>[I n]) ([]++a335)).length,I a343.Base,I a343.Cap,I v360]),([40,19,15,0],Obj.rows 1 (rws (fun n=>[I n]) x358) false)],[(Tryz.f155.ntmps,[(0,V.ptr [31] 0 0)]),(Tryz.f127.ntmps,[(7,V.ptr [7] 0 0),(9,V.ptr [31] 0 0)])],[40,19]⟩) ?_ (fun HJ13362=>?_)
         ·intro v360 h
          rw [ring_Step_j110] at h
          refine .go 0 ?_
          refine .ifC h (fun hc13363 h=>?_) (fun hc13363 h=>?_)
          ·refine .goN 6 ?_
           exact .got (HJ13356 (x358,v360) h) (.ren [40,19,15,0] [7000,114,31,7] covA)
          ·refine .goN 1 ?_
           exact .got (HJ13356 ([]++a335,v360) h) (.ren [28] [7000,114,31,7] covA)
         ·refine .inl Tryz.func171 Tryz.call171 3 ?_
          refine .ifC h (fun hc13364 h=>?_) (fun hc13364 h=>?_)
          ·refine .goN 7 ?_
           exact .got (HJ13362 (9) h) covA
          ·refine .goN 3 ?_
           exact .got (HJ13362 (v361) h) covA
       ·refine .go 0 ?_
        exact .got (HJ13345 ([]++a335,v361) h) (.ren [28] [7000,114,31,7] covA)
     ·refine .inl Tryz.func171 Tryz.call171 3 ?_
      refine .ifC h (fun hc13365 h=>?_) (fun hc13365 h=>?_)
      ·refine .goN 7 ?_
       exact .got (HJ13332 (9) h) covA
      ·refine .goN 3 ?_
       exact .got (HJ13332 (0) h) covA
    refine ifP_G h (fun hq13366 h=>?_) (fun _ h=>?_)
    ·refine .see 38 (u:=V.fn 156 []) rfl (up_fn hq13366) ?_
     refine .inl Tryz.func156 Tryz.call156 3 ?_
     refine .cS (pring_actor_bottom_sc (ring_actor.mk a326 ([]++a335) a343 0) _ rfl) ?_
     refine .inl Tryz.func167 Tryz.call167 3 ?_
     refine .inl Tryz.func174 Tryz.call174 6 ?_
     refine bindG h ?_
     rintro ⟨x362,x439⟩ he13391 h
     refine .cS (cell_Load_sc ([]++a335) (pring_actor_bottom (ring_actor.mk a326 ([]++a335) a343 0)) _ he13391) ?_
     refine .go 8 ?_
     refine .joinR 1 (fun(v364:Int)=>ring_Step_j115 a335 a326 x362 v364=some r) (fun(v364:Int)=>⟨Tryz.f174.ntmps,[(5,I x362)],[([7],Obj.box [I 0,I 0,I 0,I 0,I 0,V.bool false,I 0]),([28],Obj.rows 1 (rws (fun n=>[I n]) ([]++a335)) false),([31],Obj.box [I a326.Kind,I a326.Pc,I a326.V,I a326.T,I a326.B,V.bool a326.Won,I a326.State,V.ref [28] 0 (rws (fun n=>[I n]) ([]++a335)).length,I a343.Base,I a343.Cap,I v364])],[(Tryz.f167.ntmps,[(0,V.ptr [31] 0 0),(2,I 0)]),(Tryz.f156.ntmps,[(0,V.ptr [31] 0 0),(2,V.ptr [31] 0 0)]),(Tryz.f127.ntmps,[(7,V.ptr [7] 0 0),(9,V.ptr [31] 0 0)])],[40,6,10]⟩) ?_ (fun HJ13394=>?_)
     ·intro v364 h
      rw [ring_Step_j115] at h
      refine .go 9 ?_
      refine .bjA 3 18 15 ?_
      refine .joinR 1 (fun(v363:Int)=>ring_Step_j116 a335 a326 x362 v363=some r) (fun(v363:Int)=>⟨Tryz.f167.ntmps,[(7,I x362)],[([7],Obj.box [I 0,I 0,I 0,I 0,I 0,V.bool false,I 0]),([28],Obj.rows 1 (rws (fun n=>[I n]) ([]++a335)) false),([31],Obj.box [I a326.Kind,I a326.Pc,I a326.V,I a326.T,I a326.B,V.bool a326.Won,I a326.State,V.ref [28] 0 (rws (fun n=>[I n]) ([]++a335)).length,I a343.Base,I a343.Cap,I v363])],[(Tryz.f156.ntmps,[(0,V.ptr [31] 0 0),(2,V.ptr [31] 0 0)]),(Tryz.f127.ntmps,[(7,V.ptr [7] 0 0),(9,V.ptr [31] 0 0)])],[40,6]⟩) ?_ (fun HJ13398=>?_)
      ·intro v363 h
       rw [ring_Step_j116] at h
       refine .goN 18 ?_
       exact .got (HJ13211 (IntKind.i64.wrap (a326.Pc+1),a326.V,a326.T,x362,a326.Won,a326.State,[]++a335,v363) h) (.ren [28] [7000,114,31,7] covA)
      ·refine .inl Tryz.func171 Tryz.call171 3 ?_
       refine .ifC h (fun hc13399 h=>?_) (fun hc13399 h=>?_)
       ·refine .goN 7 ?_
        exact .got (HJ13398 (9) h) covA
       ·refine .goN 3 ?_
        exact .got (HJ13398 (v364) h) covA
     ·refine .inl Tryz.func171 Tryz.call171 3 ?_
      refine .ifC h (fun hc13400 h=>?_) (fun hc13400 h=>?_)
      ·refine .goN 7 ?_
       exact .got (HJ13394 (9) h) covA
      ·refine .goN 3 ?_
       exact .got (HJ13394 (0) h) covA
    refine ifP_G h (fun hq13401 h=>?_) (fun _ h=>?_)
    ·refine .see 38 (u:=V.fn 157 []) rfl (up_fn hq13401) ?_
     refine .inl Tryz.func157 Tryz.call157 7 ?_
     refine .joinR 1 (fun(v373:Int)=>ring_Step_j117 a335 a343 a326 v373=some r) (fun(v373:Int)=>⟨Tryz.f157.ntmps,[(0,V.ptr [31] 0 0),(9,V.bool (decide (a326.B≥0)))],[([7],Obj.box [I 0,I 0,I 0,I 0,I 0,V.bool false,I 0]),([28],Obj.rows 1 (rws (fun n=>[I n]) ([]++a335)) false),([31],Obj.box [I a326.Kind,I a326.Pc,I a326.V,I a326.T,I a326.B,V.bool a326.Won,I a326.State,V.ref [28] 0 (rws (fun n=>[I n]) ([]++a335)).length,I a343.Base,I a343.Cap,I v373])],[(Tryz.f127.ntmps,[(7,V.ptr [7] 0 0),(9,V.ptr [31] 0 0)])],[40]⟩) ?_ (fun HJ13404=>?_)
     ·intro v373 h
      rw [ring_Step_j117] at h
      refine .go 0 ?_
      refine .joinS (fun((v365,v366,v367):Int×(List Int)×Int)=>ring_Step_j120 a326 v365 v366 v367=some r) (fun((v365,v366,v367):Int×(List Int)×Int)=>⟨Tryz.f157.ntmps,[(0,V.ptr [31] 0 0)],[([7],Obj.box [I 0,I 0,I 0,I 0,I 0,V.bool false,I 0]),([31],Obj.box [I a326.Kind,I a326.Pc,I a326.V,I a326.T,I v365,V.bool a326.Won,I a326.State,V.ref [7000,114,31,7] 0 (rws (fun n=>[I n]) v366).length,I a343.Base,I a343.Cap,I v367]),([7000,114,31,7],Obj.rows 1 (rws (fun n=>[I n]) v366) false)],[(Tryz.f127.ntmps,[(7,V.ptr [7] 0 0),(9,V.ptr [31] 0 0)])],[40]⟩) ?_ (fun HJ13418=>?_)
      ·rintro ⟨v365,v366,v367⟩ h
       dsimp only at h
       rw [ring_Step_j120] at h
       refine .goN 11 ?_
       exact .got (HJ13211 (IntKind.i64.wrap (a326.Pc+1),a326.V,a326.T,v365,a326.Won,a326.State,v366,v367) h) covA
      ·refine .ifC h (fun hc13419 h=>?_) (fun hc13419 h=>?_)
       ·refine .go 10 ?_
        refine Safe.regionD (n:=9) [] [8] E_good mixed rfl ?_
        refine rA 7 [0,1] ?_
        refine DT 2 [] rfl rfl (v:=I (pring_actor_bottom (ring_actor.mk (api_Hand.mk a326.Kind a326.Pc a326.V a326.T (IntKind.i64.wrap (a326.B - 1)) a326.Won a326.State) ([]++a335) a343 v373))) (fun _ hz=>(.callS rfl (.cons (.box (hz _ _ rfl rfl) (.cons (.free rfl) (.cons (.free rfl) (.cons (.free rfl) (.cons (.free rfl) (.cons (.free rfl) (.cons (.free rfl) (.cons (.free rfl) (.cons (.full (hz _ _ rfl rfl) rfl) (.cons (.free rfl) (.cons (.free rfl) (.cons (.free rfl) .nil)))))))))))) .nil) (pring_actor_bottom_sc (ring_actor.mk (api_Hand.mk a326.Kind a326.Pc a326.V a326.T (IntKind.i64.wrap (a326.B - 1)) a326.Won a326.State) ([]++a335) a343 v373) _ rfl) (.plain rfl) rfl)) ?_
        refine rA 1 (up 3 5) ?_
        refine DAny.onlyS (i:=8) rfl (by kernel_rfl) rfl ?_
        refine .go0 0 ?_
        refine .joinR 1 (fun((v368,v369):(List Int)×Int)=>ring_Step_j122 a326 v368 v369=some r) (fun((v368,v369):(List Int)×Int)=>⟨Tryz.f157.ntmps,[(0,V.ptr [31] 0 0)],[([7],Obj.box [I 0,I 0,I 0,I 0,I 0,V.bool false,I 0]),([31],Obj.box [I a326.Kind,I a326.Pc,I a326.V,I a326.T,I (IntKind.i64.wrap (a326.B - 1)),V.bool a326.Won,I a326.State,V.ref [7000,114,31,7] 0 (rws (fun n=>[I n]) v368).length,I a343.Base,I a343.Cap,I v369]),([7000,114,31,7],Obj.rows 1 (rws (fun n=>[I n]) v368) false)],[(Tryz.f127.ntmps,[(7,V.ptr [7] 0 0),(9,V.ptr [31] 0 0)])],[40]⟩) ?_ (fun HJ13429=>?_)
        ·rintro ⟨v368,v369⟩ h
         dsimp only at h
         rw [ring_Step_j122] at h
         refine .go 0 ?_
         refine oNil ?_
         refine DAny.nil (by kernel_rfl) ?_
         refine .go 0 ?_
         exact .got (HJ13418 (IntKind.i64.wrap (a326.B - 1),v368,v369) h) covA
        ·refine .inl Tryz.func172 Tryz.call172 6 ?_
         refine bindG h ?_
         rintro ⟨x370,x371⟩ he13432 h
         refine .cS (cell_Store_sc ([]++a335) (pring_actor_bottom (ring_actor.mk (api_Hand.mk a326.Kind a326.Pc a326.V a326.T (IntKind.i64.wrap (a326.B - 1)) a326.Won a326.State) ([]++a335) a343 v373)) (IntKind.i64.wrap (a326.B - 1)) _ he13432) ?_
         refine .go 8 ?_
         refine .joinR 1 (fun(v372:Int)=>ring_Step_j123 a335 a326 x370 x371 v372=some r) (fun(v372:Int)=>⟨Tryz.f172.ntmps,[(0,V.ptr [31] 0 0),(6,V.ref [40,27,15,0] 0 (rws (fun n=>[I n]) x370).length),(21,V.bool (x371==0))],[([7],Obj.box [I 0,I 0,I 0,I 0,I 0,V.bool false,I 0]),([28],Obj.rows 1 (rws (fun n=>[I n]) ([]++a335)) false),([31],Obj.box [I a326.Kind,I a326.Pc,I a326.V,I a326.T,I (IntKind.i64.wrap (a326.B - 1)),V.bool a326.Won,I a326.State,V.ref [28] 0 (rws (fun n=>[I n]) ([]++a335)).length,I a343.Base,I a343.Cap,I v372]),([40,27,15,0],Obj.rows 1 (rws (fun n=>[I n]) x370) false)],[(Tryz.f157.ntmps,[(0,V.ptr [31] 0 0)]),(Tryz.f127.ntmps,[(7,V.ptr [7] 0 0),(9,V.ptr [31] 0 0)])],[40,27]⟩) ?_ (fun HJ13435=>?_)
         ·intro v372 h
          rw [ring_Step_j123] at h
          refine .go 0 ?_
          refine .ifC h (fun hc13436 h=>?_) (fun hc13436 h=>?_)
          ·refine .goN 6 ?_
           exact .got (HJ13429 (x370,v372) h) (.ren [40,27,15,0] [7000,114,31,7] covA)
          ·refine .goN 1 ?_
           exact .got (HJ13429 ([]++a335,v372) h) (.ren [28] [7000,114,31,7] covA)
         ·refine .inl Tryz.func171 Tryz.call171 3 ?_
          refine .ifC h (fun hc13437 h=>?_) (fun hc13437 h=>?_)
          ·refine .goN 7 ?_
           exact .got (HJ13435 (9) h) covA
          ·refine .goN 3 ?_
           exact .got (HJ13435 (v373) h) covA
       ·refine .go 0 ?_
        exact .got (HJ13418 (a326.B,[]++a335,v373) h) (.ren [28] [7000,114,31,7] covA)
     ·refine .inl Tryz.func171 Tryz.call171 3 ?_
      refine .ifC h (fun hc13438 h=>?_) (fun hc13438 h=>?_)
      ·refine .goN 7 ?_
       exact .got (HJ13404 (9) h) covA
      ·refine .goN 3 ?_
       exact .got (HJ13404 (0) h) covA
    refine ifP_G h (fun hq13439 h=>?_) (fun _ h=>?_)
    ·refine .see 38 (u:=V.fn 158 []) rfl (up_fn hq13439) ?_
     refine .inl Tryz.func158 Tryz.call158 3 ?_
     refine .cS (pring_actor_top_sc (ring_actor.mk a326 ([]++a335) a343 0) _ rfl) ?_
     refine .inl Tryz.func167 Tryz.call167 3 ?_
     refine .inl Tryz.func174 Tryz.call174 6 ?_
     refine bindG h ?_
     rintro ⟨x374,x440⟩ he13464 h
     refine .cS (cell_Load_sc ([]++a335) (pring_actor_top (ring_actor.mk a326 ([]++a335) a343 0)) _ he13464) ?_
     refine .go 8 ?_
     refine .joinR 1 (fun(v376:Int)=>ring_Step_j128 a335 a326 x374 v376=some r) (fun(v376:Int)=>⟨Tryz.f174.ntmps,[(5,I x374)],[([7],Obj.box [I 0,I 0,I 0,I 0,I 0,V.bool false,I 0]),([28],Obj.rows 1 (rws (fun n=>[I n]) ([]++a335)) false),([31],Obj.box [I a326.Kind,I a326.Pc,I a326.V,I a326.T,I a326.B,V.bool a326.Won,I a326.State,V.ref [28] 0 (rws (fun n=>[I n]) ([]++a335)).length,I a343.Base,I a343.Cap,I v376])],[(Tryz.f167.ntmps,[(0,V.ptr [31] 0 0),(2,I 0)]),(Tryz.f158.ntmps,[(0,V.ptr [31] 0 0),(2,V.ptr [31] 0 0)]),(Tryz.f127.ntmps,[(7,V.ptr [7] 0 0),(9,V.ptr [31] 0 0)])],[40,6,10]⟩) ?_ (fun HJ13467=>?_)
     ·intro v376 h
      rw [ring_Step_j128] at h
      refine .go 9 ?_
      refine .bjA 3 18 15 ?_
      refine .joinR 1 (fun(v375:Int)=>ring_Step_j129 a335 a326 x374 v375=some r) (fun(v375:Int)=>⟨Tryz.f167.ntmps,[(7,I x374)],[([7],Obj.box [I 0,I 0,I 0,I 0,I 0,V.bool false,I 0]),([28],Obj.rows 1 (rws (fun n=>[I n]) ([]++a335)) false),([31],Obj.box [I a326.Kind,I a326.Pc,I a326.V,I a326.T,I a326.B,V.bool a326.Won,I a326.State,V.ref [28] 0 (rws (fun n=>[I n]) ([]++a335)).length,I a343.Base,I a343.Cap,I v375])],[(Tryz.f158.ntmps,[(0,V.ptr [31] 0 0),(2,V.ptr [31] 0 0)]),(Tryz.f127.ntmps,[(7,V.ptr [7] 0 0),(9,V.ptr [31] 0 0)])],[40,6]⟩) ?_ (fun HJ13471=>?_)
      ·intro v375 h
       rw [ring_Step_j129] at h
       refine .go 12 ?_
       refine Safe.regionD (n:=11) [] [] E_good mixed rfl ?_
       refine rA 0 (up 0 11) ?_
       refine DAny.nil (by kernel_rfl) ?_
       refine .go 0 ?_
       refine .ifC h (fun hc13472 h=>?_) (fun hc13472 h=>?_)
       ·refine .goN 6 ?_
        exact .got (HJ13211 (3,a326.V,x374,a326.B,a326.Won,a326.State,[]++a335,v375) h) (.ren [28] [7000,114,31,7] covA)
       ·refine .goN 1 ?_
        exact .got (HJ13211 (4,a326.V,x374,a326.B,a326.Won,a326.State,[]++a335,v375) h) (.ren [28] [7000,114,31,7] covA)
      ·refine .inl Tryz.func171 Tryz.call171 3 ?_
       refine .ifC h (fun hc13473 h=>?_) (fun hc13473 h=>?_)
       ·refine .goN 7 ?_
        exact .got (HJ13471 (9) h) covA
       ·refine .goN 3 ?_
        exact .got (HJ13471 (v376) h) covA
     ·refine .inl Tryz.func171 Tryz.call171 3 ?_
      refine .ifC h (fun hc13474 h=>?_) (fun hc13474 h=>?_)
      ·refine .goN 7 ?_
       exact .got (HJ13467 (9) h) covA
      ·refine .goN 3 ?_
       exact .got (HJ13467 (0) h) covA
    refine ifP_G h (fun hq13475 h=>?_) (fun _ h=>?_)
    ·refine .see 38 (u:=V.fn 159 []) rfl (up_fn hq13475) ?_
     refine .inl Tryz.func159 Tryz.call159 7 ?_
     refine .joinR 1 (fun(v384:Int)=>ring_Step_j130 a335 a343 a326 v384=some r) (fun(v384:Int)=>⟨Tryz.f159.ntmps,[(0,V.ptr [31] 0 0),(9,V.bool (decide (a326.T≥0)))],[([7],Obj.box [I 0,I 0,I 0,I 0,I 0,V.bool false,I 0]),([28],Obj.rows 1 (rws (fun n=>[I n]) ([]++a335)) false),([31],Obj.box [I a326.Kind,I a326.Pc,I a326.V,I a326.T,I a326.B,V.bool a326.Won,I a326.State,V.ref [28] 0 (rws (fun n=>[I n]) ([]++a335)).length,I a343.Base,I a343.Cap,I v384])],[(Tryz.f127.ntmps,[(7,V.ptr [7] 0 0),(9,V.ptr [31] 0 0)])],[40]⟩) ?_ (fun HJ13478=>?_)
     ·intro v384 h
      rw [ring_Step_j130] at h
      refine .go 0 ?_
      refine .joinS (fun((v377,v378):(List Int)×Int)=>ring_Step_j133 a326 v377 v378=some r) (fun((v377,v378):(List Int)×Int)=>⟨Tryz.f159.ntmps,[(0,V.ptr [31] 0 0)],[([7],Obj.box [I 0,I 0,I 0,I 0,I 0,V.bool false,I 0]),([31],Obj.box [I a326.Kind,I a326.Pc,I a326.V,I a326.T,I a326.B,V.bool a326.Won,I a326.State,V.ref [7000,114,31,7] 0 (rws (fun n=>[I n]) v377).length,I a343.Base,I a343.Cap,I v378]),([7000,114,31,7],Obj.rows 1 (rws (fun n=>[I n]) v377) false)],[(Tryz.f127.ntmps,[(7,V.ptr [7] 0 0),(9,V.ptr [31] 0 0)])],[40]⟩) ?_ (fun HJ13491=>?_)
      ·rintro ⟨v377,v378⟩ h
       dsimp only at h
       rw [ring_Step_j133] at h
       refine .goN 6 ?_
       exact .got (HJ13211 (a326.Pc,a326.V,a326.T,a326.B,a326.Won,2,v377,v378) h) covA
      ·refine .ifC h (fun hc13492 h=>?_) (fun hc13492 h=>?_)
       ·refine .go 0 ?_
        refine Safe.regionD (n:=9) [] [8] E_good mixed rfl ?_
        refine rA 7 [0,1] ?_
        refine DT 2 [] rfl rfl (v:=I (pring_actor_bottom (ring_actor.mk a326 ([]++a335) a343 v384))) (fun _ hz=>(.callS rfl (.cons (.box (hz _ _ rfl rfl) (.cons (.free rfl) (.cons (.free rfl) (.cons (.free rfl) (.cons (.free rfl) (.cons (.free rfl) (.cons (.free rfl) (.cons (.free rfl) (.cons (.full (hz _ _ rfl rfl) rfl) (.cons (.free rfl) (.cons (.free rfl) (.cons (.free rfl) .nil)))))))))))) .nil) (pring_actor_bottom_sc (ring_actor.mk a326 ([]++a335) a343 v384) _ rfl) (.plain rfl) rfl)) ?_
        refine rA 1 (up 3 5) ?_
        refine DAny.onlyS (i:=8) rfl (by kernel_rfl) rfl ?_
        refine .go0 0 ?_
        refine .joinR 1 (fun((v379,v380):(List Int)×Int)=>ring_Step_j135 a326 v379 v380=some r) (fun((v379,v380):(List Int)×Int)=>⟨Tryz.f159.ntmps,[(0,V.ptr [31] 0 0)],[([7],Obj.box [I 0,I 0,I 0,I 0,I 0,V.bool false,I 0]),([31],Obj.box [I a326.Kind,I a326.Pc,I a326.V,I a326.T,I a326.B,V.bool a326.Won,I a326.State,V.ref [7000,114,31,7] 0 (rws (fun n=>[I n]) v379).length,I a343.Base,I a343.Cap,I v380]),([7000,114,31,7],Obj.rows 1 (rws (fun n=>[I n]) v379) false)],[(Tryz.f127.ntmps,[(7,V.ptr [7] 0 0),(9,V.ptr [31] 0 0)])],[40]⟩) ?_ (fun HJ13502=>?_)
        ·rintro ⟨v379,v380⟩ h
         dsimp only at h
         rw [ring_Step_j135] at h
         refine .go 0 ?_
         refine oNil ?_
         refine DAny.nil (by kernel_rfl) ?_
         refine .go 0 ?_
         exact .got (HJ13491 (v379,v380) h) covA
        ·refine .inl Tryz.func172 Tryz.call172 6 ?_
         refine bindG h ?_
         rintro ⟨x381,x382⟩ he13505 h
         refine .cS (cell_Store_sc ([]++a335) (pring_actor_bottom (ring_actor.mk a326 ([]++a335) a343 v384)) a326.T _ he13505) ?_
         refine .go 8 ?_
         refine .joinR 1 (fun(v383:Int)=>ring_Step_j136 a335 a326 x381 x382 v383=some r) (fun(v383:Int)=>⟨Tryz.f172.ntmps,[(0,V.ptr [31] 0 0),(6,V.ref [40,18,15,0] 0 (rws (fun n=>[I n]) x381).length),(21,V.bool (x382==0))],[([7],Obj.box [I 0,I 0,I 0,I 0,I 0,V.bool false,I 0]),([28],Obj.rows 1 (rws (fun n=>[I n]) ([]++a335)) false),([31],Obj.box [I a326.Kind,I a326.Pc,I a326.V,I a326.T,I a326.B,V.bool a326.Won,I a326.State,V.ref [28] 0 (rws (fun n=>[I n]) ([]++a335)).length,I a343.Base,I a343.Cap,I v383]),([40,18,15,0],Obj.rows 1 (rws (fun n=>[I n]) x381) false)],[(Tryz.f159.ntmps,[(0,V.ptr [31] 0 0)]),(Tryz.f127.ntmps,[(7,V.ptr [7] 0 0),(9,V.ptr [31] 0 0)])],[40,18]⟩) ?_ (fun HJ13508=>?_)
         ·intro v383 h
          rw [ring_Step_j136] at h
          refine .go 0 ?_
          refine .ifC h (fun hc13509 h=>?_) (fun hc13509 h=>?_)
          ·refine .goN 6 ?_
           exact .got (HJ13502 (x381,v383) h) (.ren [40,18,15,0] [7000,114,31,7] covA)
          ·refine .goN 1 ?_
           exact .got (HJ13502 ([]++a335,v383) h) (.ren [28] [7000,114,31,7] covA)
         ·refine .inl Tryz.func171 Tryz.call171 3 ?_
          refine .ifC h (fun hc13510 h=>?_) (fun hc13510 h=>?_)
          ·refine .goN 7 ?_
           exact .got (HJ13508 (9) h) covA
          ·refine .goN 3 ?_
           exact .got (HJ13508 (v384) h) covA
       ·refine .go 0 ?_
        exact .got (HJ13491 ([]++a335,v384) h) (.ren [28] [7000,114,31,7] covA)
     ·refine .inl Tryz.func171 Tryz.call171 3 ?_
      refine .ifC h (fun hc13511 h=>?_) (fun hc13511 h=>?_)
      ·refine .goN 7 ?_
       exact .got (HJ13478 (9) h) covA
      ·refine .goN 3 ?_
       exact .got (HJ13478 (0) h) covA
    refine ifP_G h (fun hq13512 h=>?_) (fun _ h=>?_)
    ·refine .see 38 (u:=V.fn 160 []) rfl (up_fn hq13512) ?_
     refine .inl Tryz.func160 Tryz.call160 7 ?_
     refine .joinR 1 (fun(v391:Int)=>ring_Step_j137 a335 a343 a326 v391=some r) (fun(v391:Int)=>⟨Tryz.f160.ntmps,[(0,V.ptr [31] 0 0),(9,V.bool (decide (a326.B≥0)))],[([7],Obj.box [I 0,I 0,I 0,I 0,I 0,V.bool false,I 0]),([28],Obj.rows 1 (rws (fun n=>[I n]) ([]++a335)) false),([31],Obj.box [I a326.Kind,I a326.Pc,I a326.V,I a326.T,I a326.B,V.bool a326.Won,I a326.State,V.ref [28] 0 (rws (fun n=>[I n]) ([]++a335)).length,I a343.Base,I a343.Cap,I v391])],[(Tryz.f127.ntmps,[(7,V.ptr [7] 0 0),(9,V.ptr [31] 0 0)])],[40]⟩) ?_ (fun HJ13515=>?_)
     ·intro v391 h
      rw [ring_Step_j137] at h
      refine .go 0 ?_
      refine .joinS (fun((v385,v386):Int×Int)=>ring_Step_j140 a335 a326 v385 v386=some r) (fun((v385,v386):Int×Int)=>⟨Tryz.f160.ntmps,[(0,V.ptr [31] 0 0)],[([7],Obj.box [I 0,I 0,I 0,I 0,I 0,V.bool false,I 0]),([28],Obj.rows 1 (rws (fun n=>[I n]) ([]++a335)) false),([31],Obj.box [I a326.Kind,I a326.Pc,I v385,I a326.T,I a326.B,V.bool a326.Won,I a326.State,V.ref [28] 0 (rws (fun n=>[I n]) ([]++a335)).length,I a343.Base,I a343.Cap,I v386])],[(Tryz.f127.ntmps,[(7,V.ptr [7] 0 0),(9,V.ptr [31] 0 0)])],[40]⟩) ?_ (fun HJ13532=>?_)
      ·rintro ⟨v385,v386⟩ h
       dsimp only at h
       rw [ring_Step_j140] at h
       refine .go 0 ?_
       refine Safe.regionD (n:=13) [] [12] E_good mixed rfl ?_
       refine rA 1 (up 0 12) ?_
       refine DAny.onlyS (i:=12) rfl (by kernel_rfl) rfl ?_
       refine .go0 0 ?_
       refine .joinR 1 (fun((v387,v388):Int×Int)=>ring_Step_j141 a335 a326 v385 v386 v387 v388=some r) (fun((v387,v388):Int×Int)=>⟨Tryz.f160.ntmps,[],[([7],Obj.box [I 0,I 0,I 0,I 0,I 0,V.bool false,I 0]),([28],Obj.rows 1 (rws (fun n=>[I n]) ([]++a335)) false),([31],Obj.box [I a326.Kind,I v387,I v385,I a326.T,I a326.B,V.bool a326.Won,I v388,V.ref [28] 0 (rws (fun n=>[I n]) ([]++a335)).length,I a343.Base,I a343.Cap,I v386])],[(Tryz.f127.ntmps,[(7,V.ptr [7] 0 0),(9,V.ptr [31] 0 0)])],[40]⟩) ?_ (fun HJ13536=>?_)
       ·rintro ⟨v387,v388⟩ h
        dsimp only at h
        rw [ring_Step_j141] at h
        refine .go 0 ?_
        refine oNil ?_
        refine DAny.nil (by kernel_rfl) ?_
        refine .goN 1 ?_
        exact .got (HJ13211 (v387,v385,a326.T,a326.B,a326.Won,v388,[]++a335,v386) h) (.ren [28] [7000,114,31,7] covA)
       ·refine .inl Tryz.func170 Tryz.call170 1 ?_
        refine .ifC h (fun hc13537 h=>?_) (fun hc13537 h=>?_)
        ·refine .goN 7 ?_
         exact .got (HJ13536 (a326.Pc,1) h) covA
        ·refine .goN 7 ?_
         exact .got (HJ13536 (5,a326.State) h) covA
      ·refine .ifC h (fun hc13538 h=>?_) (fun hc13538 h=>?_)
       ·refine .go 8 ?_
        refine bindG h ?_
        intro x392 he13540 h
        refine .cS (pring_actor_slot_sc (ring_actor.mk a326 ([]++a335) a343 v391) a326.B _ he13540) ?_
        refine .inl Tryz.func174 Tryz.call174 6 ?_
        refine bindG h ?_
        rintro ⟨x389,x393⟩ he13549 h
        refine .cS (cell_Load_sc ([]++a335) x392 _ he13549) ?_
        refine .go 8 ?_
        refine .joinR 1 (fun(v390:Int)=>ring_Step_j143 a335 a326 x389 v390=some r) (fun(v390:Int)=>⟨Tryz.f174.ntmps,[(5,I x389)],[([7],Obj.box [I 0,I 0,I 0,I 0,I 0,V.bool false,I 0]),([28],Obj.rows 1 (rws (fun n=>[I n]) ([]++a335)) false),([31],Obj.box [I a326.Kind,I a326.Pc,I a326.V,I a326.T,I a326.B,V.bool a326.Won,I a326.State,V.ref [28] 0 (rws (fun n=>[I n]) ([]++a335)).length,I a343.Base,I a343.Cap,I v390])],[(Tryz.f160.ntmps,[(0,V.ptr [31] 0 0),(10,V.ptr [31] 0 0)]),(Tryz.f127.ntmps,[(7,V.ptr [7] 0 0),(9,V.ptr [31] 0 0)])],[40,19]⟩) ?_ (fun HJ13552=>?_)
        ·intro v390 h
         rw [ring_Step_j143] at h
         refine .go 7 ?_
         exact .got (HJ13532 (x389,v390) h) covA
        ·refine .inl Tryz.func171 Tryz.call171 3 ?_
         refine .ifC h (fun hc13553 h=>?_) (fun hc13553 h=>?_)
         ·refine .goN 7 ?_
          exact .got (HJ13552 (9) h) covA
         ·refine .goN 3 ?_
          exact .got (HJ13552 (v391) h) covA
       ·refine .go 0 ?_
        exact .got (HJ13532 (a326.V,v391) h) covA
     ·refine .inl Tryz.func171 Tryz.call171 3 ?_
      refine .ifC h (fun hc13554 h=>?_) (fun hc13554 h=>?_)
      ·refine .goN 7 ?_
       exact .got (HJ13515 (9) h) covA
      ·refine .goN 3 ?_
       exact .got (HJ13515 (0) h) covA
    refine ifP_G h (fun hq13555 h=>?_) (fun _ h=>?_)
    ·refine .see 38 (u:=V.fn 161 []) rfl (up_fn hq13555) ?_
     refine .inl Tryz.func161 Tryz.call161 8 ?_
     refine .joinR 1 (fun(v404:Int)=>ring_Step_j144 a335 a343 a326 v404=some r) (fun(v404:Int)=>⟨Tryz.f161.ntmps,[(0,V.ptr [31] 0 0),(2,V.ptr [31] 0 0),(10,V.bool (decide (a326.T≥0)))],[([7],Obj.box [I 0,I 0,I 0,I 0,I 0,V.bool false,I 0]),([28],Obj.rows 1 (rws (fun n=>[I n]) ([]++a335)) false),([31],Obj.box [I a326.Kind,I a326.Pc,I a326.V,I a326.T,I a326.B,V.bool a326.Won,I a326.State,V.ref [28] 0 (rws (fun n=>[I n]) ([]++a335)).length,I a343.Base,I a343.Cap,I v404])],[(Tryz.f127.ntmps,[(7,V.ptr [7] 0 0),(9,V.ptr [31] 0 0)])],[40]⟩) ?_ (fun HJ13558=>?_)
     ·intro v404 h
      rw [ring_Step_j144] at h
      refine .go 1 ?_
      refine .joinR 3 (fun((v394,v395,v396):Bool×(List Int)×Int)=>ring_Step_j147 a326 v394 v395 v396=some r) (fun((v394,v395,v396):Bool×(List Int)×Int)=>⟨Tryz.f161.ntmps,[(0,V.ptr [31] 0 0),(2,V.ptr [31] 0 0),(14,V.bool v394)],[([7],Obj.box [I 0,I 0,I 0,I 0,I 0,V.bool false,I 0]),([31],Obj.box [I a326.Kind,I a326.Pc,I a326.V,I a326.T,I a326.B,V.bool a326.Won,I a326.State,V.ref [7000,114,31,7] 0 (rws (fun n=>[I n]) v395).length,I a343.Base,I a343.Cap,I v396]),([7000,114,31,7],Obj.rows 1 (rws (fun n=>[I n]) v395) false)],[(Tryz.f127.ntmps,[(7,V.ptr [7] 0 0),(9,V.ptr [31] 0 0)])],[40]⟩) ?_ (fun HJ13610=>?_)
      ·rintro ⟨v394,v395,v396⟩ h
       dsimp only at h
       rw [ring_Step_j147] at h
       refine .goN 15 ?_
       exact .got (HJ13211 (IntKind.i64.wrap (a326.Pc+1),a326.V,a326.T,a326.B,v394,a326.State,v395,v396) h) covA
      ·refine SafeOps.ifD 11 h rfl (fun hc13559 h=>?_) (fun hc13559 h=>?_)
       ·refine .go 1 ?_
        refine .joinR 1 (fun((v397,v398,v399):Bool×(List Int)×Int)=>ring_Step_j149 a326 v397 v398 v399=some r) (fun((v397,v398,v399):Bool×(List Int)×Int)=>⟨Tryz.f161.ntmps,[(0,V.ptr [31] 0 0),(2,V.ptr [31] 0 0),(11,V.bool true),(13,V.bool v397)],[([7],Obj.box [I 0,I 0,I 0,I 0,I 0,V.bool false,I 0]),([31],Obj.box [I a326.Kind,I a326.Pc,I a326.V,I a326.T,I a326.B,V.bool a326.Won,I a326.State,V.ref [7000,114,31,7] 0 (rws (fun n=>[I n]) v398).length,I a343.Base,I a343.Cap,I v399]),([7000,114,31,7],Obj.rows 1 (rws (fun n=>[I n]) v398) false)],[(Tryz.f127.ntmps,[(7,V.ptr [7] 0 0),(9,V.ptr [31] 0 0)])],[40]⟩) ?_ (fun HJ13622=>?_)
        ·rintro ⟨v397,v398,v399⟩ h
         dsimp only at h
         rw [ring_Step_j149] at h
         refine .goN 1 ?_
         exact .got (HJ13610 (v397,v398,v399) h) covA
        ·refine .inl Tryz.func175 Tryz.call175 1 ?_
         refine Safe.regionD (n:=25) [] [] E_good mixed rfl ?_
         refine rA 20 (up 0 5) ?_
         refine DT 5 [] rfl rfl (v:=I (pring_actor_top (ring_actor.mk a326 ([]++a335) a343 v404))) (fun _ hz=>(.callS rfl (.cons (.box (hz _ _ rfl rfl) (.cons (.free rfl) (.cons (.free rfl) (.cons (.free rfl) (.cons (.free rfl) (.cons (.free rfl) (.cons (.free rfl) (.cons (.free rfl) (.cons (.full (hz _ _ rfl rfl) rfl) (.cons (.free rfl) (.cons (.free rfl) (.cons (.free rfl) .nil)))))))))))) .nil) (pring_actor_top_sc (ring_actor.mk a326 ([]++a335) a343 v404) _ rfl) (.plain rfl) rfl)) ?_
         refine rA 8 (up 6 11) ?_
         refine bindG h ?_
         rintro ⟨x400,x401,x402⟩ he13626 h
         refine DAny.only (i:=17) rfl (by kernel_rfl) (.quiet rfl rfl rfl (v:=V.tup [V.ref [40,13,24,0] 0 (rws (fun n=>[I n]) x400).length,V.bool x401,I x402]) (.callS rfl (.cons (.full rfl rfl) (.cons (.free rfl) (.cons (.free rfl) (.cons (.free rfl) .nil)))) (cell_Cas_sc ([]++a335) (pring_actor_top (ring_actor.mk a326 ([]++a335) a343 v404)) a326.T (IntKind.i64.wrap (a326.T+1)) _ he13626) (.tupL (.cons (.ownM (fun _=>rfl)) (.cons (.plain rfl) (.cons (.plain rfl) .nil)))) rfl) rfl ?_)
         refine rA 0 (up 18 7) ?_
         refine DAny.nil (by kernel_rfl) ?_
         refine .go 3 ?_
         refine .joinR 1 (fun(v403:Int)=>ring_Step_j150 a335 a326 x400 x401 x402 v403=some r) (fun(v403:Int)=>⟨Tryz.f175.ntmps,[(0,V.ptr [31] 0 0),(3,V.ref [40,13,24,0] 0 (rws (fun n=>[I n]) x400).length),(4,V.bool x401),(31,V.bool (x402==0))],[([7],Obj.box [I 0,I 0,I 0,I 0,I 0,V.bool false,I 0]),([28],Obj.rows 1 (rws (fun n=>[I n]) ([]++a335)) false),([31],Obj.box [I a326.Kind,I a326.Pc,I a326.V,I a326.T,I a326.B,V.bool a326.Won,I a326.State,V.ref [28] 0 (rws (fun n=>[I n]) ([]++a335)).length,I a343.Base,I a343.Cap,I v403]),([40,13,24,0],Obj.rows 1 (rws (fun n=>[I n]) x400) false)],[(Tryz.f161.ntmps,[(0,V.ptr [31] 0 0),(2,V.ptr [31] 0 0),(11,V.bool true)]),(Tryz.f127.ntmps,[(7,V.ptr [7] 0 0),(9,V.ptr [31] 0 0)])],[40,13]⟩) ?_ (fun HJ13629=>?_)
         ·intro v403 h
          rw [ring_Step_j150] at h
          refine .go 0 ?_
          refine .ifC h (fun hc13630 h=>?_) (fun hc13630 h=>?_)
          ·refine .goN 8 ?_
           exact .got (HJ13622 (x401,x400,v403) h) (.ren [40,13,24,0] [7000,114,31,7] covA)
          ·refine .goN 3 ?_
           exact .got (HJ13622 (x401,[]++a335,v403) h) (.ren [28] [7000,114,31,7] covA)
         ·refine .inl Tryz.func171 Tryz.call171 3 ?_
          refine .ifC h (fun hc13631 h=>?_) (fun hc13631 h=>?_)
          ·refine .goN 7 ?_
           exact .got (HJ13629 (9) h) covA
          ·refine .goN 3 ?_
           exact .got (HJ13629 (v404) h) covA
       ·refine .goN 3 ?_
        exact .got (HJ13610 (false,[]++a335,v404) h) (.ren [28] [7000,114,31,7] covA)
     ·refine .inl Tryz.func171 Tryz.call171 3 ?_
      refine .ifC h (fun hc13632 h=>?_) (fun hc13632 h=>?_)
      ·refine .goN 7 ?_
       exact .got (HJ13558 (9) h) covA
      ·refine .goN 3 ?_
       exact .got (HJ13558 (0) h) covA
    refine ifP_G h (fun hq13633 h=>?_) (fun _ h=>?_)
    ·refine .see 38 (u:=V.fn 162 []) rfl (up_fn hq13633) ?_
     refine .inl Tryz.func162 Tryz.call162 7 ?_
     refine .joinR 1 (fun(v412:Int)=>ring_Step_j151 a335 a343 a326 v412=some r) (fun(v412:Int)=>⟨Tryz.f162.ntmps,[(0,V.ptr [31] 0 0),(9,V.bool (decide (a326.T≥0)))],[([7],Obj.box [I 0,I 0,I 0,I 0,I 0,V.bool false,I 0]),([28],Obj.rows 1 (rws (fun n=>[I n]) ([]++a335)) false),([31],Obj.box [I a326.Kind,I a326.Pc,I a326.V,I a326.T,I a326.B,V.bool a326.Won,I a326.State,V.ref [28] 0 (rws (fun n=>[I n]) ([]++a335)).length,I a343.Base,I a343.Cap,I v412])],[(Tryz.f127.ntmps,[(7,V.ptr [7] 0 0),(9,V.ptr [31] 0 0)])],[40]⟩) ?_ (fun HJ13636=>?_)
     ·intro v412 h
      rw [ring_Step_j151] at h
      refine .go 0 ?_
      refine .joinS (fun((v405,v406):(List Int)×Int)=>ring_Step_j154 a326 v405 v406=some r) (fun((v405,v406):(List Int)×Int)=>⟨Tryz.f162.ntmps,[(0,V.ptr [31] 0 0)],[([7],Obj.box [I 0,I 0,I 0,I 0,I 0,V.bool false,I 0]),([31],Obj.box [I a326.Kind,I a326.Pc,I a326.V,I a326.T,I a326.B,V.bool a326.Won,I a326.State,V.ref [7000,114,31,7] 0 (rws (fun n=>[I n]) v405).length,I a343.Base,I a343.Cap,I v406]),([7000,114,31,7],Obj.rows 1 (rws (fun n=>[I n]) v405) false)],[(Tryz.f127.ntmps,[(7,V.ptr [7] 0 0),(9,V.ptr [31] 0 0)])],[40]⟩) ?_ (fun HJ13649=>?_)
      ·rintro ⟨v405,v406⟩ h
       dsimp only at h
       rw [ring_Step_j154] at h
       refine .go 10 ?_
       refine .ifC h (fun hc13650 h=>?_) (fun hc13650 h=>?_)
       ·refine .goN 6 ?_
        exact .got (HJ13211 (a326.Pc,a326.V,a326.T,a326.B,a326.Won,1,v405,v406) h) covA
       ·refine .goN 1 ?_
        exact .got (HJ13211 (a326.Pc,a326.V,a326.T,a326.B,a326.Won,2,v405,v406) h) covA
      ·refine .ifC h (fun hc13651 h=>?_) (fun hc13651 h=>?_)
       ·refine .go 0 ?_
        refine Safe.regionD (n:=10) [] [9] E_good mixed rfl ?_
        refine rA 8 [0,1] ?_
        refine DT 2 [] rfl rfl (v:=I (pring_actor_bottom (ring_actor.mk a326 ([]++a335) a343 v412))) (fun _ hz=>(.callS rfl (.cons (.box (hz _ _ rfl rfl) (.cons (.free rfl) (.cons (.free rfl) (.cons (.free rfl) (.cons (.free rfl) (.cons (.free rfl) (.cons (.free rfl) (.cons (.free rfl) (.cons (.full (hz _ _ rfl rfl) rfl) (.cons (.free rfl) (.cons (.free rfl) (.cons (.free rfl) .nil)))))))))))) .nil) (pring_actor_bottom_sc (ring_actor.mk a326 ([]++a335) a343 v412) _ rfl) (.plain rfl) rfl)) ?_
        refine rA 1 (up 3 6) ?_
        refine DAny.onlyS (i:=9) rfl (by kernel_rfl) rfl ?_
        refine .go0 0 ?_
        refine .joinR 1 (fun((v407,v408):(List Int)×Int)=>ring_Step_j156 a326 v407 v408=some r) (fun((v407,v408):(List Int)×Int)=>⟨Tryz.f162.ntmps,[(0,V.ptr [31] 0 0)],[([7],Obj.box [I 0,I 0,I 0,I 0,I 0,V.bool false,I 0]),([31],Obj.box [I a326.Kind,I a326.Pc,I a326.V,I a326.T,I a326.B,V.bool a326.Won,I a326.State,V.ref [7000,114,31,7] 0 (rws (fun n=>[I n]) v407).length,I a343.Base,I a343.Cap,I v408]),([7000,114,31,7],Obj.rows 1 (rws (fun n=>[I n]) v407) false)],[(Tryz.f127.ntmps,[(7,V.ptr [7] 0 0),(9,V.ptr [31] 0 0)])],[40]⟩) ?_ (fun HJ13661=>?_)
        ·rintro ⟨v407,v408⟩ h
         dsimp only at h
         rw [ring_Step_j156] at h
         refine .go 0 ?_
         refine oNil ?_
         refine DAny.nil (by kernel_rfl) ?_
         refine .go 0 ?_
         exact .got (HJ13649 (v407,v408) h) covA
        ·refine .inl Tryz.func172 Tryz.call172 6 ?_
         refine bindG h ?_
         rintro ⟨x409,x410⟩ he13664 h
         refine .cS (cell_Store_sc ([]++a335) (pring_actor_bottom (ring_actor.mk a326 ([]++a335) a343 v412)) (IntKind.i64.wrap (a326.T+1)) _ he13664) ?_
         refine .go 8 ?_
         refine .joinR 1 (fun(v411:Int)=>ring_Step_j157 a335 a326 x409 x410 v411=some r) (fun(v411:Int)=>⟨Tryz.f172.ntmps,[(0,V.ptr [31] 0 0),(6,V.ref [40,19,15,0] 0 (rws (fun n=>[I n]) x409).length),(21,V.bool (x410==0))],[([7],Obj.box [I 0,I 0,I 0,I 0,I 0,V.bool false,I 0]),([28],Obj.rows 1 (rws (fun n=>[I n]) ([]++a335)) false),([31],Obj.box [I a326.Kind,I a326.Pc,I a326.V,I a326.T,I a326.B,V.bool a326.Won,I a326.State,V.ref [28] 0 (rws (fun n=>[I n]) ([]++a335)).length,I a343.Base,I a343.Cap,I v411]),([40,19,15,0],Obj.rows 1 (rws (fun n=>[I n]) x409) false)],[(Tryz.f162.ntmps,[(0,V.ptr [31] 0 0)]),(Tryz.f127.ntmps,[(7,V.ptr [7] 0 0),(9,V.ptr [31] 0 0)])],[40,19]⟩) ?_ (fun HJ13667=>?_)
         ·intro v411 h
          rw [ring_Step_j157] at h
          refine .go 0 ?_
          refine .ifC h (fun hc13668 h=>?_) (fun hc13668 h=>?_)
          ·refine .goN 6 ?_
           exact .got (HJ13661 (x409,v411) h) (.ren [40,19,15,0] [7000,114,31,7] covA)
          ·refine .goN 1 ?_
           exact .got (HJ13661 ([]++a335,v411) h) (.ren [28] [7000,114,31,7] covA)
         ·refine .inl Tryz.func171 Tryz.call171 3 ?_
          refine .ifC h (fun hc13669 h=>?_) (fun hc13669 h=>?_)
          ·refine .goN 7 ?_
           exact .got (HJ13667 (9) h) covA
          ·refine .goN 3 ?_
           exact .got (HJ13667 (v412) h) covA
       ·refine .go 0 ?_
        exact .got (HJ13649 ([]++a335,v412) h) (.ren [28] [7000,114,31,7] covA)
     ·refine .inl Tryz.func171 Tryz.call171 3 ?_
      refine .ifC h (fun hc13670 h=>?_) (fun hc13670 h=>?_)
      ·refine .goN 7 ?_
       exact .got (HJ13636 (9) h) covA
      ·refine .goN 3 ?_
       exact .got (HJ13636 (0) h) covA
    refine ifP_G h (fun hq13671 h=>?_) (fun _ h=>?_)
    ·refine .see 38 (u:=V.fn 163 []) rfl (up_fn hq13671) ?_
     refine .inl Tryz.func163 Tryz.call163 3 ?_
     refine .cS (pring_actor_bottom_sc (ring_actor.mk a326 ([]++a335) a343 0) _ rfl) ?_
     refine .inl Tryz.func167 Tryz.call167 3 ?_
     refine .inl Tryz.func174 Tryz.call174 6 ?_
     refine bindG h ?_
     rintro ⟨x413,x441⟩ he13696 h
     refine .cS (cell_Load_sc ([]++a335) (pring_actor_bottom (ring_actor.mk a326 ([]++a335) a343 0)) _ he13696) ?_
     refine .go 8 ?_
     refine .joinR 1 (fun(v417:Int)=>ring_Step_j162 a335 a326 x413 v417=some r) (fun(v417:Int)=>⟨Tryz.f174.ntmps,[(5,I x413)],[([7],Obj.box [I 0,I 0,I 0,I 0,I 0,V.bool false,I 0]),([28],Obj.rows 1 (rws (fun n=>[I n]) ([]++a335)) false),([31],Obj.box [I a326.Kind,I a326.Pc,I a326.V,I a326.T,I a326.B,V.bool a326.Won,I a326.State,V.ref [28] 0 (rws (fun n=>[I n]) ([]++a335)).length,I a343.Base,I a343.Cap,I v417])],[(Tryz.f167.ntmps,[(0,V.ptr [31] 0 0),(2,I (-1))]),(Tryz.f163.ntmps,[(0,V.ptr [31] 0 0),(2,V.ptr [31] 0 0)]),(Tryz.f127.ntmps,[(7,V.ptr [7] 0 0),(9,V.ptr [31] 0 0)])],[40,6,10]⟩) ?_ (fun HJ13699=>?_)
     ·intro v417 h
      rw [ring_Step_j162] at h
      refine .go 9 ?_
      refine .bjA 3 18 15 ?_
      refine .joinR 1 (fun(v414:Int)=>ring_Step_j163 a335 a326 x413 v414=some r) (fun(v414:Int)=>⟨Tryz.f167.ntmps,[(7,I x413)],[([7],Obj.box [I 0,I 0,I 0,I 0,I 0,V.bool false,I 0]),([28],Obj.rows 1 (rws (fun n=>[I n]) ([]++a335)) false),([31],Obj.box [I a326.Kind,I a326.Pc,I a326.V,I a326.T,I a326.B,V.bool a326.Won,I a326.State,V.ref [28] 0 (rws (fun n=>[I n]) ([]++a335)).length,I a343.Base,I a343.Cap,I v414])],[(Tryz.f163.ntmps,[(0,V.ptr [31] 0 0),(2,V.ptr [31] 0 0)]),(Tryz.f127.ntmps,[(7,V.ptr [7] 0 0),(9,V.ptr [31] 0 0)])],[40,6]⟩) ?_ (fun HJ13703=>?_)
      ·intro v414 h
       rw [ring_Step_j163] at h
       refine .go 7 ?_
       refine Safe.regionD (n:=14) [] [13] E_good mixed rfl ?_
       refine rA 1 (up 0 13) ?_
       refine DAny.onlyS (i:=13) rfl (by kernel_rfl) rfl ?_
       refine .go0 0 ?_
       refine .joinR 1 (fun((v415,v416):Int×Int)=>ring_Step_j164 a335 a326 x413 v414 v415 v416=some r) (fun((v415,v416):Int×Int)=>⟨Tryz.f163.ntmps,[],[([7],Obj.box [I 0,I 0,I 0,I 0,I 0,V.bool false,I 0]),([28],Obj.rows 1 (rws (fun n=>[I n]) ([]++a335)) false),([31],Obj.box [I a326.Kind,I v415,I a326.V,I a326.T,I x413,V.bool a326.Won,I v416,V.ref [28] 0 (rws (fun n=>[I n]) ([]++a335)).length,I a343.Base,I a343.Cap,I v414])],[(Tryz.f127.ntmps,[(7,V.ptr [7] 0 0),(9,V.ptr [31] 0 0)])],[40]⟩) ?_ (fun HJ13707=>?_)
       ·rintro ⟨v415,v416⟩ h
        dsimp only at h
        rw [ring_Step_j164] at h
        refine .go 0 ?_
        refine oNil ?_
        refine DAny.nil (by kernel_rfl) ?_
        refine .goN 1 ?_
        exact .got (HJ13211 (v415,a326.V,a326.T,x413,a326.Won,v416,[]++a335,v414) h) (.ren [28] [7000,114,31,7] covA)
       ·refine .inl Tryz.func170 Tryz.call170 1 ?_
        refine .ifC h (fun hc13708 h=>?_) (fun hc13708 h=>?_)
        ·refine .goN 7 ?_
         exact .got (HJ13707 (a326.Pc,2) h) covA
        ·refine .goN 7 ?_
         exact .got (HJ13707 (2,a326.State) h) covA
      ·refine .inl Tryz.func171 Tryz.call171 3 ?_
       refine .ifC h (fun hc13709 h=>?_) (fun hc13709 h=>?_)
       ·refine .goN 7 ?_
        exact .got (HJ13703 (9) h) covA
       ·refine .goN 3 ?_
        exact .got (HJ13703 (v417) h) covA
     ·refine .inl Tryz.func171 Tryz.call171 3 ?_
      refine .ifC h (fun hc13710 h=>?_) (fun hc13710 h=>?_)
      ·refine .goN 7 ?_
       exact .got (HJ13699 (9) h) covA
      ·refine .goN 3 ?_
       exact .got (HJ13699 (0) h) covA
    refine ifP_G h (fun hq13711 h=>?_) (fun _ h=>?_)
    ·refine .see 38 (u:=V.fn 164 []) rfl (up_fn hq13711) ?_
     refine .inl Tryz.func164 Tryz.call164 7 ?_
     refine .joinR 1 (fun(v422:Int)=>ring_Step_j165 a335 a343 a326 v422=some r) (fun(v422:Int)=>⟨Tryz.f164.ntmps,[(0,V.ptr [31] 0 0),(9,V.bool (decide (a326.T≥0)))],[([7],Obj.box [I 0,I 0,I 0,I 0,I 0,V.bool false,I 0]),([28],Obj.rows 1 (rws (fun n=>[I n]) ([]++a335)) false),([31],Obj.box [I a326.Kind,I a326.Pc,I a326.V,I a326.T,I a326.B,V.bool a326.Won,I a326.State,V.ref [28] 0 (rws (fun n=>[I n]) ([]++a335)).length,I a343.Base,I a343.Cap,I v422])],[(Tryz.f127.ntmps,[(7,V.ptr [7] 0 0),(9,V.ptr [31] 0 0)])],[40]⟩) ?_ (fun HJ13714=>?_)
     ·intro v422 h
      rw [ring_Step_j165] at h
      refine .go 0 ?_
      refine .joinS (fun((v418,v419):Int×Int)=>ring_Step_j168 a335 a326 v418 v419=some r) (fun((v418,v419):Int×Int)=>⟨Tryz.f164.ntmps,[(0,V.ptr [31] 0 0)],[([7],Obj.box [I 0,I 0,I 0,I 0,I 0,V.bool false,I 0]),([28],Obj.rows 1 (rws (fun n=>[I n]) ([]++a335)) false),([31],Obj.box [I a326.Kind,I a326.Pc,I v418,I a326.T,I a326.B,V.bool a326.Won,I a326.State,V.ref [28] 0 (rws (fun n=>[I n]) ([]++a335)).length,I a343.Base,I a343.Cap,I v419])],[(Tryz.f127.ntmps,[(7,V.ptr [7] 0 0),(9,V.ptr [31] 0 0)])],[40]⟩) ?_ (fun HJ13731=>?_)
      ·rintro ⟨v418,v419⟩ h
       dsimp only at h
       rw [ring_Step_j168] at h
       refine .goN 11 ?_
       exact .got (HJ13211 (IntKind.i64.wrap (a326.Pc+1),v418,a326.T,a326.B,a326.Won,a326.State,[]++a335,v419) h) (.ren [28] [7000,114,31,7] covA)
      ·refine .ifC h (fun hc13732 h=>?_) (fun hc13732 h=>?_)
       ·refine .go 8 ?_
        refine bindG h ?_
        intro x423 he13734 h
        refine .cS (pring_actor_slot_sc (ring_actor.mk a326 ([]++a335) a343 v422) a326.T _ he13734) ?_
        refine .inl Tryz.func174 Tryz.call174 6 ?_
        refine bindG h ?_
        rintro ⟨x420,x424⟩ he13743 h
        refine .cS (cell_Load_sc ([]++a335) x423 _ he13743) ?_
        refine .go 8 ?_
        refine .joinR 1 (fun(v421:Int)=>ring_Step_j170 a335 a326 x420 v421=some r) (fun(v421:Int)=>⟨Tryz.f174.ntmps,[(5,I x420)],[([7],Obj.box [I 0,I 0,I 0,I 0,I 0,V.bool false,I 0]),([28],Obj.rows 1 (rws (fun n=>[I n]) ([]++a335)) false),([31],Obj.box [I a326.Kind,I a326.Pc,I a326.V,I a326.T,I a326.B,V.bool a326.Won,I a326.State,V.ref [28] 0 (rws (fun n=>[I n]) ([]++a335)).length,I a343.Base,I a343.Cap,I v421])],[(Tryz.f164.ntmps,[(0,V.ptr [31] 0 0),(10,V.ptr [31] 0 0)]),(Tryz.f127.ntmps,[(7,V.ptr [7] 0 0),(9,V.ptr [31] 0 0)])],[40,19]⟩) ?_ (fun HJ13746=>?_)
        ·intro v421 h
         rw [ring_Step_j170] at h
         refine .go 7 ?_
         exact .got (HJ13731 (x420,v421) h) covA
        ·refine .inl Tryz.func171 Tryz.call171 3 ?_
         refine .ifC h (fun hc13747 h=>?_) (fun hc13747 h=>?_)
         ·refine .goN 7 ?_
          exact .got (HJ13746 (9) h) covA
         ·refine .goN 3 ?_
          exact .got (HJ13746 (v422) h) covA
       ·refine .go 0 ?_
        exact .got (HJ13731 (a326.V,v422) h) covA
     ·refine .inl Tryz.func171 Tryz.call171 3 ?_
      refine .ifC h (fun hc13748 h=>?_) (fun hc13748 h=>?_)
      ·refine .goN 7 ?_
       exact .got (HJ13714 (9) h) covA
      ·refine .goN 3 ?_
       exact .got (HJ13714 (0) h) covA
    refine ifP_G h (fun hq13749 h=>?_) (fun _ h=>?_)
    ·refine .see 38 (u:=V.fn 165 []) rfl (up_fn hq13749) ?_
     refine .inl Tryz.func165 Tryz.call165 12 ?_
     refine .joinR 1 (fun(v435:Int)=>ring_Step_j171 a335 a343 a326 v435=some r) (fun(v435:Int)=>⟨Tryz.f165.ntmps,[(0,V.ptr [31] 0 0),(13,V.bool (decide (a326.T≥0)))],[([7],Obj.box [I 0,I 0,I 0,I 0,I 0,V.bool false,I 0]),([28],Obj.rows 1 (rws (fun n=>[I n]) ([]++a335)) false),([31],Obj.box [I a326.Kind,I a326.Pc,I a326.V,I a326.T,I a326.B,V.bool a326.Won,I 4,V.ref [28] 0 (rws (fun n=>[I n]) ([]++a335)).length,I a343.Base,I a343.Cap,I v435])],[(Tryz.f127.ntmps,[(7,V.ptr [7] 0 0),(9,V.ptr [31] 0 0)])],[40]⟩) ?_ (fun HJ13752=>?_)
     ·intro v435 h
      rw [ring_Step_j171] at h
      refine .go 1 ?_
      refine .joinR 3 (fun((v425,v426,v427):Bool×(List Int)×Int)=>ring_Step_j174 a326 v425 v426 v427=some r) (fun((v425,v426,v427):Bool×(List Int)×Int)=>⟨Tryz.f165.ntmps,[(0,V.ptr [31] 0 0),(17,V.bool v425)],[([7],Obj.box [I 0,I 0,I 0,I 0,I 0,V.bool false,I 0]),([31],Obj.box [I a326.Kind,I a326.Pc,I a326.V,I a326.T,I a326.B,V.bool a326.Won,I 4,V.ref [7000,114,31,7] 0 (rws (fun n=>[I n]) v426).length,I a343.Base,I a343.Cap,I v427]),([7000,114,31,7],Obj.rows 1 (rws (fun n=>[I n]) v426) false)],[(Tryz.f127.ntmps,[(7,V.ptr [7] 0 0),(9,V.ptr [31] 0 0)])],[40]⟩) ?_ (fun HJ13805=>?_)
      ·rintro ⟨v425,v426,v427⟩ h
       dsimp only at h
       rw [ring_Step_j174] at h
       refine .go 0 ?_
       refine .ifC h (fun hc13806 h=>?_) (fun hc13806 h=>?_)
       ·refine .goN 6 ?_
        exact .got (HJ13211 (a326.Pc,a326.V,a326.T,a326.B,a326.Won,1,v426,v427) h) covA
       ·refine .goN 1 ?_
        exact .got (HJ13211 (a326.Pc,a326.V,a326.T,a326.B,a326.Won,4,v426,v427) h) covA
      ·refine SafeOps.ifD 14 h rfl (fun hc13753 h=>?_) (fun hc13753 h=>?_)
       ·refine .go 1 ?_
        refine .joinR 1 (fun((v428,v429,v430):Bool×(List Int)×Int)=>ring_Step_j176 a326 v428 v429 v430=some r) (fun((v428,v429,v430):Bool×(List Int)×Int)=>⟨Tryz.f165.ntmps,[(0,V.ptr [31] 0 0),(14,V.bool true),(16,V.bool v428)],[([7],Obj.box [I 0,I 0,I 0,I 0,I 0,V.bool false,I 0]),([31],Obj.box [I a326.Kind,I a326.Pc,I a326.V,I a326.T,I a326.B,V.bool a326.Won,I 4,V.ref [7000,114,31,7] 0 (rws (fun n=>[I n]) v429).length,I a343.Base,I a343.Cap,I v430]),([7000,114,31,7],Obj.rows 1 (rws (fun n=>[I n]) v429) false)],[(Tryz.f127.ntmps,[(7,V.ptr [7] 0 0),(9,V.ptr [31] 0 0)])],[40]⟩) ?_ (fun HJ13818=>?_)
        ·rintro ⟨v428,v429,v430⟩ h
         dsimp only at h
         rw [ring_Step_j176] at h
         refine .goN 1 ?_
         exact .got (HJ13805 (v428,v429,v430) h) covA
        ·refine .inl Tryz.func175 Tryz.call175 1 ?_
         refine Safe.regionD (n:=25) [] [] E_good mixed rfl ?_
         refine rA 20 (up 0 5) ?_
         refine DT 5 [] rfl rfl (v:=I (pring_actor_top (ring_actor.mk (api_Hand.mk a326.Kind a326.Pc a326.V a326.T a326.B a326.Won 4) ([]++a335) a343 v435))) (fun _ hz=>(.callS rfl (.cons (.box (hz _ _ rfl rfl) (.cons (.free rfl) (.cons (.free rfl) (.cons (.free rfl) (.cons (.free rfl) (.cons (.free rfl) (.cons (.free rfl) (.cons (.free rfl) (.cons (.full (hz _ _ rfl rfl) rfl) (.cons (.free rfl) (.cons (.free rfl) (.cons (.free rfl) .nil)))))))))))) .nil) (pring_actor_top_sc (ring_actor.mk (api_Hand.mk a326.Kind a326.Pc a326.V a326.T a326.B a326.Won 4) ([]++a335) a343 v435) _ rfl) (.plain rfl) rfl)) ?_
         refine rA 8 (up 6 11) ?_
         refine bindG h ?_
         rintro ⟨x431,x432,x433⟩ he13822 h
         refine DAny.only (i:=17) rfl (by kernel_rfl) (.quiet rfl rfl rfl (v:=V.tup [V.ref [40,16,24,0] 0 (rws (fun n=>[I n]) x431).length,V.bool x432,I x433]) (.callS rfl (.cons (.full rfl rfl) (.cons (.free rfl) (.cons (.free rfl) (.cons (.free rfl) .nil)))) (cell_Cas_sc ([]++a335) (pring_actor_top (ring_actor.mk (api_Hand.mk a326.Kind a326.Pc a326.V a326.T a326.B a326.Won 4) ([]++a335) a343 v435)) a326.T (IntKind.i64.wrap (a326.T+1)) _ he13822) (.tupL (.cons (.ownM (fun _=>rfl)) (.cons (.plain rfl) (.cons (.plain rfl) .nil)))) rfl) rfl ?_)
         refine rA 0 (up 18 7) ?_
         refine DAny.nil (by kernel_rfl) ?_
         refine .go 3 ?_
         refine .joinR 1 (fun(v434:Int)=>ring_Step_j177 a335 a326 x431 x432 x433 v434=some r) (fun(v434:Int)=>⟨Tryz.f175.ntmps,[(0,V.ptr [31] 0 0),(3,V.ref [40,16,24,0] 0 (rws (fun n=>[I n]) x431).length),(4,V.bool x432),(31,V.bool (x433==0))],[([7],Obj.box [I 0,I 0,I 0,I 0,I 0,V.bool false,I 0]),([28],Obj.rows 1 (rws (fun n=>[I n]) ([]++a335)) false),([31],Obj.box [I a326.Kind,I a326.Pc,I a326.V,I a326.T,I a326.B,V.bool a326.Won,I 4,V.ref [28] 0 (rws (fun n=>[I n]) ([]++a335)).length,I a343.Base,I a343.Cap,I v434]),([40,16,24,0],Obj.rows 1 (rws (fun n=>[I n]) x431) false)],[(Tryz.f165.ntmps,[(0,V.ptr [31] 0 0),(14,V.bool true)]),(Tryz.f127.ntmps,[(7,V.ptr [7] 0 0),(9,V.ptr [31] 0 0)])],[40,16]⟩) ?_ (fun HJ13825=>?_)
         ·intro v434 h
          rw [ring_Step_j177] at h
          refine .go 0 ?_
          refine .ifC h (fun hc13826 h=>?_) (fun hc13826 h=>?_)
          ·refine .goN 8 ?_
           exact .got (HJ13818 (x432,x431,v434) h) (.ren [40,16,24,0] [7000,114,31,7] covA)
          ·refine .goN 3 ?_
           exact .got (HJ13818 (x432,[]++a335,v434) h) (.ren [28] [7000,114,31,7] covA)
         ·refine .inl Tryz.func171 Tryz.call171 3 ?_
          refine .ifC h (fun hc13827 h=>?_) (fun hc13827 h=>?_)
          ·refine .goN 7 ?_
           exact .got (HJ13825 (9) h) covA
          ·refine .goN 3 ?_
           exact .got (HJ13825 (v435) h) covA
       ·refine .goN 3 ?_
        exact .got (HJ13805 (false,[]++a335,v435) h) (.ren [28] [7000,114,31,7] covA)
     ·refine .inl Tryz.func171 Tryz.call171 3 ?_
      refine .ifC h (fun hc13828 h=>?_) (fun hc13828 h=>?_)
      ·refine .goN 7 ?_
       exact .got (HJ13752 (9) h) covA
      ·refine .goN 3 ?_
       exact .got (HJ13752 (0) h) covA
    cases h
theorem okT63:(eqOk Tryz.prog E 20 63&&!Tryz.prog.eqGuardType Tryz.prog.depth 63)=true:=by kernel_rfl
theorem crew_hand_sc (a442:api_Hand) (r:Bool) (h:crew_hand a442=some r):SC Tryz.prog gl 78 [V.agg a442.cells] (V.bool r):=by
 rw [crew_hand] at h
 refine SC.go Tryz.func78 Tryz.call78 2 ?_
 refine Safe.regionD (n:=12) [(10,[4])] [] E_good mixed rfl ?_
 refine rA 10 [1,2] ?_
 refine DAny.fork (i:=0) (j:=8) rfl rfl (by kernel_rfl) ?_ ?_
 ·refine okG h (fun hb13845 h=>?_)
  refine .quiet rfl rfl rfl (.makeM (f:=(fun n=>[I n])) (d:=(0:Int)) rfl rfl rfl rfl hb13845 rfl rfl rfl) rfl ?_
  refine DAny.fork (i:=3) (j:=8) rfl rfl (by kernel_rfl) ?_ ?_
  ·refine bindG h ?_
   rintro ⟨x443,x444,x445⟩ he13849 h
   refine .quiet rfl rfl rfl (v:=V.tup [V.ref [10,0] 0 (rws (fun n=>[I n]) x443).length,V.agg x444.cells,I x445]) (.callS rfl (.cons (.full rfl rfl) (.cons (.free rfl) (.cons (.free rfl) .nil))) (ring_Step_sc (List.replicate (Int.toNat 3) (0:Int)) (api_Deque.mk 0 1) a442 _ he13849) (.tupL (.cons (.ownM (fun _=>rfl)) (.cons (.aggL (.cons (.plain rfl) (.cons (.plain rfl) (.cons (.plain rfl) (.cons (.plain rfl) (.cons (.plain rfl) (.cons (.plain rfl) (.cons (.plain rfl) .nil)))))))) (.cons (.plain rfl) .nil)))) rfl) rfl ?_
   refine rA 4 (up 4 4) ?_
   refine DAny.only (i:=8) rfl (by kernel_rfl) (.quiet rfl rfl rfl (.alloc rfl rfl) rfl ?_)
   refine rA 2 [9] ?_
   refine .sto 10 ?_
   refine rA 0 [11] ?_
   refine DAny.nil (by kernel_rfl) ?_
   refine .go 2 ?_
   refine Q0 E_good rfl (v:=V.bool (api_Hand.beq a442 api_Hand.zero)) (.eqA rfl rfl rfl rfl okT63 rfl) ?_
   refine .go 1 ?_
   refine SafeOps.bjoinL 8 25 17 rfl (b:=((api_Hand.beq a442 api_Hand.zero)||((x445 != 1)&&(a442.State==0)))) (b1:=true) (b0:=((x445 != 1)&&(a442.State==0))) (fun hc13850 K=>?_) (fun hc13850 K=>?_) bj_or ?_
   ·refine rO 8 ?_
    exact SafeOps.drop' 8 rfl rfl rfl K
   ·refine .go 3 ?_
    refine .bjA 4 24 20 ?_
    refine rO 1 ?_
    exact SafeOps.drop' 5 rfl rfl rfl K
   refine .go 1 ?_
   cases h
   exact retF
  ·refine .quiet rfl rfl rfl (.alloc rfl rfl) rfl ?_
   refine bindG h ?_
   rintro ⟨x443,x444,x445⟩ he13849 h
   refine DAny.only (i:=3) rfl (by kernel_rfl) (.quiet rfl rfl rfl (v:=V.tup [V.ref [10,0] 0 (rws (fun n=>[I n]) x443).length,V.agg x444.cells,I x445]) (.callS rfl (.cons (.full rfl rfl) (.cons (.free rfl) (.cons (.free rfl) .nil))) (ring_Step_sc (List.replicate (Int.toNat 3) (0:Int)) (api_Deque.mk 0 1) a442 _ he13849) (.tupL (.cons (.ownM (fun _=>rfl)) (.cons (.aggL (.cons (.plain rfl) (.cons (.plain rfl) (.cons (.plain rfl) (.cons (.plain rfl) (.cons (.plain rfl) (.cons (.plain rfl) (.cons (.plain rfl) .nil)))))))) (.cons (.plain rfl) .nil)))) rfl) rfl ?_)
   refine rA 2 [4,5,6,7,9] ?_
   refine .sto 10 ?_
   refine rA 0 [11] ?_
   refine DAny.nil (by kernel_rfl) ?_
   refine .go 2 ?_
   refine Q0 E_good rfl (v:=V.bool (api_Hand.beq a442 api_Hand.zero)) (.eqA rfl rfl rfl rfl okT63 rfl) ?_
   refine .go 1 ?_
   refine SafeOps.bjoinL 8 25 17 rfl (b:=((api_Hand.beq a442 api_Hand.zero)||((x445 != 1)&&(a442.State==0)))) (b1:=true) (b0:=((x445 != 1)&&(a442.State==0))) (fun hc13850 K=>?_) (fun hc13850 K=>?_) bj_or ?_
   ·refine rO 8 ?_
    exact SafeOps.drop' 8 rfl rfl rfl K
   ·refine .go 3 ?_
    refine .bjA 4 24 20 ?_
    refine rO 1 ?_
    exact SafeOps.drop' 5 rfl rfl rfl K
   refine .go 1 ?_
   cases h
   exact retF
 ·refine .quiet rfl rfl rfl (.alloc rfl rfl) rfl ?_
  refine okG h (fun hb13845 h=>?_)
  refine DAny.only (i:=0) rfl (by kernel_rfl) (.quiet rfl rfl rfl (.makeM (f:=(fun n=>[I n])) (d:=(0:Int)) rfl rfl rfl rfl hb13845 rfl rfl rfl) rfl ?_)
  refine bindG h ?_
  rintro ⟨x443,x444,x445⟩ he13849 h
  refine DAny.only (i:=3) rfl (by kernel_rfl) (.quiet rfl rfl rfl (v:=V.tup [V.ref [10,0] 0 (rws (fun n=>[I n]) x443).length,V.agg x444.cells,I x445]) (.callS rfl (.cons (.full rfl rfl) (.cons (.free rfl) (.cons (.free rfl) .nil))) (ring_Step_sc (List.replicate (Int.toNat 3) (0:Int)) (api_Deque.mk 0 1) a442 _ he13849) (.tupL (.cons (.ownM (fun _=>rfl)) (.cons (.aggL (.cons (.plain rfl) (.cons (.plain rfl) (.cons (.plain rfl) (.cons (.plain rfl) (.cons (.plain rfl) (.cons (.plain rfl) (.cons (.plain rfl) .nil)))))))) (.cons (.plain rfl) .nil)))) rfl) rfl ?_)
  refine rA 2 [4,5,6,7,9] ?_
  refine .sto 10 ?_
  refine rA 0 [11] ?_
  refine DAny.nil (by kernel_rfl) ?_
  refine .go 2 ?_
  refine Q0 E_good rfl (v:=V.bool (api_Hand.beq a442 api_Hand.zero)) (.eqA rfl rfl rfl rfl okT63 rfl) ?_
  refine .go 1 ?_
  refine SafeOps.bjoinL 8 25 17 rfl (b:=((api_Hand.beq a442 api_Hand.zero)||((x445 != 1)&&(a442.State==0)))) (b1:=true) (b0:=((x445 != 1)&&(a442.State==0))) (fun hc13850 K=>?_) (fun hc13850 K=>?_) bj_or ?_
  ·refine rO 8 ?_
   exact SafeOps.drop' 8 rfl rfl rfl K
  ·refine .go 3 ?_
   refine .bjA 4 24 20 ?_
   refine rO 1 ?_
   exact SafeOps.drop' 5 rfl rfl rfl K
  refine .go 1 ?_
  cases h
  exact retF
theorem slot_Find_sc (a446:api_Places) (a447:Int) (r:Int×Int) (h:slot_Find a446 a447=some r):SC Tryz.prog gl 128 [V.agg a446.cells,I a447] (V.tup [I r.1,I r.2]):=by
 rw [slot_Find] at h
 refine SC.go Tryz.func128 Tryz.call128 4 ?_
 refine bindG h ?_
 intro x448 he13909 h
 refine .cP (slot_Check_sc a446 _ he13909) ?_
 refine .go 2 ?_
 refine .bjO 3 14 11 ?_
 refine .go 0 ?_
 refine .ifC h (fun hc13911 h=>?_) (fun hc13911 h=>?_)
 ·refine .go 2 ?_
  cases h
  exact retF
 ·refine .go 3 ?_
  refine Q0 E_good rfl (v:=I (IntKind.i64.wrap (Int.tdiv a447 256))) (.quoV rfl rfl (by decide)) ?_
  refine .go 5 ?_
  refine .len ?_
  refine .go 2 ?_
  refine SafeOps.ifD 25 h rfl (fun hc13912 h=>?_) (fun hc13912 h=>?_)
  ·refine .go 12 ?_
   cases h
   exact retF
  ·refine .go 4 ?_
   refine okG h (fun hb13914 h=>?_)
   refine .ix hb13914 ?_
   refine .ld hb13914 ?_
   refine .go 3 ?_
   refine .ifC h (fun hc13915 h=>?_) (fun hc13915 h=>?_)
   ·refine .go 2 ?_
    cases h
    exact retF
   ·refine .go 4 ?_
    refine okG h (fun hb13916 h=>?_)
    refine .ix hb13916 ?_
    refine .ld hb13916 ?_
    refine .go 2 ?_
    refine .ifC h (fun hc13917 h=>?_) (fun hc13917 h=>?_)
    ·refine .go 2 ?_
     cases h
     exact retF
    ·refine .go 3 ?_
     refine okG h (fun hb13918 h=>?_)
     refine .ix hb13918 ?_
     refine .ld hb13918 ?_
     refine .go 2 ?_
     refine .ifC h (fun hc13919 h=>?_) (fun hc13919 h=>?_)
     ·refine .go 2 ?_
      cases h
      exact retF
     ·refine .go 3 ?_
      cases h
      exact retF
theorem crew_checker_holds_sc (a449:crew_checker) (a450:Int) (a451:Int) (r:Bool) (h:crew_checker_holds a449 a450 a451=some r):SC Tryz.prog gl 79 [V.agg a449.cells,I a450,I a451] (V.bool r):=by
 rw [crew_checker_holds] at h
 refine SC.go Tryz.func79 Tryz.call79 4 ?_
 refine .ifC h (fun hc13927 h=>?_) (fun hc13927 h=>?_)
 ·refine .go 1 ?_
  cases h
  exact retF
 ·refine .go 4 ?_
  refine bindG h ?_
  rintro ⟨x452,x453⟩ he13930 h
  refine .cP (slot_Find_sc a449.w.Ids a450 _ he13930) ?_
  refine .go 8 ?_
  refine SafeOps.ifD 21 h rfl (fun hc13931 h=>?_) (fun hc13931 h=>?_)
  ·refine .go 4 ?_
   refine okG h (fun hb13933 h=>?_)
   refine .ix hb13933 ?_
   refine .go 1 ?_
   refine .ld hb13933 ?_
   refine .go 4 ?_
   cases h
   exact retF
  ·refine .go 11 ?_
   cases h
   exact retF
theorem crew_checker_worker_sc (a454:crew_checker) (a455:Int) (r:Bool) (h:crew_checker_worker a454 a455=some r):SC Tryz.prog gl 35 [V.agg a454.cells,I a455] (V.bool r):=by
 rw [crew_checker_worker] at h
 refine SC.go Tryz.func35 Tryz.call35 2 ?_
 refine Safe.regionD (n:=16) [(14,[5])] [] E_good mixed rfl ?_
 refine rA 12 (up 0 4) ?_
 refine okG h (fun hb14001 h=>?_)
 refine DT 4 [[5]] rfl rfl (v:=V.spt 14 (rws api_Worker.cells a454.w.W) (Int.toNat a455) 0) (fun _ hz=>(.idxSlM (f:=api_Worker.cells) rfl rfl rfl rfl rfl hb14001)) ?_
 refine DT 5 [[5]] rfl rfl (v:=V.agg [I ((gt a454.w.W a455).Do),I ((gt a454.w.W a455).Hand.Kind),I ((gt a454.w.W a455).Hand.Pc),I ((gt a454.w.W a455).Hand.V),I ((gt a454.w.W a455).Hand.T),I ((gt a454.w.W a455).Hand.B),V.bool ((gt a454.w.W a455).Hand.Won),I ((gt a454.w.W a455).Hand.State),I ((gt a454.w.W a455).At),V.sl 1 (rws (fun n=>[I n]) ((gt a454.w.W a455).Ask)),I ((gt a454.w.W a455).Task),I ((gt a454.w.W a455).Left),I ((gt a454.w.W a455).Kid),I ((gt a454.w.W a455).Spill)]) (fun _ hz=>(.load rfl rfl (.sptM (f:=api_Worker.cells) hb14001 rfl) rfl)) ?_
 refine rA 5 (up 6 5) ?_
 refine okG h (fun hb14002 h=>?_)
 refine DT 11 [[5]] rfl rfl (v:=V.spt 1 (rws (fun n=>[I n]) a454.w.Idle.Is) (Int.toNat a455) 0) (fun _ hz=>(.idxSlM (f:=(fun n=>[I n])) rfl rfl rfl rfl rfl hb14002)) ?_
 refine DT 12 [[5]] rfl rfl (v:=I (gt a454.w.Idle.Is a455)) (fun _ hz=>(.load rfl rfl (.sptM (f:=(fun n=>[I n])) hb14002 rfl) rfl)) ?_
 refine DAny.only (i:=13) rfl (by kernel_rfl) (.quiet rfl rfl rfl (.alloc rfl rfl) rfl ?_)
 refine .sto 14 ?_
 refine rA 0 [15] ?_
 refine DAny.nil (by kernel_rfl) ?_
 refine .go 4 ?_
 refine .cP (crew_within_sc ((gt a454.w.W a455).Do) 0 13 _ rfl) ?_
 refine .go 2 ?_
 refine SafeOps.bsplit 5 33 (fun b461=>crew_checker_worker_j7 a454 a455 b461=some r) (fun HJ14060=>?_) (fun b461 h=>?_)
 ·refine SafeOps.ifD 28 h rfl (fun hc14056 h=>?_) (fun hc14056 h=>?_)
  ·refine rO 5 ?_
   exact SafeOps.drop' 5 rfl rfl rfl (SafeOps.unk 28 rfl hc14056 (HJ14060 _ h))
  ·refine .go 2 ?_
   refine bindG h ?_
   intro x462 he14160 h
   refine .cP (crew_hand_sc ((gt a454.w.W a455).Hand) _ he14160) ?_
   refine rO 2 ?_
   exact SafeOps.drop' 5 rfl rfl rfl (SafeOps.unk 28 rfl hc14056 (HJ14060 _ h))
 ·replace h:crew_checker_worker_j7 a454 a455 b461=some r:=h
  rw [crew_checker_worker_j7] at h
  refine .go 1 ?_
  refine SafeOps.bjoinL 8 42 34 rfl (b:=(b461||(!(crew_within ((gt a454.w.W a455).At) 0 a454.c.Workers)))) (b1:=true) (b0:=(!(crew_within ((gt a454.w.W a455).At) 0 a454.c.Workers))) (fun hc14061 K=>?_) (fun hc14061 K=>?_) bj_or ?_
  ·refine rO 8 ?_
   exact SafeOps.drop' 8 rfl rfl rfl K
  ·refine .go 5 ?_
   refine .cP (crew_within_sc ((gt a454.w.W a455).At) 0 a454.c.Workers _ rfl) ?_
   refine rO 2 ?_
   exact SafeOps.drop' 8 rfl rfl rfl K
  refine .go 1 ?_
  refine SafeOps.bjoinL 5 48 43 rfl (b:=((b461||(!(crew_within ((gt a454.w.W a455).At) 0 a454.c.Workers)))||(decide ((((gt a454.w.W a455).Ask).length:Int) > 64)))) (b1:=true) (b0:=decide ((((gt a454.w.W a455).Ask).length:Int) > 64)) (fun hc14062 K=>?_) (fun hc14062 K=>?_) bj_or ?_
  ·refine rO 5 ?_
   exact SafeOps.drop' 5 rfl rfl rfl K
  ·refine .go 2 ?_
   refine .len ?_
   refine rO 2 ?_
   exact SafeOps.drop' 5 rfl rfl rfl K
  refine .go 1 ?_
  refine SafeOps.ifD 49 h rfl (fun hc14063 h=>?_) (fun hc14063 h=>?_)
  ·refine .go 8 ?_
   cases h
   exact retF
  ·refine .go 3 ?_
   refine .inl Tryz.func74 Tryz.call74 3 ?_
   refine .joinR 1 (fun(v458:Int)=>crew_checker_worker_j11 a454 a455 v458=some r) (fun(v458:Int)=>⟨Tryz.f74.ntmps,[(7,I v458)],[([2],Obj.box a454.cells),([5],Obj.box [I ((gt a454.w.W a455).Do),I ((gt a454.w.W a455).Hand.Kind),I ((gt a454.w.W a455).Hand.Pc),I ((gt a454.w.W a455).Hand.V),I ((gt a454.w.W a455).Hand.T),I ((gt a454.w.W a455).Hand.B),V.bool ((gt a454.w.W a455).Hand.Won),I ((gt a454.w.W a455).Hand.State),I ((gt a454.w.W a455).At),V.sl 1 (rws (fun n=>[I n]) ((gt a454.w.W a455).Ask)),I ((gt a454.w.W a455).Task),I ((gt a454.w.W a455).Left),I ((gt a454.w.W a455).Kid),I ((gt a454.w.W a455).Spill)])],[(Tryz.f35.ntmps,[(2,V.ptr [2] 0 0),(5,V.ptr [5] 0 0),(6,I (gt a454.w.Idle.Is a455)),(49,V.bool false)])],[53]⟩) ?_ (fun HJ14131=>?_)
   ·intro v458 h
    rw [crew_checker_worker_j11] at h
    refine .go 5 ?_
    refine .ifC h (fun hc14132 h=>?_) (fun hc14132 h=>?_)
    ·refine .go 1 ?_
     cases h
     exact retF
    ·refine .go 5 ?_
     refine .cP (crew_within_sc ((gt a454.w.W a455).Left) 0 a454.c.Budget _ rfl) ?_
     refine .go 2 ?_
     refine SafeOps.bjoinL 8 71 63 rfl (b:=((!(crew_within ((gt a454.w.W a455).Left) 0 a454.c.Budget))||(!(crew_within ((gt a454.w.W a455).Spill) 0 a454.c.Cap)))) (b1:=true) (b0:=(!(crew_within ((gt a454.w.W a455).Spill) 0 a454.c.Cap))) (fun hc14133 K=>?_) (fun hc14133 K=>?_) bj_or ?_
     ·refine rO 8 ?_
      exact SafeOps.drop' 8 rfl rfl rfl K
     ·refine .go 5 ?_
      refine .cP (crew_within_sc ((gt a454.w.W a455).Spill) 0 a454.c.Cap _ rfl) ?_
      refine rO 2 ?_
      exact SafeOps.drop' 8 rfl rfl rfl K
     refine .go 1 ?_
     refine SafeOps.bsplit 6 78 (fun b456=>crew_checker_worker_j12 a454 a455 b456=some r) (fun HJ14138=>?_) (fun b456 h=>?_)
     ·refine SafeOps.ifD 72 h rfl (fun hc14134 h=>?_) (fun hc14134 h=>?_)
      ·refine rO 6 ?_
       exact SafeOps.drop' 6 rfl rfl rfl (SafeOps.unk 72 rfl hc14134 (HJ14138 _ h))
      ·refine .go 3 ?_
       refine bindG h ?_
       intro x459 he14146 h
       refine .cP (crew_checker_holds_sc a454 ((gt a454.w.W a455).Task) 2 _ he14146) ?_
       refine rO 2 ?_
       exact SafeOps.drop' 6 rfl rfl rfl (SafeOps.unk 72 rfl hc14134 (HJ14138 _ h))
     ·replace h:crew_checker_worker_j12 a454 a455 b456=some r:=h
      rw [crew_checker_worker_j12] at h
      refine .go 1 ?_
      refine SafeOps.ifD 79 h rfl (fun hc14139 h=>?_) (fun hc14139 h=>?_)
      ·refine .go 9 ?_
       cases h
       exact retF
      ·refine .go 3 ?_
       refine bindG h ?_
       intro x457 he14143 h
       refine .cP (crew_checker_holds_sc a454 ((gt a454.w.W a455).Kid) 1 _ he14143) ?_
       refine .go 3 ?_
       refine .ifC h (fun hc14144 h=>?_) (fun hc14144 h=>?_)
       ·refine .go 1 ?_
        cases h
        exact retF
       ·refine .go 0 ?_
        refine SafeOps.quiet1 E_good rfl rfl rfl (.mkMapM (fun n:Int=>I n) (fun n:Int=>I n)) rfl ?_
        refine SafeOps.mputM (fun n:Int=>I n) (fun n:Int=>I n) [] 5 1 E_good (keyI .i64) rfl (.inr rfl) rfl rfl rfl rfl rfl rfl rfl rfl rfl ?_
        refine SafeOps.mputM (fun n:Int=>I n) (fun n:Int=>I n) (mput [] 5 1) 7 2 E_good (keyI .i64) rfl (.inr rfl) rfl rfl rfl rfl rfl rfl rfl rfl rfl ?_
        refine SafeOps.mputM (fun n:Int=>I n) (fun n:Int=>I n) (mput (mput [] 5 1) 7 2) 8 2 E_good (keyI .i64) rfl (.inr rfl) rfl rfl rfl rfl rfl rfl rfl rfl rfl ?_
        refine SafeOps.mputM (fun n:Int=>I n) (fun n:Int=>I n) (mput (mput (mput [] 5 1) 7 2) 8 2) 9 3 E_good (keyI .i64) rfl (.inr rfl) rfl rfl rfl rfl rfl rfl rfl rfl rfl ?_
        refine .go 5 ?_
        refine Q0 E_good rfl (v:=I ((mget (mput (mput (mput (mput [] 5 1) 7 2) 8 2) 9 3) ((gt a454.w.W a455).Do)).getD 0)) (.lookM (fv:=(fun n:Int=>I n)) (m:=mput (mput (mput (mput [] 5 1) 7 2) 8 2) 9 3) (kk:=(gt a454.w.W a455).Do) (z0:=0) (keyI .i64) rfl rfl rfl rfl rfl rfl rfl rfl rfl rfl) ?_
        refine .go 3 ?_
        cases h
        exact retF
   ·refine .inl Tryz.func126 Tryz.call126 2 ?_
    refine .len ?_
    refine .go 1 ?_
    refine Safe.loopS (fun(v460:Int)=>⟨Tryz.f126.ntmps,[(0,V.sl 1 (rws (fun n=>[I n]) ((gt a454.w.W a455).Ask))),(1,V.fn 76 [V.ptr [2] 0 0]),(7,I (((gt a454.w.W a455).Ask).length:Int)),(8,I v460)],[([2],Obj.box a454.cells),([5],Obj.box [I ((gt a454.w.W a455).Do),I ((gt a454.w.W a455).Hand.Kind),I ((gt a454.w.W a455).Hand.Pc),I ((gt a454.w.W a455).Hand.V),I ((gt a454.w.W a455).Hand.T),I ((gt a454.w.W a455).Hand.B),V.bool ((gt a454.w.W a455).Hand.Won),I ((gt a454.w.W a455).Hand.State),I ((gt a454.w.W a455).At),V.sl 1 (rws (fun n=>[I n]) ((gt a454.w.W a455).Ask)),I ((gt a454.w.W a455).Task),I ((gt a454.w.W a455).Left),I ((gt a454.w.W a455).Kid),I ((gt a454.w.W a455).Spill)])],[(Tryz.f74.ntmps,[]),(Tryz.f35.ntmps,[(2,V.ptr [2] 0 0),(5,V.ptr [5] 0 0),(6,I (gt a454.w.Idle.Is a455)),(49,V.bool false)])],[53,7]⟩) h covA ?_
    intro v460 ohr14155 h hr14155
    rw [crew_checker_worker_s13] at h
    refine .go 1 ?_
    refine .ifC h (fun hc14156 h=>?_) (fun hc14156 h=>?_)
    ·refine .go 5 ?_
     refine okG h (fun hb14157 h=>?_)
     refine .ix hb14157 ?_
     refine .ld hb14157 ?_
     refine .inl Tryz.func76 Tryz.call76 6 ?_
     refine .cP (crew_within_sc (gt ((gt a454.w.W a455).Ask) v460) 0 (IntKind.i64.wrap (a454.c.Workers - 1)) _ rfl) ?_
     refine .go 3 ?_
     refine .ifC h (fun hc14158 h=>?_) (fun hc14158 h=>?_)
     ·refine .goN 3 ?_
      replace h:=inr_out h hr14155
      exact .got (HJ14131 (v460) h) covA
     ·refine .go 2 ?_
      exact lpK ⟨_,next_out h,covA⟩
    ·refine .go 0 ?_
     replace h:=inr_out h hr14155
     refine .goN 2 ?_
     exact .got (HJ14131 (-1) h) covA
theorem crew_Check_sc (a467:api_Config) (a463:api_World) (r:Int) (h:crew_Check a467 a463=some r):SC Tryz.prog gl 20 [V.agg a467.cells,V.agg a463.cells] (I r):=by
 rw [crew_Check] at h
 refine SC.go Tryz.func20 Tryz.call20 9 ?_
 refine bindG h ?_
 intro x474 he14216 h
 refine .cP (crew_checker_parts_sc (crew_checker.mk a467 a463) _ he14216) ?_
 refine .go 1 ?_
 refine .ifC h (fun hc14217 h=>?_) (fun hc14217 h=>?_)
 ·refine .go 1 ?_
  cases h
  exact retF
 ·refine .go 2 ?_
  refine .len ?_
  refine .go 1 ?_
  refine Safe.loopS (fun(v472:Int)=>⟨Tryz.f20.ntmps,[(3,V.ptr [3] 0 0),(5,V.ptr [5] 0 0),(21,I (a463.T.length:Int)),(22,I v472)],[([3],Obj.box a463.cells),([5],Obj.box [I a467.Workers,I a467.Cap,I a467.Budget,V.sl 1 (rws (fun n=>[I n]) a467.Weights),V.sl 1 (rws (fun n=>[I n]) a467.Quotas),V.sl 1 (rws (fun l=>[V.sl 3 (rws api_Instr.cells l)]) a467.Progs),I a467.Tasks,I a467.Fds,V.sl 1 (rws (fun n=>[I n]) a467.Sems),I a463.Now,V.sl 1 (rws (fun n=>[V.int .u8 n]) a463.Dice.L),I a463.Dice.At,V.sl 1 (rws (fun n=>[I n]) a463.Ids.Gen),V.sl 1 (rws (fun b=>[V.bool b]) a463.Ids.Live),V.sl 11 (rws api_Task.cells a463.T),V.sl 1 (rws (fun n=>[I n]) a463.Mem),V.sl 1 (rws (fun n=>[I n]) a463.Lists.Next),V.sl 1 (rws (fun n=>[I n]) a463.Lists.Head),V.sl 1 (rws (fun n=>[I n]) a463.Lists.Tail),V.sl 5 (rws api_Tenant.cells a463.Ten),V.sl 2 (rws api_Timer.cells a463.Heap),V.sl 3 (rws api_Fd.cells a463.Fds),V.sl 2 (rws api_Sem.cells a463.Sems),V.sl 2 (rws api_Join.cells a463.Joins),V.sl 1 (rws (fun n=>[I n]) a463.Idle.Is),V.sl 1 (rws (fun n=>[I n]) a463.Idle.Stack),V.sl 14 (rws api_Worker.cells a463.W),V.bool a463.Down,V.sl 3 (rws api_Event.cells a463.Seen)])],[],[]⟩) h covA ?_
  intro v472 ohr14243 h hr14243
  rw [crew_Check_s2] at h
  refine .go 1 ?_
  refine .ifC h (fun hc14244 h=>?_) (fun hc14244 h=>?_)
  ·refine .go 4 ?_
   refine bindG h ?_
   intro x473 he14246 h
   refine .cP (crew_checker_task_sc (crew_checker.mk a467 a463) v472 _ he14246) ?_
   refine .go 1 ?_
   refine .ifC h (fun hc14247 h=>?_) (fun hc14247 h=>?_)
   ·refine .go 1 ?_
    replace h:=inr_out h hr14243
    cases h
    exact retF
   ·refine .go 2 ?_
    exact lpK ⟨_,next_out h,covA⟩
  ·refine .go 0 ?_
   replace h:=inr_out h hr14243
   refine .go 2 ?_
   refine .len ?_
   refine .go 1 ?_
   refine Safe.loopS (fun(v470:Int)=>⟨Tryz.f20.ntmps,[(3,V.ptr [3] 0 0),(5,V.ptr [5] 0 0),(32,I (a463.Ten.length:Int)),(33,I v470)],[([3],Obj.box a463.cells),([5],Obj.box [I a467.Workers,I a467.Cap,I a467.Budget,V.sl 1 (rws (fun n=>[I n]) a467.Weights),V.sl 1 (rws (fun n=>[I n]) a467.Quotas),V.sl 1 (rws (fun l=>[V.sl 3 (rws api_Instr.cells l)]) a467.Progs),I a467.Tasks,I a467.Fds,V.sl 1 (rws (fun n=>[I n]) a467.Sems),I a463.Now,V.sl 1 (rws (fun n=>[V.int .u8 n]) a463.Dice.L),I a463.Dice.At,V.sl 1 (rws (fun n=>[I n]) a463.Ids.Gen),V.sl 1 (rws (fun b=>[V.bool b]) a463.Ids.Live),V.sl 11 (rws api_Task.cells a463.T),V.sl 1 (rws (fun n=>[I n]) a463.Mem),V.sl 1 (rws (fun n=>[I n]) a463.Lists.Next),V.sl 1 (rws (fun n=>[I n]) a463.Lists.Head),V.sl 1 (rws (fun n=>[I n]) a463.Lists.Tail),V.sl 5 (rws api_Tenant.cells a463.Ten),V.sl 2 (rws api_Timer.cells a463.Heap),V.sl 3 (rws api_Fd.cells a463.Fds),V.sl 2 (rws api_Sem.cells a463.Sems),V.sl 2 (rws api_Join.cells a463.Joins),V.sl 1 (rws (fun n=>[I n]) a463.Idle.Is),V.sl 1 (rws (fun n=>[I n]) a463.Idle.Stack),V.sl 14 (rws api_Worker.cells a463.W),V.bool a463.Down,V.sl 3 (rws api_Event.cells a463.Seen)])],[],[]⟩) h covA ?_
   intro v470 ohr14273 h hr14273
   rw [crew_Check_s4] at h
   refine .go 1 ?_
   refine .ifC h (fun hc14274 h=>?_) (fun hc14274 h=>?_)
   ·refine .go 4 ?_
    refine bindG h ?_
    intro x471 he14276 h
    refine .cP (crew_checker_list_sc (crew_checker.mk a467 a463) v470 _ he14276) ?_
    refine .go 1 ?_
    refine .ifC h (fun hc14277 h=>?_) (fun hc14277 h=>?_)
    ·refine .go 1 ?_
     replace h:=inr_out h hr14273
     cases h
     exact retF
    ·refine .go 2 ?_
     exact lpK ⟨_,next_out h,covA⟩
   ·refine .go 0 ?_
    replace h:=inr_out h hr14273
    refine .go 0 ?_
    refine SafeOps.quiet1 E_good rfl rfl rfl (.mkMapM (fun n:Int=>I n) (fun b:Bool=>V.bool b)) rfl ?_
    refine .go 3 ?_
    refine .len ?_
    refine .go 1 ?_
    refine Safe.loopS (fun((v464,v468):Int×(List (Int×Bool)))=>⟨Tryz.f20.ntmps,[(5,V.ptr [5] 0 0),(8,V.mapr [41]),(43,V.sl 14 (rws api_Worker.cells a463.W)),(44,I (a463.W.length:Int)),(45,I v464)],[([5],Obj.box [I a467.Workers,I a467.Cap,I a467.Budget,V.sl 1 (rws (fun n=>[I n]) a467.Weights),V.sl 1 (rws (fun n=>[I n]) a467.Quotas),V.sl 1 (rws (fun l=>[V.sl 3 (rws api_Instr.cells l)]) a467.Progs),I a467.Tasks,I a467.Fds,V.sl 1 (rws (fun n=>[I n]) a467.Sems),I a463.Now,V.sl 1 (rws (fun n=>[V.int .u8 n]) a463.Dice.L),I a463.Dice.At,V.sl 1 (rws (fun n=>[I n]) a463.Ids.Gen),V.sl 1 (rws (fun b=>[V.bool b]) a463.Ids.Live),V.sl 11 (rws api_Task.cells a463.T),V.sl 1 (rws (fun n=>[I n]) a463.Mem),V.sl 1 (rws (fun n=>[I n]) a463.Lists.Next),V.sl 1 (rws (fun n=>[I n]) a463.Lists.Head),V.sl 1 (rws (fun n=>[I n]) a463.Lists.Tail),V.sl 5 (rws api_Tenant.cells a463.Ten),V.sl 2 (rws api_Timer.cells a463.Heap),V.sl 3 (rws api_Fd.cells a463.Fds),V.sl 2 (rws api_Sem.cells a463.Sems),V.sl 2 (rws api_Join.cells a463.Joins),V.sl 1 (rws (fun n=>[I n]) a463.Idle.Is),V.sl 1 (rws (fun n=>[I n]) a463.Idle.Stack),V.sl 14 (rws api_Worker.cells a463.W),V.bool a463.Down,V.sl 3 (rws api_Event.cells a463.Seen)]),([41],Go.AM.Obj.map (mps (fun n:Int=>I n) (fun b:Bool=>V.bool b) v468))],[],[]⟩) h covA ?_
    rintro ⟨v464,v468⟩ ohr14316 h hr14316
    rw [crew_Check_s7] at h
    refine .go 1 ?_
    refine .ifC h (fun hc14317 h=>?_) (fun hc14317 h=>?_)
    ·refine .go 1 ?_
     refine okG h (fun hb14318 h=>?_)
     refine .ix hb14318 ?_
     refine .ld hb14318 ?_
     refine .go 5 ?_
     refine bindG h ?_
     intro x469 he14320 h
     refine .cP (crew_checker_worker_sc (crew_checker.mk a467 a463) v464 _ he14320) ?_
     refine .go 1 ?_
     refine .ifC h (fun hc14321 h=>?_) (fun hc14321 h=>?_)
     ·refine .go 1 ?_
      replace h:=inr_out h hr14316
      cases h
      exact retF
     ·refine .go 6 ?_
      refine Safe.loopS (fun((v465,v466):Int×(List (Int×Bool)))=>⟨Tryz.f20.ntmps,[(5,V.ptr [5] 0 0),(8,V.mapr [41]),(43,V.sl 14 (rws api_Worker.cells a463.W)),(44,I (a463.W.length:Int)),(45,I v464),(58,V.agg [I ((gt a463.W v464).Task),I ((gt a463.W v464).Kid)]),(59,I v465)],[([5],Obj.box [I a467.Workers,I a467.Cap,I a467.Budget,V.sl 1 (rws (fun n=>[I n]) a467.Weights),V.sl 1 (rws (fun n=>[I n]) a467.Quotas),V.sl 1 (rws (fun l=>[V.sl 3 (rws api_Instr.cells l)]) a467.Progs),I a467.Tasks,I a467.Fds,V.sl 1 (rws (fun n=>[I n]) a467.Sems),I a463.Now,V.sl 1 (rws (fun n=>[V.int .u8 n]) a463.Dice.L),I a463.Dice.At,V.sl 1 (rws (fun n=>[I n]) a463.Ids.Gen),V.sl 1 (rws (fun b=>[V.bool b]) a463.Ids.Live),V.sl 11 (rws api_Task.cells a463.T),V.sl 1 (rws (fun n=>[I n]) a463.Mem),V.sl 1 (rws (fun n=>[I n]) a463.Lists.Next),V.sl 1 (rws (fun n=>[I n]) a463.Lists.Head),V.sl 1 (rws (fun n=>[I n]) a463.Lists.Tail),V.sl 5 (rws api_Tenant.cells a463.Ten),V.sl 2 (rws api_Timer.cells a463.Heap),V.sl 3 (rws api_Fd.cells a463.Fds),V.sl 2 (rws api_Sem.cells a463.Sems),V.sl 2 (rws api_Join.cells a463.Joins),V.sl 1 (rws (fun n=>[I n]) a463.Idle.Is),V.sl 1 (rws (fun n=>[I n]) a463.Idle.Stack),V.sl 14 (rws api_Worker.cells a463.W),V.bool a463.Down,V.sl 3 (rws api_Event.cells a463.Seen)]),([41],Go.AM.Obj.map (mps (fun n:Int=>I n) (fun b:Bool=>V.bool b) v466))],[],[]⟩) h covA ?_
      rintro ⟨v465,v466⟩ ohr14330 h hr14330
      rw [crew_Check_s8] at h
      refine .go 1 ?_
      refine .ifC h (fun hc14331 h=>?_) (fun hc14331 h=>?_)
      ·refine .go 0 ?_
       refine okG h (fun hb14332 h=>?_)
       refine Q0 E_good rfl (v:=I (if v465=0 then (gt a463.W v464).Task else (gt a463.W v464).Kid)) (.idxVM (us:=[I (if v465=0 then (gt a463.W v464).Task else (gt a463.W v464).Kid)]) rfl rfl rfl rfl rfl 2 rfl hb14332 (by have hq:v465=0∨v465=1:=(by omega);rcases hq with hq|hq<;>simp only [hq]<;>rfl) rfl) ?_
       refine .go 3 ?_
       refine Q0 E_good rfl (v:=V.bool ((mget v466 (if v465=0 then (gt a463.W v464).Task else (gt a463.W v464).Kid)).getD false)) (.lookM (fv:=(fun b:Bool=>V.bool b)) (m:=v466) (kk:=(if v465=0 then (gt a463.W v464).Task else (gt a463.W v464).Kid)) (z0:=false) (keyI .i64) rfl rfl rfl rfl rfl rfl rfl rfl rfl rfl) ?_
       refine .go 0 ?_
       refine .ifC h (fun hc14333 h=>?_) (fun hc14333 h=>?_)
       ·refine .go 1 ?_
        replace h:=inr_out h hr14330
        replace h:=inr_out h hr14316
        cases h
        exact retF
       ·refine .go 4 ?_
        refine SafeOps.mputM (fun n:Int=>I n) (fun b:Bool=>V.bool b) v466 (if v465=0 then (gt a463.W v464).Task else (gt a463.W v464).Kid) ((if v465=0 then (gt a463.W v464).Task else (gt a463.W v464).Kid) != (-1)) E_good (keyI .i64) rfl (.inl rfl) rfl rfl rfl rfl rfl rfl rfl rfl rfl ?_
        refine .go 2 ?_
        exact lpK ⟨_,next_out h,covA⟩
      ·refine .go 0 ?_
       replace h:=inr_out h hr14330
       refine .go 2 ?_
       exact lpK ⟨_,next_out h,covA⟩
    ·refine .go 0 ?_
     replace h:=inr_out h hr14316
     refine .go 1 ?_
     cases h
     exact retF
theorem drain_measure_full_b_si_2 (r475:(List (List api_Instr))→Int→(List (Int×Int))→Option (Int×(List (Int×Int)))) (HR_rec_14348:∀(a476:List (List api_Instr)) (a477:Int) (m478:List (Int×Int)) (r:Int×(List (Int×Int))),r475 a476 a477 m478=some r→SI Tryz.prog gl 17 [V.agg [V.sl 1 (rws (fun l=>[V.sl 3 (rws api_Instr.cells l)]) a476),V.mapr [20]],I a477] [([20],Go.AM.Obj.map (mps (fun n:Int=>I n) (fun n:Int=>I n) m478))] [([20],Go.AM.Obj.map (mps (fun n:Int=>I n) (fun n:Int=>I n) r.2))] (I r.1)) (a476:List (List api_Instr)) (a477:Int) (m478:List (Int×Int)) (r:Int×(List (Int×Int))) (h:drain_measure_full_b r475 a476 a477 m478=some r):SI Tryz.prog gl 17 [V.agg [V.sl 1 (rws (fun l=>[V.sl 3 (rws api_Instr.cells l)]) a476),V.mapr [20]],I a477] [([20],Go.AM.Obj.map (mps (fun n:Int=>I n) (fun n:Int=>I n) m478))] [([20],Go.AM.Obj.map (mps (fun n:Int=>I n) (fun n:Int=>I n) r.2))] (I r.1):=by
 rw [drain_measure_full_b] at h
 refine SI.of (pa:=[9999]) E_good Tryz.func17 rfl (fun _ _=>Tryz.call17 _ _) rfl (.map .nil) rfl rfl rfl ?_
 refine .go0 5 ?_
 refine Q0 E_good rfl (v:=V.tup [I ((mget m478 a477).getD 0),V.bool ((mget m478 a477).isSome)]) (.lookM2 (fv:=(fun n:Int=>I n)) (m:=m478) (kk:=a477) (z0:=0) (keyI .i64) rfl rfl rfl rfl rfl rfl rfl rfl rfl rfl) ?_
 refine .go 6 ?_
 refine .ifC h (fun hc14349 h=>?_) (fun hc14349 h=>?_)
 ·refine .go 2 ?_
  cases h
  refine siQ.gen (vs:=[I ((mget m478 a477).getD 0)]) rfl (.tmp (v:=I ((mget m478 a477).getD 0)) rfl .nil) rfl rfl ?_ (.inr rfl)
  exact ⟨rfl,trivial⟩
 ·refine .go 3 ?_
  refine okG h (fun hb14350 h=>?_)
  refine .ix hb14350 ?_
  refine .ld hb14350 ?_
  refine bindG h ?_
  rintro ⟨x479,x480⟩ he14353 h
  refine .cP (code_Units_sc (gt a476 a477) _ he14353) ?_
  refine .go 7 ?_
  refine .ifC h (fun hc14354 h=>?_) (fun hc14354 h=>?_)
  ·refine .go 1 ?_
   cases h
   refine siQ.gen (vs:=[I 1099511627777]) rfl (.tmp (v:=I 1099511627777) rfl .nil) rfl rfl ?_ (.inr rfl)
   exact ⟨rfl,trivial⟩
  ·refine .go 0 ?_
   refine Safe.regionD (n:=12) [] [8] E_good mixed rfl ?_
   refine rA 8 (up 2 4) ?_
   refine okG h (fun hb14355 h=>?_)
   refine DT 6 [] rfl rfl (v:=V.spt 1 (rws (fun l=>[V.sl 3 (rws api_Instr.cells l)]) a476) (Int.toNat a477) 0) (fun _ hz=>(.idxSlM (f:=(fun l=>[V.sl 3 (rws api_Instr.cells l)])) rfl rfl rfl rfl rfl hb14355)) ?_
   refine DT 7 [] rfl rfl (v:=V.sl 3 (rws api_Instr.cells (gt a476 a477))) (fun _ hz=>(.load rfl rfl (.sptM (f:=(fun l=>[V.sl 3 (rws api_Instr.cells l)])) hb14355 rfl) rfl)) ?_
   refine DAny.fork (i:=0) (j:=8) rfl rfl (by kernel_rfl) ?_ ?_
   ·refine .quiet (v:=I x479) (nw:=[]) rfl rfl rfl (.fn rfl) rfl ?_
    refine DAny.fork (i:=1) (j:=8) rfl rfl (by kernel_rfl) ?_ ?_
    ·refine .quiet (v:=I (IntKind.i64.wrap (x479+1))) (nw:=[]) rfl rfl rfl (.fn rfl) rfl ?_
     refine DAny.onlyS (i:=8) rfl (by kernel_rfl) rfl ?_
     refine .go0 0 ?_
     refine .joinR 1 (fun((v481,v482):Int×(List (Int×Int)))=>drain_measure_full_b_j2 a477 x479 v481 v482=some r) (fun((v481,v482):Int×(List (Int×Int)))=>⟨Tryz.f17.ntmps,[(1,I a477),(2,V.ptr [9999,2] 0 0),(31,I (IntKind.i64.wrap (x479+1))),(38,I v481)],[([20],Go.AM.Obj.map (mps (fun n:Int=>I n) (fun n:Int=>I n) v482)),([9999,2],Obj.box [V.sl 1 (rws (fun l=>[V.sl 3 (rws api_Instr.cells l)]) a476),V.mapr [20]])],[(1,[(0,V.mapr [20])])],[9999]⟩) ?_ (fun HJ14386=>?_)
     ·rintro ⟨v481,v482⟩ h
      dsimp only at h
      rw [drain_measure_full_b_j2] at h
      refine .go 0 ?_
      refine oNil ?_
      refine rA 0 (up 9 3) ?_
      refine DAny.nil (by kernel_rfl) ?_
      refine .go 4 ?_
      refine SafeOps.mputM (fun n:Int=>I n) (fun n:Int=>I n) v482 a477 (if 1099511627777 < (IntKind.i64.wrap ((IntKind.i64.wrap (x479+1))+v481)) then 1099511627777 else IntKind.i64.wrap ((IntKind.i64.wrap (x479+1))+v481)) E_good (keyI .i64) rfl (.inl rfl) rfl rfl rfl rfl rfl rfl rfl rfl rfl ?_
      refine .go 2 ?_
      cases h
      refine siQ.gen (vs:=[I (if 1099511627777 < (IntKind.i64.wrap ((IntKind.i64.wrap (x479+1))+v481)) then 1099511627777 else IntKind.i64.wrap ((IntKind.i64.wrap (x479+1))+v481))]) rfl (.tmp (v:=I (if 1099511627777 < (IntKind.i64.wrap ((IntKind.i64.wrap (x479+1))+v481)) then 1099511627777 else IntKind.i64.wrap ((IntKind.i64.wrap (x479+1))+v481))) rfl .nil) rfl rfl ?_ (.inr rfl)
      exact ⟨rfl,trivial⟩
     ·refine .inl Tryz.func22 Tryz.call22 3 ?_
      refine .len ?_
      refine .go 1 ?_
      refine Safe.loopS (fun((v483,v484,v485):Int×Int×(List (Int×Int)))=>⟨Tryz.f22.ntmps,[(2,V.ptr [9999,38,2] 0 0),(4,I v483),(7,V.sl 3 (rws api_Instr.cells (gt a476 a477))),(8,I ((gt a476 a477).length:Int)),(9,I v484)],[([20],Go.AM.Obj.map (mps (fun n:Int=>I n) (fun n:Int=>I n) v485)),([9999,2],Obj.box [V.sl 1 (rws (fun l=>[V.sl 3 (rws api_Instr.cells l)]) a476),V.mapr [20]]),([9999,38,2],Obj.box [V.sl 1 (rws (fun l=>[V.sl 3 (rws api_Instr.cells l)]) a476),V.mapr [20]])],[(Tryz.f17.ntmps,[(1,I a477),(2,V.ptr [9999,2] 0 0),(31,I (IntKind.i64.wrap (x479+1)))]),(1,[(0,V.mapr [20])])],[9999,38]⟩) h covA ?_
      rintro ⟨v483,v484,v485⟩ ohr14407 h hr14407
      rw [drain_measure_full_b_s3] at h
      refine .go 1 ?_
      refine .ifC h (fun hc14408 h=>?_) (fun hc14408 h=>?_)
      ·refine .go 0 ?_
       refine okG h (fun hb14409 h=>?_)
       refine .ix hb14409 ?_
       refine .ld hb14409 ?_
       refine .go 6 ?_
       refine .ifC h (fun hc14410 h=>?_) (fun hc14410 h=>?_)
       ·refine .goN 3 ?_
        replace h:=inr_out h hr14407
        exact .got (HJ14386 (v483,v485) h) covA
       ·refine .go 2 ?_
        refine .ifC h (fun hc14411 h=>?_) (fun hc14411 h=>?_)
        ·refine .go 4 ?_
         refine bindG h ?_
         rintro ⟨x486,m487⟩ he14414 h
         refine SafeOps.callI (obs:=[([20],Go.AM.Obj.map (mps (fun n:Int=>I n) (fun n:Int=>I n) v485))]) (obs':=[([20],Go.AM.Obj.map (mps (fun n:Int=>I n) (fun n:Int=>I n) m487))]) rfl rfl rfl rfl rfl (HR_rec_14348 a476 ((gt (gt a476 a477) v484).A) v485 _ he14414) (.map .nil) rfl ⟨rfl,trivial⟩ rfl rfl ?_
         refine .go 5 ?_
         exact lpK ⟨_,next_out h,covA⟩
        ·refine .go 2 ?_
         exact lpK ⟨_,next_out h,covA⟩
      ·refine .go 0 ?_
       replace h:=inr_out h hr14407
       refine .goN 3 ?_
       exact .got (HJ14386 (v483,v485) h) covA
    ·refine .other rfl ?_
     refine .go0 0 ?_
     refine .joinR 1 (fun((v481,v482):Int×(List (Int×Int)))=>drain_measure_full_b_j2 a477 x479 v481 v482=some r) (fun((v481,v482):Int×(List (Int×Int)))=>⟨Tryz.f17.ntmps,[(1,I a477),(2,V.ptr [9999,2] 0 0),(30,I x479),(38,I v481)],[([20],Go.AM.Obj.map (mps (fun n:Int=>I n) (fun n:Int=>I n) v482)),([9999,2],Obj.box [V.sl 1 (rws (fun l=>[V.sl 3 (rws api_Instr.cells l)]) a476),V.mapr [20]])],[(1,[(0,V.mapr [20])])],[9999]⟩) ?_ (fun HJ14386=>?_)
     ·rintro ⟨v481,v482⟩ h
      dsimp only at h
      rw [drain_measure_full_b_j2] at h
      refine .go 0 ?_
      refine oNil ?_
      refine rA 0 [1,9,10,11] ?_
      refine DAny.nil (by kernel_rfl) ?_
      refine .go 4 ?_
      refine SafeOps.mputM (fun n:Int=>I n) (fun n:Int=>I n) v482 a477 (if 1099511627777 < (IntKind.i64.wrap ((IntKind.i64.wrap (x479+1))+v481)) then 1099511627777 else IntKind.i64.wrap ((IntKind.i64.wrap (x479+1))+v481)) E_good (keyI .i64) rfl (.inl rfl) rfl rfl rfl rfl rfl rfl rfl rfl rfl ?_
      refine .go 2 ?_
      cases h
      refine siQ.gen (vs:=[I (if 1099511627777 < (IntKind.i64.wrap ((IntKind.i64.wrap (x479+1))+v481)) then 1099511627777 else IntKind.i64.wrap ((IntKind.i64.wrap (x479+1))+v481))]) rfl (.tmp (v:=I (if 1099511627777 < (IntKind.i64.wrap ((IntKind.i64.wrap (x479+1))+v481)) then 1099511627777 else IntKind.i64.wrap ((IntKind.i64.wrap (x479+1))+v481))) rfl .nil) rfl rfl ?_ (.inr rfl)
      exact ⟨rfl,trivial⟩
     ·refine .inl Tryz.func22 Tryz.call22 3 ?_
      refine .len ?_
      refine .go 1 ?_
      refine Safe.loopS (fun((v483,v484,v485):Int×Int×(List (Int×Int)))=>⟨Tryz.f22.ntmps,[(2,V.ptr [9999,38,2] 0 0),(4,I v483),(7,V.sl 3 (rws api_Instr.cells (gt a476 a477))),(8,I ((gt a476 a477).length:Int)),(9,I v484)],[([20],Go.AM.Obj.map (mps (fun n:Int=>I n) (fun n:Int=>I n) v485)),([9999,2],Obj.box [V.sl 1 (rws (fun l=>[V.sl 3 (rws api_Instr.cells l)]) a476),V.mapr [20]]),([9999,38,2],Obj.box [V.sl 1 (rws (fun l=>[V.sl 3 (rws api_Instr.cells l)]) a476),V.mapr [20]])],[(Tryz.f17.ntmps,[(1,I a477),(2,V.ptr [9999,2] 0 0),(30,I x479)]),(1,[(0,V.mapr [20])])],[9999,38]⟩) h covA ?_
      rintro ⟨v483,v484,v485⟩ ohr14407 h hr14407
      rw [drain_measure_full_b_s3] at h
      refine .go 1 ?_
      refine .ifC h (fun hc14408 h=>?_) (fun hc14408 h=>?_)
      ·refine .go 0 ?_
       refine okG h (fun hb14409 h=>?_)
       refine .ix hb14409 ?_
       refine .ld hb14409 ?_
       refine .go 6 ?_
       refine .ifC h (fun hc14410 h=>?_) (fun hc14410 h=>?_)
       ·refine .goN 3 ?_
        replace h:=inr_out h hr14407
        exact .got (HJ14386 (v483,v485) h) covA
       ·refine .go 2 ?_
        refine .ifC h (fun hc14411 h=>?_) (fun hc14411 h=>?_)
        ·refine .go 4 ?_
         refine bindG h ?_
         rintro ⟨x486,m487⟩ he14414 h
         refine SafeOps.callI (obs:=[([20],Go.AM.Obj.map (mps (fun n:Int=>I n) (fun n:Int=>I n) v485))]) (obs':=[([20],Go.AM.Obj.map (mps (fun n:Int=>I n) (fun n:Int=>I n) m487))]) rfl rfl rfl rfl rfl (HR_rec_14348 a476 ((gt (gt a476 a477) v484).A) v485 _ he14414) (.map .nil) rfl ⟨rfl,trivial⟩ rfl rfl ?_
         refine .go 5 ?_
         exact lpK ⟨_,next_out h,covA⟩
        ·refine .go 2 ?_
         exact lpK ⟨_,next_out h,covA⟩
      ·refine .go 0 ?_
       replace h:=inr_out h hr14407
       refine .goN 3 ?_
       exact .got (HJ14386 (v483,v485) h) covA
   ·refine .other rfl ?_
    refine .go0 0 ?_
    refine .joinR 1 (fun((v481,v482):Int×(List (Int×Int)))=>drain_measure_full_b_j2 a477 x479 v481 v482=some r) (fun((v481,v482):Int×(List (Int×Int)))=>⟨Tryz.f17.ntmps,[(1,I a477),(2,V.ptr [9999,2] 0 0),(7,I x479),(38,I v481)],[([20],Go.AM.Obj.map (mps (fun n:Int=>I n) (fun n:Int=>I n) v482)),([9999,2],Obj.box [V.sl 1 (rws (fun l=>[V.sl 3 (rws api_Instr.cells l)]) a476),V.mapr [20]])],[(1,[(0,V.mapr [20])])],[9999]⟩) ?_ (fun HJ14386=>?_)
    ·rintro ⟨v481,v482⟩ h
     dsimp only at h
     rw [drain_measure_full_b_j2] at h
     refine .go 0 ?_
     refine oNil ?_
     refine rA 0 [0,1,9,10,11] ?_
     refine DAny.nil (by kernel_rfl) ?_
     refine .go 4 ?_
     refine SafeOps.mputM (fun n:Int=>I n) (fun n:Int=>I n) v482 a477 (if 1099511627777 < (IntKind.i64.wrap ((IntKind.i64.wrap (x479+1))+v481)) then 1099511627777 else IntKind.i64.wrap ((IntKind.i64.wrap (x479+1))+v481)) E_good (keyI .i64) rfl (.inl rfl) rfl rfl rfl rfl rfl rfl rfl rfl rfl ?_
     refine .go 2 ?_
     cases h
     refine siQ.gen (vs:=[I (if 1099511627777 < (IntKind.i64.wrap ((IntKind.i64.wrap (x479+1))+v481)) then 1099511627777 else IntKind.i64.wrap ((IntKind.i64.wrap (x479+1))+v481))]) rfl (.tmp (v:=I (if 1099511627777 < (IntKind.i64.wrap ((IntKind.i64.wrap (x479+1))+v481)) then 1099511627777 else IntKind.i64.wrap ((IntKind.i64.wrap (x479+1))+v481))) rfl .nil) rfl rfl ?_ (.inr rfl)
     exact ⟨rfl,trivial⟩
    ·refine .inl Tryz.func22 Tryz.call22 3 ?_
     refine .len ?_
     refine .go 1 ?_
     refine Safe.loopS (fun((v483,v484,v485):Int×Int×(List (Int×Int)))=>⟨Tryz.f22.ntmps,[(2,V.ptr [9999,38,2] 0 0),(4,I v483),(7,V.sl 3 (rws api_Instr.cells (gt a476 a477))),(8,I ((gt a476 a477).length:Int)),(9,I v484)],[([20],Go.AM.Obj.map (mps (fun n:Int=>I n) (fun n:Int=>I n) v485)),([9999,2],Obj.box [V.sl 1 (rws (fun l=>[V.sl 3 (rws api_Instr.cells l)]) a476),V.mapr [20]]),([9999,38,2],Obj.box [V.sl 1 (rws (fun l=>[V.sl 3 (rws api_Instr.cells l)]) a476),V.mapr [20]])],[(Tryz.f17.ntmps,[(1,I a477),(2,V.ptr [9999,2] 0 0),(7,I x479)]),(1,[(0,V.mapr [20])])],[9999,38]⟩) h covA ?_
     rintro ⟨v483,v484,v485⟩ ohr14407 h hr14407
     rw [drain_measure_full_b_s3] at h
     refine .go 1 ?_
     refine .ifC h (fun hc14408 h=>?_) (fun hc14408 h=>?_)
     ·refine .go 0 ?_
      refine okG h (fun hb14409 h=>?_)
      refine .ix hb14409 ?_
      refine .ld hb14409 ?_
      refine .go 6 ?_
      refine .ifC h (fun hc14410 h=>?_) (fun hc14410 h=>?_)
      ·refine .goN 3 ?_
       replace h:=inr_out h hr14407
       exact .got (HJ14386 (v483,v485) h) covA
      ·refine .go 2 ?_
       refine .ifC h (fun hc14411 h=>?_) (fun hc14411 h=>?_)
       ·refine .go 4 ?_
        refine bindG h ?_
        rintro ⟨x486,m487⟩ he14414 h
        refine SafeOps.callI (obs:=[([20],Go.AM.Obj.map (mps (fun n:Int=>I n) (fun n:Int=>I n) v485))]) (obs':=[([20],Go.AM.Obj.map (mps (fun n:Int=>I n) (fun n:Int=>I n) m487))]) rfl rfl rfl rfl rfl (HR_rec_14348 a476 ((gt (gt a476 a477) v484).A) v485 _ he14414) (.map .nil) rfl ⟨rfl,trivial⟩ rfl rfl ?_
        refine .go 5 ?_
        exact lpK ⟨_,next_out h,covA⟩
       ·refine .go 2 ?_
        exact lpK ⟨_,next_out h,covA⟩
     ·refine .go 0 ?_
      replace h:=inr_out h hr14407
      refine .goN 3 ?_
      exact .got (HJ14386 (v483,v485) h) covA
theorem drain_measure_full_si_2:∀(n:Nat) (a476:List (List api_Instr)) (a477:Int) (m478:List (Int×Int)) (r:Int×(List (Int×Int))),drain_measure_full n a476 a477 m478=some r→SI Tryz.prog gl 17 [V.agg [V.sl 1 (rws (fun l=>[V.sl 3 (rws api_Instr.cells l)]) a476),V.mapr [20]],I a477] [([20],Go.AM.Obj.map (mps (fun n:Int=>I n) (fun n:Int=>I n) m478))] [([20],Go.AM.Obj.map (mps (fun n:Int=>I n) (fun n:Int=>I n) r.2))] (I r.1)
 | 0,_,_,_,_,h=>by cases h
 | n+1,a476,a477,m478,r,h=>drain_measure_full_b_si_2 (drain_measure_full n) (drain_measure_full_si_2 n) a476 a477 m478 r h
theorem step_Left_1_sc (a488:api_Instr) (r:Bool) (h:step_Left_1 a488=r):SC Tryz.prog gl 37 [V.agg a488.cells] (V.bool r):=by
 rw [step_Left_1] at h
 refine SC.go Tryz.func37 Tryz.call37 6 ?_
 cases h
 exact retF
theorem slices_IndexFunc_api_Instr_api_Instr_137_sc (a489:List api_Instr) (r:Int) (h:slices_IndexFunc_api_Instr_api_Instr_137 a489=some r):SC Tryz.prog gl 80 [V.sl 3 (rws api_Instr.cells a489),V.fn 37 []] (I r):=by
 rw [slices_IndexFunc_api_Instr_api_Instr_137] at h
 refine SC.go Tryz.func80 Tryz.call80 2 ?_
 refine .len ?_
 refine .go 1 ?_
 refine Safe.loopS (fun(v490:Int)=>⟨Tryz.f80.ntmps,[(0,V.sl 3 (rws api_Instr.cells a489)),(1,V.fn 37 []),(7,I (a489.length:Int)),(8,I v490)],[],[],[]⟩) h covA ?_
 intro v490 ohr14456 h hr14456
 rw [slices_IndexFunc_api_Instr_api_Instr_137_s1] at h
 refine .go 1 ?_
 refine .ifC h (fun hc14457 h=>?_) (fun hc14457 h=>?_)
 ·refine .go 5 ?_
  refine okG h (fun hb14458 h=>?_)
  refine .ix hb14458 ?_
  refine .ld hb14458 ?_
  refine .cP (step_Left_1_sc (gt a489 v490) _ rfl) ?_
  refine .go 0 ?_
  refine .ifC h (fun hc14459 h=>?_) (fun hc14459 h=>?_)
  ·refine .go 2 ?_
   replace h:=inr_out h hr14456
   cases h
   exact retF
  ·refine .go 2 ?_
   exact lpK ⟨_,next_out h,covA⟩
 ·refine .go 0 ?_
  replace h:=inr_out h hr14456
  refine .go 1 ?_
  cases h
  exact retF
theorem slices_ContainsFunc_api_Instr_api_Instr_137_sc (a491:List api_Instr) (r:Bool) (h:slices_ContainsFunc_api_Instr_api_Instr_137 a491=some r):SC Tryz.prog gl 38 [V.sl 3 (rws api_Instr.cells a491),V.fn 37 []] (V.bool r):=by
 rw [slices_ContainsFunc_api_Instr_api_Instr_137] at h
 refine SC.go Tryz.func38 Tryz.call38 3 ?_
 refine bindG h ?_
 intro x492 he14463 h
 refine .cP (slices_IndexFunc_api_Instr_api_Instr_137_sc a491 _ he14463) ?_
 refine .go 2 ?_
 cases h
 exact retF
theorem step_Left_sc (a493:api_Task) (a494:List api_Instr) (r:Int×Int) (h:step_Left a493 a494=some r):SC Tryz.prog gl 21 [V.agg a493.cells,V.sl 3 (rws api_Instr.cells a494)] (V.tup [I r.1,I r.2]):=by
 rw [step_Left] at h
 refine SC.go Tryz.func21 Tryz.call21 5 ?_
 refine bindG h ?_
 rintro ⟨x495,x496⟩ he14477 h
 refine .cP (step_Next_sc a493 a494 _ he14477) ?_
 refine .go 8 ?_
 refine .ifC h (fun hc14478 h=>?_) (fun hc14478 h=>?_)
 ·refine .go 3 ?_
  cases h
  exact retF
 ·refine .go 4 ?_
  refine .len ?_
  refine .go 2 ?_
  refine SafeOps.ifD 25 h rfl (fun hc14479 h=>?_) (fun hc14479 h=>?_)
  ·refine .go 10 ?_
   cases h
   exact retF
  ·refine .go 3 ?_
   refine okG h (fun hb14483 h=>?_)
   refine Q0 E_good rfl (v:=V.sl 3 (rws api_Instr.cells (sub a494 0 a493.Pc))) (.slH (f:=api_Instr.cells) rfl rfl rfl rfl rfl hb14483) ?_
   refine .go 1 ?_
   refine bindG h ?_
   intro x497 he14485 h
   refine .cP (slices_ContainsFunc_api_Instr_api_Instr_137_sc (sub a494 0 a493.Pc) _ he14485) ?_
   refine .go 1 ?_
   refine .ifC h (fun hc14486 h=>?_) (fun hc14486 h=>?_)
   ·refine .go 2 ?_
    cases h
    exact retF
   ·refine .go 3 ?_
    refine okG h (fun hb14487 h=>?_)
    refine Q0 E_good rfl (v:=V.sl 3 (rws api_Instr.cells (sub a494 a493.Pc (a494.length:Int)))) (.slL (f:=api_Instr.cells) rfl rfl rfl rfl rfl hb14487) ?_
    refine bindG h ?_
    rintro ⟨x498,x499⟩ he14490 h
    refine .cP (code_Units_sc (sub a494 a493.Pc (a494.length:Int)) _ he14490) ?_
    refine .go 7 ?_
    refine .ifC h (fun hc14491 h=>?_) (fun hc14491 h=>?_)
    ·refine .go 3 ?_
     cases h
     exact retF
    ·refine .go 6 ?_
     cases h
     exact retF
theorem drain_Work_sc (a505:api_Config) (a506:api_World) (r:Int×Int) (h:drain_Work a505 a506=some r):SC Tryz.prog gl 10 [V.agg a505.cells,V.agg a506.cells] (V.tup [I r.1,I r.2]):=by
 rw [drain_Work] at h
 refine SC.go Tryz.func10 Tryz.call10 6 ?_
 refine bindG h ?_
 intro x520 he14823 h
 refine .cP (crew_Check_sc a505 a506 _ he14823) ?_
 refine .go 3 ?_
 refine .ifC h (fun hc14824 h=>?_) (fun hc14824 h=>?_)
 ·refine .go 3 ?_
  cases h
  exact retF
 ·refine .go 2 ?_
  refine SafeOps.quiet1 E_good rfl rfl rfl (.mkMapM (fun n:Int=>I n) (fun n:Int=>I n)) rfl ?_
  refine .go 6 ?_
  refine .len ?_
  refine .go 1 ?_
  refine Safe.loopS (fun((v500,v501,v515):Int×Int×(List (Int×Int)))=>⟨Tryz.f10.ntmps,[(2,V.ptr [2] 0 0),(3,V.ptr [3] 0 0),(4,I v500),(6,V.ptr [6] 0 0),(24,V.sl 1 (rws (fun b=>[V.bool b]) a506.Ids.Live)),(25,I (a506.Ids.Live.length:Int)),(26,I v501)],[([2],Obj.box a505.cells),([3],Obj.box a506.cells),([6],Obj.box [V.sl 1 (rws (fun l=>[V.sl 3 (rws api_Instr.cells l)]) a505.Progs),V.mapr [20]]),([20],Go.AM.Obj.map (mps (fun n:Int=>I n) (fun n:Int=>I n) v515))],[],[]⟩) h covA ?_
  rintro ⟨v500,v501,v515⟩ ohr15113 h hr15113
  rw [drain_Work_s17] at h
  refine .go 1 ?_
  refine .ifC h (fun hc15114 h=>?_) (fun hc15114 h=>?_)
  ·refine .go 1 ?_
   refine okG h (fun hb15115 h=>?_)
   refine .ix hb15115 ?_
   refine .ld hb15115 ?_
   refine .go 4 ?_
   refine .ifC h (fun hc15116 h=>?_) (fun hc15116 h=>?_)
   ·refine .go 2 ?_
    exact lpK ⟨_,next_out h,covA⟩
   ·refine .go 3 ?_
    refine okG h (fun hb15117 h=>?_)
    refine .ix hb15117 ?_
    refine .ld hb15117 ?_
    refine .go 5 ?_
    refine .joinR 1 (fun((v512,v513):Int×(List (Int×Int)))=>drain_Work_j18 a505 a506 v500 v501 v512 v513=some ohr15113) (fun((v512,v513):Int×(List (Int×Int)))=>⟨Tryz.f10.ntmps,[(2,V.ptr [2] 0 0),(3,V.ptr [3] 0 0),(4,I v500),(6,V.ptr [6] 0 0),(9,V.ptr [9] 0 0),(24,V.sl 1 (rws (fun b=>[V.bool b]) a506.Ids.Live)),(25,I (a506.Ids.Live.length:Int)),(26,I v501),(41,I v512)],[([2],Obj.box a505.cells),([3],Obj.box a506.cells),([6],Obj.box [V.sl 1 (rws (fun l=>[V.sl 3 (rws api_Instr.cells l)]) a505.Progs),V.mapr [20]]),([9],Obj.box [I ((gt a506.T v501).Id),I ((gt a506.T v501).Tenant),I ((gt a506.T v501).Prog),I ((gt a506.T v501).Pc),I ((gt a506.T v501).Unit),I ((gt a506.T v501).Keeps.a0),I ((gt a506.T v501).Keeps.a1),I ((gt a506.T v501).Keeps.a2),I ((gt a506.T v501).Keeps.a3),I ((gt a506.T v501).State),I ((gt a506.T v501).Ran)]),([20],Go.AM.Obj.map (mps (fun n:Int=>I n) (fun n:Int=>I n) v513))],[],[]⟩) ?_ (fun HJ15128=>?_)
    ·rintro ⟨v512,v513⟩ h
     dsimp only at h
     rw [drain_Work_j18] at h
     refine .go 3 ?_
     refine .ifC h (fun hc15129 h=>?_) (fun hc15129 h=>?_)
     ·refine .go 3 ?_
      replace h:=inr_out h hr15113
      cases h
      exact retF
     ·refine .go 0 ?_
      refine Safe.regionD (n:=13) [] [] E_good mixed rfl ?_
      refine rA 8 (up 0 5) ?_
      refine okG h (fun hb15130 h=>?_)
      refine DT 5 [] rfl rfl (v:=V.spt 1 (rws (fun l=>[V.sl 3 (rws api_Instr.cells l)]) a505.Progs) (Int.toNat ((gt a506.T v501).Prog)) 0) (fun _ hz=>(.idxSlM (f:=(fun l=>[V.sl 3 (rws api_Instr.cells l)])) rfl rfl rfl rfl rfl hb15130)) ?_
      refine DT 6 [] rfl rfl (v:=V.sl 3 (rws api_Instr.cells (gt a505.Progs ((gt a506.T v501).Prog)))) (fun _ hz=>(.load rfl rfl (.sptM (f:=(fun l=>[V.sl 3 (rws api_Instr.cells l)])) hb15130 rfl) rfl)) ?_
      refine bindG h ?_
      rintro ⟨x502,x514⟩ he15133 h
      refine .cP (step_Left_sc (gt a506.T v501) (gt a505.Progs ((gt a506.T v501).Prog)) _ he15133) 7 ?_
      refine rA 0 (up 8 5) ?_
      refine DAny.nil (by kernel_rfl) ?_
      refine .go 2 ?_
      refine .ifC h (fun hc15134 h=>?_) (fun hc15134 h=>?_)
      ·refine .go 3 ?_
       replace h:=inr_out h hr15113
       cases h
       exact retF
      ·refine .go 7 ?_
       refine .ifC h (fun hc15135 h=>?_) (fun hc15135 h=>?_)
       ·refine .go 0 ?_
        refine Safe.regionD (n:=14) [] [11] E_good mixed rfl ?_
        refine rA 9 (up 1 5) ?_
        refine okG h (fun hb15136 h=>?_)
        refine DT 6 [] rfl rfl (v:=V.spt 1 (rws (fun l=>[V.sl 3 (rws api_Instr.cells l)]) a505.Progs) (Int.toNat ((gt a506.T v501).Prog)) 0) (fun _ hz=>(.idxSlM (f:=(fun l=>[V.sl 3 (rws api_Instr.cells l)])) rfl rfl rfl rfl rfl hb15136)) ?_
        refine DT 7 [] rfl rfl (v:=V.sl 3 (rws api_Instr.cells (gt a505.Progs ((gt a506.T v501).Prog)))) (fun _ hz=>(.load rfl rfl (.sptM (f:=(fun l=>[V.sl 3 (rws api_Instr.cells l)])) hb15136 rfl) rfl)) ?_
        refine rA 5 [8,9] ?_
        refine okG h (fun hb15137 h=>?_)
        refine DT 10 [] rfl rfl (v:=V.sl 3 (rws api_Instr.cells (sub (gt a505.Progs ((gt a506.T v501).Prog)) ((gt a506.T v501).Pc) ((gt a505.Progs ((gt a506.T v501).Prog)).length:Int)))) (fun _ hz=>(.slL (f:=api_Instr.cells) rfl rfl rfl rfl rfl hb15137)) ?_
        refine DAny.fork (i:=0) (j:=11) rfl rfl (by kernel_rfl) ?_ ?_
        ·refine .quiet (v:=I (IntKind.i64.wrap (v500+(IntKind.i64.wrap (x502+1))))) (nw:=[]) rfl rfl rfl (.fn rfl) rfl ?_
         refine DAny.onlyS (i:=11) rfl (by kernel_rfl) rfl ?_
         refine .go0 0 ?_
         refine .joinR 1 (fun((v503,v504):Int×(List (Int×Int)))=>drain_Work_j20 v500 v501 x502 v503 v504=some ohr15113) (fun((v503,v504):Int×(List (Int×Int)))=>⟨Tryz.f10.ntmps,[(2,V.ptr [2] 0 0),(3,V.ptr [3] 0 0),(6,V.ptr [6] 0 0),(24,V.sl 1 (rws (fun b=>[V.bool b]) a506.Ids.Live)),(25,I (a506.Ids.Live.length:Int)),(26,I v501),(65,I (IntKind.i64.wrap (v500+(IntKind.i64.wrap (x502+1))))),(76,I v503)],[([2],Obj.box a505.cells),([3],Obj.box a506.cells),([6],Obj.box [V.sl 1 (rws (fun l=>[V.sl 3 (rws api_Instr.cells l)]) a505.Progs),V.mapr [20]]),([20],Go.AM.Obj.map (mps (fun n:Int=>I n) (fun n:Int=>I n) v504))],[],[]⟩) ?_ (fun HJ15168=>?_)
         ·rintro ⟨v503,v504⟩ h
          dsimp only at h
          rw [drain_Work_j20] at h
          refine .go 0 ?_
          refine oNil ?_
          refine rA 0 [12,13] ?_
          refine DAny.nil (by kernel_rfl) ?_
          refine .go 5 ?_
          exact lpK ⟨_,next_out h,covA⟩
         ·refine .inl Tryz.func22 Tryz.call22 3 ?_
          refine .len ?_
          refine .go 1 ?_
          refine Safe.loopS (fun((v507,v508,v509):Int×Int×(List (Int×Int)))=>⟨Tryz.f22.ntmps,[(2,V.ptr [76,2] 0 0),(4,I v507),(7,V.sl 3 (rws api_Instr.cells (sub (gt a505.Progs ((gt a506.T v501).Prog)) ((gt a506.T v501).Pc) ((gt a505.Progs ((gt a506.T v501).Prog)).length:Int)))),(8,I ((sub (gt a505.Progs ((gt a506.T v501).Prog)) ((gt a506.T v501).Pc) ((gt a505.Progs ((gt a506.T v501).Prog)).length:Int)).length:Int)),(9,I v508)],[([2],Obj.box a505.cells),([3],Obj.box a506.cells),([6],Obj.box [V.sl 1 (rws (fun l=>[V.sl 3 (rws api_Instr.cells l)]) a505.Progs),V.mapr [20]]),([20],Go.AM.Obj.map (mps (fun n:Int=>I n) (fun n:Int=>I n) v509)),([76,2],Obj.box [V.sl 1 (rws (fun l=>[V.sl 3 (rws api_Instr.cells l)]) a505.Progs),V.mapr [20]])],[(Tryz.f10.ntmps,[(2,V.ptr [2] 0 0),(3,V.ptr [3] 0 0),(6,V.ptr [6] 0 0),(24,V.sl 1 (rws (fun b=>[V.bool b]) a506.Ids.Live)),(25,I (a506.Ids.Live.length:Int)),(26,I v501),(65,I (IntKind.i64.wrap (v500+(IntKind.i64.wrap (x502+1)))))])],[76]⟩) h covA ?_
          rintro ⟨v507,v508,v509⟩ ohr15189 h hr15189
          rw [drain_Work_s21] at h
          refine .go 1 ?_
          refine .ifC h (fun hc15190 h=>?_) (fun hc15190 h=>?_)
          ·refine .go 0 ?_
           refine okG h (fun hb15191 h=>?_)
           refine .ix hb15191 ?_
           refine .ld hb15191 ?_
           refine .go 6 ?_
           refine .ifC h (fun hc15192 h=>?_) (fun hc15192 h=>?_)
           ·refine .goN 3 ?_
            replace h:=inr_out h hr15189
            exact .got (HJ15168 (v507,v509) h) covA
           ·refine .go 2 ?_
            refine .ifC h (fun hc15193 h=>?_) (fun hc15193 h=>?_)
            ·refine .go 4 ?_
             refine bindG h ?_
             rintro ⟨x510,m511⟩ he15196 h
             refine SafeOps.callI (obs:=[([20],Go.AM.Obj.map (mps (fun n:Int=>I n) (fun n:Int=>I n) v509))]) (obs':=[([20],Go.AM.Obj.map (mps (fun n:Int=>I n) (fun n:Int=>I n) m511))]) rfl rfl rfl rfl rfl (drain_measure_full_si_2 1000 a505.Progs ((gt (sub (gt a505.Progs ((gt a506.T v501).Prog)) ((gt a506.T v501).Pc) ((gt a505.Progs ((gt a506.T v501).Prog)).length:Int)) v508).A) v509 _ he15196) (.map .nil) rfl ⟨rfl,trivial⟩ rfl rfl ?_
             refine .go 5 ?_
             exact lpK ⟨_,next_out h,covA⟩
            ·refine .go 2 ?_
             exact lpK ⟨_,next_out h,covA⟩
          ·refine .go 0 ?_
           replace h:=inr_out h hr15189
           refine .goN 3 ?_
           exact .got (HJ15168 (v507,v509) h) covA
        ·refine .other rfl ?_
         refine .go0 0 ?_
         refine .joinR 1 (fun((v503,v504):Int×(List (Int×Int)))=>drain_Work_j20 v500 v501 x502 v503 v504=some ohr15113) (fun((v503,v504):Int×(List (Int×Int)))=>⟨Tryz.f10.ntmps,[(2,V.ptr [2] 0 0),(3,V.ptr [3] 0 0),(4,I (IntKind.i64.wrap (v500+(IntKind.i64.wrap (x502+1))))),(6,V.ptr [6] 0 0),(24,V.sl 1 (rws (fun b=>[V.bool b]) a506.Ids.Live)),(25,I (a506.Ids.Live.length:Int)),(26,I v501),(76,I v503)],[([2],Obj.box a505.cells),([3],Obj.box a506.cells),([6],Obj.box [V.sl 1 (rws (fun l=>[V.sl 3 (rws api_Instr.cells l)]) a505.Progs),V.mapr [20]]),([20],Go.AM.Obj.map (mps (fun n:Int=>I n) (fun n:Int=>I n) v504))],[],[]⟩) ?_ (fun HJ15168=>?_)
         ·rintro ⟨v503,v504⟩ h
          dsimp only at h
          rw [drain_Work_j20] at h
          refine .go 0 ?_
          refine oNil ?_
          refine rA 0 [0,12,13] ?_
          refine DAny.nil (by kernel_rfl) ?_
          refine .go 5 ?_
          exact lpK ⟨_,next_out h,covA⟩
         ·refine .inl Tryz.func22 Tryz.call22 3 ?_
          refine .len ?_
          refine .go 1 ?_
          refine Safe.loopS (fun((v507,v508,v509):Int×Int×(List (Int×Int)))=>⟨Tryz.f22.ntmps,[(2,V.ptr [76,2] 0 0),(4,I v507),(7,V.sl 3 (rws api_Instr.cells (sub (gt a505.Progs ((gt a506.T v501).Prog)) ((gt a506.T v501).Pc) ((gt a505.Progs ((gt a506.T v501).Prog)).length:Int)))),(8,I ((sub (gt a505.Progs ((gt a506.T v501).Prog)) ((gt a506.T v501).Pc) ((gt a505.Progs ((gt a506.T v501).Prog)).length:Int)).length:Int)),(9,I v508)],[([2],Obj.box a505.cells),([3],Obj.box a506.cells),([6],Obj.box [V.sl 1 (rws (fun l=>[V.sl 3 (rws api_Instr.cells l)]) a505.Progs),V.mapr [20]]),([20],Go.AM.Obj.map (mps (fun n:Int=>I n) (fun n:Int=>I n) v509)),([76,2],Obj.box [V.sl 1 (rws (fun l=>[V.sl 3 (rws api_Instr.cells l)]) a505.Progs),V.mapr [20]])],[(Tryz.f10.ntmps,[(2,V.ptr [2] 0 0),(3,V.ptr [3] 0 0),(4,I (IntKind.i64.wrap (v500+(IntKind.i64.wrap (x502+1))))),(6,V.ptr [6] 0 0),(24,V.sl 1 (rws (fun b=>[V.bool b]) a506.Ids.Live)),(25,I (a506.Ids.Live.length:Int)),(26,I v501)])],[76]⟩) h covA ?_
          rintro ⟨v507,v508,v509⟩ ohr15189 h hr15189
          rw [drain_Work_s21] at h
          refine .go 1 ?_
          refine .ifC h (fun hc15190 h=>?_) (fun hc15190 h=>?_)
          ·refine .go 0 ?_
           refine okG h (fun hb15191 h=>?_)
           refine .ix hb15191 ?_
           refine .ld hb15191 ?_
           refine .go 6 ?_
           refine .ifC h (fun hc15192 h=>?_) (fun hc15192 h=>?_)
           ·refine .goN 3 ?_
            replace h:=inr_out h hr15189
            exact .got (HJ15168 (v507,v509) h) covA
           ·refine .go 2 ?_
            refine .ifC h (fun hc15193 h=>?_) (fun hc15193 h=>?_)
            ·refine .go 4 ?_
             refine bindG h ?_
             rintro ⟨x510,m511⟩ he15196 h
             refine SafeOps.callI (obs:=[([20],Go.AM.Obj.map (mps (fun n:Int=>I n) (fun n:Int=>I n) v509))]) (obs':=[([20],Go.AM.Obj.map (mps (fun n:Int=>I n) (fun n:Int=>I n) m511))]) rfl rfl rfl rfl rfl (drain_measure_full_si_2 1000 a505.Progs ((gt (sub (gt a505.Progs ((gt a506.T v501).Prog)) ((gt a506.T v501).Pc) ((gt a505.Progs ((gt a506.T v501).Prog)).length:Int)) v508).A) v509 _ he15196) (.map .nil) rfl ⟨rfl,trivial⟩ rfl rfl ?_
             refine .go 5 ?_
             exact lpK ⟨_,next_out h,covA⟩
            ·refine .go 2 ?_
             exact lpK ⟨_,next_out h,covA⟩
          ·refine .go 0 ?_
           replace h:=inr_out h hr15189
           refine .goN 3 ?_
           exact .got (HJ15168 (v507,v509) h) covA
       ·refine .go 5 ?_
        exact lpK ⟨_,next_out h,covA⟩
    ·refine .inl Tryz.func16 Tryz.call16 5 ?_
     refine bindG h ?_
     rintro ⟨x516,x517⟩ he15199 h
     refine .cP (code_Tasks_sc a505.Progs ((gt a506.T v501).Prog) _ he15199) ?_
     refine .go 7 ?_
     refine .ifC h (fun hc15200 h=>?_) (fun hc15200 h=>?_)
     ·refine .goN 3 ?_
      exact .got (HJ15128 (x517,v515) h) covA
     ·refine .go 2 ?_
      refine bindG h ?_
      rintro ⟨x518,m519⟩ he15203 h
      refine SafeOps.callI (obs:=[([20],Go.AM.Obj.map (mps (fun n:Int=>I n) (fun n:Int=>I n) v515))]) (obs':=[([20],Go.AM.Obj.map (mps (fun n:Int=>I n) (fun n:Int=>I n) m519))]) rfl rfl rfl rfl rfl (drain_measure_full_si_2 1000 a505.Progs ((gt a506.T v501).Prog) v515 _ he15203) (.map .nil) rfl ⟨rfl,trivial⟩ rfl rfl ?_
      refine .go 1 ?_
      refine .ifC h (fun hc15204 h=>?_) (fun hc15204 h=>?_)
      ·refine .goN 2 ?_
       exact .got (HJ15128 (4,m519) h) covA
      ·refine .goN 2 ?_
       exact .got (HJ15128 (0,m519) h) covA
  ·refine .go 0 ?_
   replace h:=inr_out h hr15113
   refine .go 2 ?_
   refine .ifC h (fun hc15205 h=>?_) (fun hc15205 h=>?_)
   ·refine .go 2 ?_
    cases h
    exact retF
   ·refine .go 3 ?_
    cases h
    exact retF
theorem r19_in_sc (a521:Int) (a522:Int) (a523:Int) (r:Bool) (h:r19_in a521 a522 a523=r):SC Tryz.prog gl 81 [I a521,I a522,I a523] (V.bool r):=by
 rw [r19_in] at h
 refine SC.go Tryz.func81 Tryz.call81 5 ?_
 refine .bjA 4 14 10 ?_
 refine .go 1 ?_
 cases h
 exact retF
theorem r14_in_sc (a524:Int) (a525:Int) (a526:Int) (r:Bool) (h:r14_in a524 a525 a526=r):SC Tryz.prog gl 88 [I a524,I a525,I a526] (V.bool r):=by
 rw [r14_in] at h
 refine SC.go Tryz.func88 Tryz.call88 5 ?_
 refine .bjA 4 14 10 ?_
 refine .go 1 ?_
 cases h
 exact retF
theorem r14_Check_sc (a527:List api_Tenant) (r:Int) (h:r14_Check a527=some r):SC Tryz.prog gl 43 [V.sl 5 (rws api_Tenant.cells a527)] (I r):=by
 rw [r14_Check] at h
 refine SC.go Tryz.func43 Tryz.call43 2 ?_
 refine .len ?_
 refine .go 2 ?_
 refine SafeOps.bjoinL 4 12 8 rfl (b:=((decide ((a527.length:Int) < 1))||(decide ((a527.length:Int) > 16)))) (b1:=true) (b0:=decide ((a527.length:Int) > 16)) (fun hc15305 K=>?_) (fun hc15305 K=>?_) bj_or ?_
 ·refine rO 4 ?_
  exact SafeOps.drop' 4 rfl rfl rfl K
 ·refine .go 1 ?_
  refine .len ?_
  refine rO 2 ?_
  exact SafeOps.drop' 4 rfl rfl rfl K
 refine .go 0 ?_
 refine .ifC h (fun hc15306 h=>?_) (fun hc15306 h=>?_)
 ·refine .go 1 ?_
  cases h
  exact retF
 ·refine .go 1 ?_
  refine .len ?_
  refine .go 1 ?_
  refine Safe.loopS (fun(v528:Int)=>⟨Tryz.f43.ntmps,[(13,V.sl 5 (rws api_Tenant.cells a527)),(14,I (a527.length:Int)),(15,I v528)],[],[],[]⟩) h covA ?_
  intro v528 ohr15325 h hr15325
  rw [r14_Check_s1] at h
  refine .go 1 ?_
  refine .ifC h (fun hc15326 h=>?_) (fun hc15326 h=>?_)
  ·refine .go 0 ?_
   refine okG h (fun hb15327 h=>?_)
   refine .ix hb15327 ?_
   refine .ld hb15327 ?_
   refine .go 4 ?_
   refine .cP (r14_in_sc ((gt a527 v528).Weight) 1 16 _ rfl) ?_
   refine .go 2 ?_
   refine SafeOps.bjoinL 5 28 23 rfl (b:=((!(r14_in ((gt a527 v528).Weight) 1 16))||(!(r14_in ((gt a527 v528).Quota) 0 256)))) (b1:=true) (b0:=(!(r14_in ((gt a527 v528).Quota) 0 256))) (fun hc15328 K=>?_) (fun hc15328 K=>?_) bj_or ?_
   ·refine rO 5 ?_
    exact SafeOps.drop' 5 rfl rfl rfl K
   ·refine .go 2 ?_
    refine .cP (r14_in_sc ((gt a527 v528).Quota) 0 256 _ rfl) ?_
    refine rO 2 ?_
    exact SafeOps.drop' 5 rfl rfl rfl K
   refine .go 1 ?_
   refine .bjO 4 33 29 ?_
   refine .go 1 ?_
   refine .bjO 6 40 34 ?_
   refine .go 1 ?_
   refine SafeOps.bjoinL 5 46 41 rfl (b:=(((((!(r14_in ((gt a527 v528).Weight) 1 16))||(!(r14_in ((gt a527 v528).Quota) 0 256)))||(decide (((gt a527 v528).Live) < 0)))||(decide (((gt a527 v528).Live) > ((gt a527 v528).Quota))))||(!(r14_in ((gt a527 v528).Tag) 0 1152921504606846976)))) (b1:=true) (b0:=(!(r14_in ((gt a527 v528).Tag) 0 1152921504606846976))) (fun hc15331 K=>?_) (fun hc15331 K=>?_) bj_or ?_
   ·refine rO 5 ?_
    exact SafeOps.drop' 5 rfl rfl rfl K
   ·refine .go 2 ?_
    refine .cP (r14_in_sc ((gt a527 v528).Tag) 0 1152921504606846976 _ rfl) ?_
    refine rO 2 ?_
    exact SafeOps.drop' 5 rfl rfl rfl K
   refine .go 1 ?_
   refine SafeOps.bjoinL 5 52 47 rfl (b:=((((((!(r14_in ((gt a527 v528).Weight) 1 16))||(!(r14_in ((gt a527 v528).Quota) 0 256)))||(decide (((gt a527 v528).Live) < 0)))||(decide (((gt a527 v528).Live) > ((gt a527 v528).Quota))))||(!(r14_in ((gt a527 v528).Tag) 0 1152921504606846976)))||(!(r14_in ((gt a527 v528).Ran) 0 1099511627776)))) (b1:=true) (b0:=(!(r14_in ((gt a527 v528).Ran) 0 1099511627776))) (fun hc15332 K=>?_) (fun hc15332 K=>?_) bj_or ?_
   ·refine rO 5 ?_
    exact SafeOps.drop' 5 rfl rfl rfl K
   ·refine .go 2 ?_
    refine .cP (r14_in_sc ((gt a527 v528).Ran) 0 1099511627776 _ rfl) ?_
    refine rO 2 ?_
    exact SafeOps.drop' 5 rfl rfl rfl K
   refine .go 0 ?_
   refine .ifC h (fun hc15333 h=>?_) (fun hc15333 h=>?_)
   ·refine .go 1 ?_
    replace h:=inr_out h hr15325
    cases h
    exact retF
   ·refine .go 2 ?_
    exact lpK ⟨_,next_out h,covA⟩
  ·refine .go 0 ?_
   replace h:=inr_out h hr15325
   refine .go 1 ?_
   cases h
   exact retF
theorem r14_New_sc (a529:List Int) (a530:List Int) (r:(List api_Tenant)×Int) (h:r14_New a529 a530=some r):SC Tryz.prog gl 82 [V.sl 1 (rws (fun n=>[I n]) a529),V.sl 1 (rws (fun n=>[I n]) a530)] (V.tup [V.own 5 (rws api_Tenant.cells r.1),I r.2]):=by
 rw [r14_New] at h
 refine SC.go Tryz.func82 Tryz.call82 3 ?_
 refine .len ?_
 refine .go 1 ?_
 refine .len ?_
 refine .go 1 ?_
 refine .ifC h (fun hc15337 h=>?_) (fun hc15337 h=>?_)
 ·refine .go 2 ?_
  cases h
  refine retG ?_
  exact ⟨_,(.tup (.cons (.nils _) (.cons (.free rfl) .nil))),by simp⟩
 ·refine .go 2 ?_
  refine .len ?_
  refine .go 1 ?_
  refine Safe.loopS (fun((v531,v532):(List api_Tenant)×Int)=>⟨Tryz.f82.ntmps,[(1,V.sl 1 (rws (fun n=>[I n]) a530)),(6,V.ref [7000,118,6] 0 (rws api_Tenant.cells v531).length),(14,V.sl 1 (rws (fun n=>[I n]) a529)),(15,I (a529.length:Int)),(16,I v532)],[([7000,118,6],Obj.rows 5 (rws api_Tenant.cells v531) false)],[],[]⟩) h (.empty [7000,118,6] 5 rfl (.cov ⟨rfl,rfl,(ut (upT_cons (.nilref _) (ut (ut (ut upT_nil))))),(uo upOb_nil),upOut_nil,rfl⟩)) ?_
  rintro ⟨v531,v532⟩ ohr15367 h hr15367
  rw [r14_New_s2] at h
  refine .go 1 ?_
  refine .ifC h (fun hc15368 h=>?_) (fun hc15368 h=>?_)
  ·refine .go 1 ?_
   refine okG h (fun hb15369 h=>?_)
   refine .ix hb15369 ?_
   refine .ld hb15369 ?_
   refine .go 6 ?_
   refine okG h (fun hb15370 h=>?_)
   refine .ix hb15370 ?_
   refine .ld hb15370 ?_
   refine .go 1 ?_
   refine SafeOps.quiet1 E_good rfl rfl rfl (.litM (f:=api_Tenant.cells) (xs:=[(api_Tenant.mk (gt a529 v532) (gt a530 v532) 0 0 0)]) rfl rfl (by decide) rfl rfl rfl rfl rfl) rfl ?_
   refine okG h (fun hb15371 h=>?_)
   refine SafeOps.appendM api_Tenant.cells (xs:=v531) (ys:=[(api_Tenant.mk (gt a529 v532) (gt a530 v532) 0 0 0)]) E_good rfl rfl rfl rfl rfl rfl rfl rfl rfl (.own rfl) (.own rfl) (fun _=>rfl) hb15371 ?_
   refine .go 3 ?_
   exact lpK ⟨_,next_out h,(.ren [29] [7000,118,6] covA)⟩
  ·refine .go 0 ?_
   replace h:=inr_out h hr15367
   refine .go 1 ?_
   refine bindG h ?_
   intro x533 he15373 h
   refine .cS (r14_Check_sc v531 _ he15373) ?_
   refine .go 1 ?_
   refine .ifC h (fun hc15374 h=>?_) (fun hc15374 h=>?_)
   ·refine .go 2 ?_
    cases h
    refine retG ?_
    exact ⟨_,(.tup (.cons (.nils _) (.cons (.free rfl) .nil))),by simp⟩
   ·refine .go 3 ?_
    cases h
    refine retG ?_
    exact ⟨_,(.tup (.cons (.own rfl rfl) (.cons (.free rfl) .nil))),by simp⟩
theorem r10_New_sc (a534:Int) (r:api_Sem×Int) (h:r10_New a534=r):SC Tryz.prog gl 83 [I a534] (V.tup [V.agg [I r.1.Free,V.own 1 (rws (fun n=>[I n]) r.1.Wait)],I r.2]):=by
 rw [r10_New] at h
 refine SC.go Tryz.func83 Tryz.call83 5 ?_
 refine .bjO 3 9 6 ?_
 refine .go 0 ?_
 refine .ifC h (fun hc15577 h=>?_) (fun hc15577 h=>?_)
 ·refine .go 3 ?_
  cases h
  refine retG ?_
  exact ⟨_,(.tup (.cons (.agg (.cons (.free rfl) (.cons (.nils _) .nil))) (.cons (.free rfl) .nil))),by simp⟩
 ·refine .go 4 ?_
  cases h
  refine retG ?_
  exact ⟨_,(.tup (.cons (.agg (.cons (.free rfl) (.cons (.nils _) .nil))) (.cons (.free rfl) .nil))),by simp⟩
theorem r19_Config_sc (a535:api_Config) (r:Int) (h:r19_Config a535=some r):SC Tryz.prog gl 39 [V.agg a535.cells] (I r):=by
 rw [r19_Config] at h
 refine SC.go Tryz.func39 Tryz.call39 4 ?_
 refine .cP (r19_in_sc a535.Workers 1 64 _ rfl) ?_
 refine .go 2 ?_
 refine SafeOps.bjoinL 5 22 17 rfl (b:=((!(r19_in a535.Workers 1 64))||(!(r19_in a535.Cap 1 1024)))) (b1:=true) (b0:=(!(r19_in a535.Cap 1 1024))) (fun hc15699 K=>?_) (fun hc15699 K=>?_) bj_or ?_
 ·refine rO 5 ?_
  exact SafeOps.drop' 5 rfl rfl rfl K
 ·refine .go 2 ?_
  refine .cP (r19_in_sc a535.Cap 1 1024 _ rfl) ?_
  refine rO 2 ?_
  exact SafeOps.drop' 5 rfl rfl rfl K
 refine .go 1 ?_
 refine .bjO 8 31 23 ?_
 refine .go 1 ?_
 refine SafeOps.bjoinL 5 37 32 rfl (b:=((((!(r19_in a535.Workers 1 64))||(!(r19_in a535.Cap 1 1024)))||(decide ((IntKind.i64.wrap (a535.Workers*(IntKind.i64.wrap (a535.Cap+2)))) > 65536)))||(!(r19_in a535.Budget 1 100)))) (b1:=true) (b0:=(!(r19_in a535.Budget 1 100))) (fun hc15701 K=>?_) (fun hc15701 K=>?_) bj_or ?_
 ·refine rO 5 ?_
  exact SafeOps.drop' 5 rfl rfl rfl K
 ·refine .go 2 ?_
  refine .cP (r19_in_sc a535.Budget 1 100 _ rfl) ?_
  refine rO 2 ?_
  exact SafeOps.drop' 5 rfl rfl rfl K
 refine .go 1 ?_
 refine SafeOps.bjoinL 5 43 38 rfl (b:=(((((!(r19_in a535.Workers 1 64))||(!(r19_in a535.Cap 1 1024)))||(decide ((IntKind.i64.wrap (a535.Workers*(IntKind.i64.wrap (a535.Cap+2)))) > 65536)))||(!(r19_in a535.Budget 1 100)))||(!(r19_in a535.Tasks 1 256)))) (b1:=true) (b0:=(!(r19_in a535.Tasks 1 256))) (fun hc15702 K=>?_) (fun hc15702 K=>?_) bj_or ?_
 ·refine rO 5 ?_
  exact SafeOps.drop' 5 rfl rfl rfl K
 ·refine .go 2 ?_
  refine .cP (r19_in_sc a535.Tasks 1 256 _ rfl) ?_
  refine rO 2 ?_
  exact SafeOps.drop' 5 rfl rfl rfl K
 refine .go 1 ?_
 refine SafeOps.bjoinL 5 49 44 rfl (b:=((((((!(r19_in a535.Workers 1 64))||(!(r19_in a535.Cap 1 1024)))||(decide ((IntKind.i64.wrap (a535.Workers*(IntKind.i64.wrap (a535.Cap+2)))) > 65536)))||(!(r19_in a535.Budget 1 100)))||(!(r19_in a535.Tasks 1 256)))||(!(r19_in a535.Fds 0 16)))) (b1:=true) (b0:=(!(r19_in a535.Fds 0 16))) (fun hc15703 K=>?_) (fun hc15703 K=>?_) bj_or ?_
 ·refine rO 5 ?_
  exact SafeOps.drop' 5 rfl rfl rfl K
 ·refine .go 2 ?_
  refine .cP (r19_in_sc a535.Fds 0 16 _ rfl) ?_
  refine rO 2 ?_
  exact SafeOps.drop' 5 rfl rfl rfl K
 refine .go 1 ?_
 refine SafeOps.bjoinL 5 55 50 rfl (b:=(((((((!(r19_in a535.Workers 1 64))||(!(r19_in a535.Cap 1 1024)))||(decide ((IntKind.i64.wrap (a535.Workers*(IntKind.i64.wrap (a535.Cap+2)))) > 65536)))||(!(r19_in a535.Budget 1 100)))||(!(r19_in a535.Tasks 1 256)))||(!(r19_in a535.Fds 0 16)))||(decide ((a535.Sems.length:Int) > 8)))) (b1:=true) (b0:=decide ((a535.Sems.length:Int) > 8)) (fun hc15704 K=>?_) (fun hc15704 K=>?_) bj_or ?_
 ·refine rO 5 ?_
  exact SafeOps.drop' 5 rfl rfl rfl K
 ·refine .go 2 ?_
  refine .len ?_
  refine rO 2 ?_
  exact SafeOps.drop' 5 rfl rfl rfl K
 refine .go 0 ?_
 refine .ifC h (fun hc15705 h=>?_) (fun hc15705 h=>?_)
 ·refine .go 1 ?_
  cases h
  exact retF
 ·refine .go 4 ?_
  refine bindG h ?_
  rintro ⟨x541,x542⟩ he15708 h
  refine .cP (r14_New_sc a535.Weights a535.Quotas _ he15708) ?_
  refine .go 7 ?_
  refine .ifC h (fun hc15709 h=>?_) (fun hc15709 h=>?_)
  ·refine .go 1 ?_
   cases h
   exact retF
  ·refine .go 2 ?_
   refine bindG h ?_
   intro x543 he15711 h
   refine .cP (r04_CheckAll_sc a535.Progs _ he15711) ?_
   refine .go 1 ?_
   refine .ifC h (fun hc15712 h=>?_) (fun hc15712 h=>?_)
   ·refine .go 1 ?_
    cases h
    exact retF
   ·refine .go 2 ?_
    refine .len ?_
    refine .go 1 ?_
    refine Safe.loopS (fun(v538:Int)=>⟨Tryz.f39.ntmps,[(1,V.ptr [1] 0 0),(71,V.sl 1 (rws (fun n=>[I n]) a535.Sems)),(72,I (a535.Sems.length:Int)),(73,I v538)],[([1],Obj.box a535.cells)],[],[]⟩) h covA ?_
    intro v538 ohr15748 h hr15748
    rw [r19_Config_s2] at h
    refine .go 1 ?_
    refine .ifC h (fun hc15749 h=>?_) (fun hc15749 h=>?_)
    ·refine .go 0 ?_
     refine okG h (fun hb15750 h=>?_)
     refine .ix hb15750 ?_
     refine .ld hb15750 ?_
     refine .go 2 ?_
     refine letG h ?_
     rintro ⟨x539,x540⟩ he15753 h
     refine .cP (r10_New_sc (gt a535.Sems v538) _ he15753) ?_
     refine .go 8 ?_
     refine .ifC h (fun hc15754 h=>?_) (fun hc15754 h=>?_)
     ·refine .go 1 ?_
      replace h:=inr_out h hr15748
      cases h
      exact retF
     ·refine .go 2 ?_
      exact lpK ⟨_,next_out h,covA⟩
    ·refine .go 0 ?_
     replace h:=inr_out h hr15748
     refine .go 2 ?_
     refine .len ?_
     refine .go 1 ?_
     refine Safe.loopS (fun(v536:Int)=>⟨Tryz.f39.ntmps,[(1,V.ptr [1] 0 0),(86,V.sl 1 (rws (fun l=>[V.sl 3 (rws api_Instr.cells l)]) a535.Progs)),(87,I (a535.Progs.length:Int)),(88,I v536)],[([1],Obj.box a535.cells)],[],[]⟩) h covA ?_
     intro v536 ohr15809 h hr15809
     rw [r19_Config_s5] at h
     refine .go 1 ?_
     refine .ifC h (fun hc15810 h=>?_) (fun hc15810 h=>?_)
     ·refine .go 0 ?_
      refine okG h (fun hb15811 h=>?_)
      refine .ix hb15811 ?_
      refine .ld hb15811 ?_
      refine .go 2 ?_
      refine .len ?_
      refine .go 1 ?_
      refine Safe.loopS (fun(v537:Int)=>⟨Tryz.f39.ntmps,[(1,V.ptr [1] 0 0),(86,V.sl 1 (rws (fun l=>[V.sl 3 (rws api_Instr.cells l)]) a535.Progs)),(87,I (a535.Progs.length:Int)),(88,I v536),(92,V.sl 3 (rws api_Instr.cells (gt a535.Progs v536))),(93,I ((gt a535.Progs v536).length:Int)),(94,I v537)],[([1],Obj.box a535.cells)],[],[]⟩) h covA ?_
      intro v537 ohr15828 h hr15828
      rw [r19_Config_s6] at h
      refine .go 1 ?_
      refine .ifC h (fun hc15829 h=>?_) (fun hc15829 h=>?_)
      ·refine .go 0 ?_
       refine okG h (fun hb15830 h=>?_)
       refine .ix hb15830 ?_
       refine .ld hb15830 ?_
       refine .go 6 ?_
       refine .bjA 6 107 101 ?_
       refine .go 1 ?_
       refine SafeOps.bjoinL 17 125 108 rfl (b:=(((((gt (gt a535.Progs v536) v537).Op)==5)&&(decide (((gt (gt a535.Progs v536) v537).A)≥a535.Fds)))||(((((gt (gt a535.Progs v536) v537).Op)==7)||(((gt (gt a535.Progs v536) v537).Op)==8))&&(decide (((gt (gt a535.Progs v536) v537).A)≥(a535.Sems.length:Int)))))) (b1:=true) (b0:=(((((gt (gt a535.Progs v536) v537).Op)==7)||(((gt (gt a535.Progs v536) v537).Op)==8))&&(decide (((gt (gt a535.Progs v536) v537).A)≥(a535.Sems.length:Int))))) (fun hc15832 K=>?_) (fun hc15832 K=>?_) bj_or ?_
       ·refine rO 17 ?_
        exact SafeOps.drop' 17 rfl rfl rfl K
       ·refine .go 4 ?_
        refine .bjO 4 116 112 ?_
        refine .go 1 ?_
        refine SafeOps.bjoinL 7 124 117 rfl (b:=(((((gt (gt a535.Progs v536) v537).Op)==7)||(((gt (gt a535.Progs v536) v537).Op)==8))&&(decide (((gt (gt a535.Progs v536) v537).A)≥(a535.Sems.length:Int))))) (b1:=decide (((gt (gt a535.Progs v536) v537).A)≥(a535.Sems.length:Int))) (b0:=false) (fun hc15834 K=>?_) (fun hc15834 K=>?_) bj_and ?_
        ·refine .go 4 ?_
         refine .len ?_
         refine rO 2 ?_
         exact SafeOps.drop' 7 rfl rfl rfl K
        ·refine rO 7 ?_
         exact SafeOps.drop' 7 rfl rfl rfl K
        refine rO 1 ?_
        exact SafeOps.drop' 8 rfl rfl rfl K
       refine .go 0 ?_
       refine .ifC h (fun hc15835 h=>?_) (fun hc15835 h=>?_)
       ·refine .go 1 ?_
        replace h:=inr_out h hr15828
        replace h:=inr_out h hr15809
        cases h
        exact retF
       ·refine .go 2 ?_
        exact lpK ⟨_,next_out h,covA⟩
      ·refine .go 0 ?_
       replace h:=inr_out h hr15828
       refine .go 2 ?_
       exact lpK ⟨_,next_out h,covA⟩
     ·refine .go 0 ?_
      replace h:=inr_out h hr15809
      refine .go 1 ?_
      cases h
      exact retF
theorem r03_Check_sc (a544:api_Dice) (r:Int) (h:r03_Check a544=r):SC Tryz.prog gl 40 [V.agg a544.cells] (I r):=by
 rw [r03_Check] at h
 refine SC.go Tryz.func40 Tryz.call40 6 ?_
 refine SafeOps.bjoinL 7 13 6 rfl (b:=((decide (a544.At < 0))||(decide (a544.At > (a544.L.length:Int))))) (b1:=true) (b0:=decide (a544.At > (a544.L.length:Int))) (fun hc15844 K=>?_) (fun hc15844 K=>?_) bj_or ?_
 ·refine rO 7 ?_
  exact SafeOps.drop' 7 rfl rfl rfl K
 ·refine .go 4 ?_
  refine .len ?_
  refine rO 2 ?_
  exact SafeOps.drop' 7 rfl rfl rfl K
 refine .go 0 ?_
 refine .ifC h (fun hc15845 h=>?_) (fun hc15845 h=>?_)
 ·refine .go 1 ?_
  cases h
  exact retF
 ·refine .go 1 ?_
  cases h
  exact retF
theorem r05_Check_sc (a545:api_Places) (r:Int) (h:r05_Check a545=some r):SC Tryz.prog gl 84 [V.agg a545.cells] (I r):=by
 rw [r05_Check] at h
 refine SC.go Tryz.func84 Tryz.call84 4 ?_
 refine .len ?_
 refine .go 2 ?_
 refine SafeOps.bjoinL 5 14 9 rfl (b:=((decide ((a545.Gen.length:Int) < 1))||(decide ((a545.Gen.length:Int) > 256)))) (b1:=true) (b0:=decide ((a545.Gen.length:Int) > 256)) (fun hc15897 K=>?_) (fun hc15897 K=>?_) bj_or ?_
 ·refine rO 5 ?_
  exact SafeOps.drop' 5 rfl rfl rfl K
 ·refine .go 2 ?_
  refine .len ?_
  refine rO 2 ?_
  exact SafeOps.drop' 5 rfl rfl rfl K
 refine .go 1 ?_
 refine SafeOps.bjoinL 8 23 15 rfl (b:=(((decide ((a545.Gen.length:Int) < 1))||(decide ((a545.Gen.length:Int) > 256)))||((a545.Live.length:Int) != (a545.Gen.length:Int)))) (b1:=true) (b0:=((a545.Live.length:Int) != (a545.Gen.length:Int))) (fun hc15898 K=>?_) (fun hc15898 K=>?_) bj_or ?_
 ·refine rO 8 ?_
  exact SafeOps.drop' 8 rfl rfl rfl K
 ·refine .go 2 ?_
  refine .len ?_
  refine .go 2 ?_
  refine .len ?_
  refine rO 2 ?_
  exact SafeOps.drop' 8 rfl rfl rfl K
 refine .go 0 ?_
 refine .ifC h (fun hc15899 h=>?_) (fun hc15899 h=>?_)
 ·refine .go 1 ?_
  cases h
  exact retF
 ·refine .go 2 ?_
  refine .len ?_
  refine .go 1 ?_
  refine Safe.loopS (fun(v546:Int)=>⟨Tryz.f84.ntmps,[(1,V.ptr [1] 0 0),(25,V.sl 1 (rws (fun n=>[I n]) a545.Gen)),(26,I (a545.Gen.length:Int)),(27,I v546)],[([1],Obj.box a545.cells)],[],[]⟩) h covA ?_
  intro v546 ohr15920 h hr15920
  rw [r05_Check_s1] at h
  refine .go 1 ?_
  refine .ifC h (fun hc15921 h=>?_) (fun hc15921 h=>?_)
  ·refine .go 1 ?_
   refine okG h (fun hb15922 h=>?_)
   refine .ix hb15922 ?_
   refine .ld hb15922 ?_
   refine .go 5 ?_
   refine .bjO 3 37 34 ?_
   refine .go 1 ?_
   refine SafeOps.ifD 38 h rfl (fun hc15924 h=>?_) (fun hc15924 h=>?_)
   ·refine .go 12 ?_
    replace h:=inr_out h hr15920
    cases h
    exact retF
   ·refine .go 3 ?_
    refine okG h (fun hb15927 h=>?_)
    refine .ix hb15927 ?_
    refine .ld hb15927 ?_
    refine .go 1 ?_
    refine .bjA 3 47 44 ?_
    refine .go 1 ?_
    refine .ifC h (fun hc15929 h=>?_) (fun hc15929 h=>?_)
    ·refine .go 1 ?_
     replace h:=inr_out h hr15920
     cases h
     exact retF
    ·refine .go 2 ?_
     exact lpK ⟨_,next_out h,covA⟩
  ·refine .go 0 ?_
   replace h:=inr_out h hr15920
   refine .go 1 ?_
   cases h
   exact retF
theorem r12_state_sc (a547:Int) (r:Bool) (h:r12_state a547=r):SC Tryz.prog gl 129 [I a547] (V.bool r):=by
 rw [r12_state] at h
 refine SC.go Tryz.func129 Tryz.call129 4 ?_
 refine .bjA 3 8 5 ?_
 refine .go 1 ?_
 cases h
 exact retF
theorem r12_Check_sc (a548:api_Task) (r:Int) (h:r12_Check a548=some r):SC Tryz.prog gl 85 [V.agg a548.cells] (I r):=by
 rw [r12_Check] at h
 refine SC.go Tryz.func85 Tryz.call85 6 ?_
 refine .bjO 4 12 8 ?_
 refine .go 1 ?_
 refine .bjO 4 17 13 ?_
 refine .go 1 ?_
 refine .bjO 4 22 18 ?_
 refine .go 1 ?_
 refine .bjO 4 27 23 ?_
 refine .go 1 ?_
 refine .bjO 4 32 28 ?_
 refine .go 1 ?_
 refine .bjO 4 37 33 ?_
 refine .go 1 ?_
 refine .bjO 4 42 38 ?_
 refine .go 1 ?_
 refine .bjO 4 47 43 ?_
 refine .go 1 ?_
 refine SafeOps.bjoinL 5 53 48 rfl (b:=((((((((((decide (a548.Id < 0))||(decide (a548.Tenant < 0)))||(decide (a548.Tenant > 15)))||(decide (a548.Prog < 0)))||(decide (a548.Prog > 15)))||(decide (a548.Pc < 0)))||(decide (a548.Pc > 32)))||(decide (a548.Unit < 0)))||(decide (a548.Unit > 99)))||(!(r12_state a548.State)))) (b1:=true) (b0:=(!(r12_state a548.State))) (fun hc28260 K=>?_) (fun hc28260 K=>?_) bj_or ?_
 ·refine rO 5 ?_
  exact SafeOps.drop' 5 rfl rfl rfl K
 ·refine .go 2 ?_
  refine .cP (r12_state_sc a548.State _ rfl) ?_
  refine rO 2 ?_
  exact SafeOps.drop' 5 rfl rfl rfl K
 refine .go 1 ?_
 refine .bjO 4 58 54 ?_
 refine .go 1 ?_
 refine .bjO 4 63 59 ?_
 refine .go 0 ?_
 refine .ifC h (fun hc28263 h=>?_) (fun hc28263 h=>?_)
 ·refine .go 1 ?_
  cases h
  exact retF
 ·refine .go 3 ?_
  refine Safe.loopS (fun(v549:Int)=>⟨Tryz.f85.ntmps,[(65,V.agg [I a548.Keeps.a0,I a548.Keeps.a1,I a548.Keeps.a2,I a548.Keeps.a3]),(66,I v549)],[],[],[]⟩) h covA ?_
  intro v549 ohr28270 h hr28270
  rw [r12_Check_s1] at h
  refine .go 1 ?_
  refine .ifC h (fun hc28271 h=>?_) (fun hc28271 h=>?_)
  ·refine .go 0 ?_
   refine okG h (fun hb28272 h=>?_)
   refine Q0 E_good rfl (v:=I (if v549=0 then a548.Keeps.a0 else (if v549=1 then a548.Keeps.a1 else (if v549=2 then a548.Keeps.a2 else a548.Keeps.a3)))) (.idxVM (us:=[I (if v549=0 then a548.Keeps.a0 else (if v549=1 then a548.Keeps.a1 else (if v549=2 then a548.Keeps.a2 else a548.Keeps.a3)))]) rfl rfl rfl rfl rfl 4 rfl hb28272 (by have hq:v549=0∨v549=1∨v549=2∨v549=3:=(by omega);rcases hq with hq|hq|hq|hq<;>simp only [hq]<;>rfl) rfl) ?_
   refine .go 3 ?_
   refine .ifC h (fun hc28273 h=>?_) (fun hc28273 h=>?_)
   ·refine .go 1 ?_
    replace h:=inr_out h hr28270
    cases h
    exact retF
   ·refine .go 2 ?_
    exact lpK ⟨_,next_out h,covA⟩
  ·refine .go 0 ?_
   replace h:=inr_out h hr28270
   refine .go 1 ?_
   cases h
   exact retF
theorem r13_Fits_sc (a550:api_Task) (a551:List api_Instr) (r:Bool) (h:r13_Fits a550 a551=some r):SC Tryz.prog gl 86 [V.agg a550.cells,V.sl 3 (rws api_Instr.cells a551)] (V.bool r):=by
 rw [r13_Fits] at h
 refine SC.go Tryz.func86 Tryz.call86 3 ?_
 refine bindG h ?_
 intro x553 he28302 h
 refine .cP (r12_Check_sc a550 _ he28302) ?_
 refine .go 2 ?_
 refine SafeOps.bsplit 4 12 (fun b552=>r13_Fits_j1 a550 a551 b552=some r) (fun HJ28307=>?_) (fun b552 h=>?_)
 ·refine SafeOps.ifD 8 h rfl (fun hc28303 h=>?_) (fun hc28303 h=>?_)
  ·refine rO 4 ?_
   exact SafeOps.drop' 4 rfl rfl rfl (SafeOps.unk 8 rfl hc28303 (HJ28307 _ h))
  ·refine .go 1 ?_
   refine bindG h ?_
   intro x554 he28316 h
   refine .cP (r04_Check_sc a551 _ he28316) ?_
   refine rO 2 ?_
   exact SafeOps.drop' 4 rfl rfl rfl (SafeOps.unk 8 rfl hc28303 (HJ28307 _ h))
 ·replace h:r13_Fits_j1 a550 a551 b552=some r:=h
  rw [r13_Fits_j1] at h
  refine .go 1 ?_
  refine SafeOps.bjoinL 6 19 13 rfl (b:=(b552||(decide (a550.Pc > (a551.length:Int))))) (b1:=true) (b0:=decide (a550.Pc > (a551.length:Int))) (fun hc28308 K=>?_) (fun hc28308 K=>?_) bj_or ?_
  ·refine rO 6 ?_
   exact SafeOps.drop' 6 rfl rfl rfl K
  ·refine .go 3 ?_
   refine .len ?_
   refine rO 2 ?_
   exact SafeOps.drop' 6 rfl rfl rfl K
  refine .go 0 ?_
  refine .ifC h (fun hc28309 h=>?_) (fun hc28309 h=>?_)
  ·refine .go 1 ?_
   cases h
   exact retF
  ·refine .go 3 ?_
   refine .ifC h (fun hc28310 h=>?_) (fun hc28310 h=>?_)
   ·refine .go 1 ?_
    cases h
    exact retF
   ·refine .go 0 ?_
    refine Safe.regionD (n:=26) [] [] E_good mixed rfl ?_
    refine rA 23 (up 0 3) ?_
    refine DT 3 [] rfl rfl (v:=I (a551.length:Int)) (fun _ hz=>(.fnE rfl lenE)) ?_
    refine rA 20 [4,5] ?_
    refine DAny.ifD 28 h rfl (fun hc28311 h=>?_) (fun hc28311 h=>?_)
    ·refine rA 17 (up 6 3) ?_
     refine okG h (fun hb28312 h=>?_)
     refine DT 9 [] rfl rfl (v:=V.spt 3 (rws api_Instr.cells a551) (Int.toNat a550.Pc) 0) (fun _ hz=>(.idxSlM (f:=api_Instr.cells) rfl rfl rfl rfl rfl hb28312)) ?_
     refine rA 15 [10] ?_
     refine DT 11 [] rfl rfl (v:=I ((gt a551 a550.Pc).Op)) (fun _ hz=>(.load rfl rfl (.sptM (f:=api_Instr.cells) hb28312 rfl) rfl)) ?_
     refine rA 11 (up 12 3) ?_
     refine DAny.ifD 37 h rfl (fun hc28313 h=>?_) (fun hc28313 h=>?_)
     ·refine rA 6 (up 15 5) ?_
      refine okG h (fun hb28314 h=>?_)
      refine DT 20 [] rfl rfl (v:=V.spt 3 (rws api_Instr.cells a551) (Int.toNat a550.Pc) 0) (fun _ hz=>(.idxSlM (f:=api_Instr.cells) rfl rfl rfl rfl rfl hb28314)) ?_
      refine rA 4 [21] ?_
      refine DT 22 [] rfl rfl (v:=I ((gt a551 a550.Pc).A)) (fun _ hz=>(.load rfl rfl (.sptM (f:=api_Instr.cells) hb28314 rfl) rfl)) ?_
      refine rA 0 (up 23 3) ?_
      refine DAny.nil (by kernel_rfl) ?_
      refine .go 0 ?_
      cases h
      exact retF
     ·refine rA 0 (up 15 11) ?_
      refine DAny.nil (by kernel_rfl) ?_
      refine .go 0 ?_
      cases h
      exact retF
    ·refine rA 0 (up 6 20) ?_
     refine DAny.nil (by kernel_rfl) ?_
     refine .go 0 ?_
     cases h
     exact retF
theorem r20_tasks_sc (a555:api_Config) (a556:api_World) (r:Bool) (h:r20_tasks a555 a556=some r):SC Tryz.prog gl 41 [V.agg a555.cells,V.agg a556.cells] (V.bool r):=by
 rw [r20_tasks] at h
 refine SC.go Tryz.func41 Tryz.call41 5 ?_
 refine bindG h ?_
 intro x560 he28360 h
 refine .cP (r05_Check_sc a556.Ids _ he28360) ?_
 refine .go 2 ?_
 refine SafeOps.bjoinL 8 19 11 rfl (b:=((x560 != 0)||((a556.Ids.Gen.length:Int) != a555.Tasks))) (b1:=true) (b0:=((a556.Ids.Gen.length:Int) != a555.Tasks)) (fun hc28361 K=>?_) (fun hc28361 K=>?_) bj_or ?_
 ·refine rO 8 ?_
  exact SafeOps.drop' 8 rfl rfl rfl K
 ·refine .go 3 ?_
  refine .len ?_
  refine rO 4 ?_
  exact SafeOps.drop' 8 rfl rfl rfl K
 refine .go 1 ?_
 refine SafeOps.bjoinL 7 27 20 rfl (b:=(((x560 != 0)||((a556.Ids.Gen.length:Int) != a555.Tasks))||((a556.T.length:Int) != a555.Tasks))) (b1:=true) (b0:=((a556.T.length:Int) != a555.Tasks)) (fun hc28362 K=>?_) (fun hc28362 K=>?_) bj_or ?_
 ·refine rO 7 ?_
  exact SafeOps.drop' 7 rfl rfl rfl K
 ·refine .go 2 ?_
  refine .len ?_
  refine rO 4 ?_
  exact SafeOps.drop' 7 rfl rfl rfl K
 refine .go 0 ?_
 refine .ifC h (fun hc28363 h=>?_) (fun hc28363 h=>?_)
 ·refine .go 1 ?_
  cases h
  exact retF
 ·refine .go 2 ?_
  refine .len ?_
  refine .go 1 ?_
  refine Safe.loopS (fun(v557:Int)=>⟨Tryz.f41.ntmps,[(2,V.ptr [2] 0 0),(3,V.ptr [3] 0 0),(29,V.sl 11 (rws api_Task.cells a556.T)),(30,I (a556.T.length:Int)),(31,I v557)],[([2],Obj.box a555.cells),([3],Obj.box a556.cells)],[],[]⟩) h covA ?_
  intro v557 ohr28402 h hr28402
  rw [r20_tasks_s1] at h
  refine .go 1 ?_
  refine .ifC h (fun hc28403 h=>?_) (fun hc28403 h=>?_)
  ·refine .go 1 ?_
   refine okG h (fun hb28404 h=>?_)
   refine .ix hb28404 ?_
   refine .ld hb28404 ?_
   refine .go 7 ?_
   refine okG h (fun hb28405 h=>?_)
   refine .ix hb28405 ?_
   refine .ld hb28405 ?_
   refine .go 1 ?_
   refine .ifC h (fun hc28407 h=>?_) (fun hc28407 h=>?_)
   ·refine .go 2 ?_
    refine Q0 E_good rfl (v:=V.bool (!(api_Task.beq (gt a556.T v557) api_Task.zero))) (.neA rfl rfl rfl rfl okT75 rfl) ?_
    refine .go 0 ?_
    refine .ifC h (fun hc28408 h=>?_) (fun hc28408 h=>?_)
    ·refine .go 1 ?_
     replace h:=inr_out h hr28402
     cases h
     exact retF
    ·refine .go 2 ?_
     exact lpK ⟨_,next_out h,covA⟩
   ·refine .go 0 ?_
    refine Safe.regionD (n:=49) [] [] E_good mixed rfl ?_
    refine rA 48 [0] ?_
    refine bindG h ?_
    intro x558 he28410 h
    refine .cP (r12_Check_sc (gt a556.T v557) _ he28410) 1 ?_
    refine rA 45 [2,3] ?_
    refine DAny.ifD 49 h rfl (fun hc28411 h=>?_) (fun hc28411 h=>?_)
    ·refine rA 0 (up 4 45) ?_
     refine DAny.nil (by kernel_rfl) ?_
     refine .go 2 ?_
     replace h:=inr_out h hr28402
     cases h
     exact retF
    ·refine rA 40 (up 4 5) ?_
     refine DAny.ifD 54 h rfl (fun hc28412 h=>?_) (fun hc28412 h=>?_)
     ·refine rA 0 (up 9 40) ?_
      refine DAny.nil (by kernel_rfl) ?_
      refine .go 2 ?_
      replace h:=inr_out h hr28402
      cases h
      exact retF
     ·refine rA 34 (up 9 6) ?_
      refine okG h (fun hb28413 h=>?_)
      refine DT 15 [] rfl rfl (v:=V.spt 1 (rws (fun n=>[I n]) a556.Ids.Gen) (Int.toNat v557) 0) (fun _ hz=>(.idxSlM (f:=(fun n=>[I n])) rfl rfl rfl rfl rfl hb28413)) ?_
      refine DT 16 [] rfl rfl (v:=I (gt a556.Ids.Gen v557)) (fun _ hz=>(.load rfl rfl (.sptM (f:=(fun n=>[I n])) hb28413 rfl) rfl)) ?_
      refine rA 26 (up 17 6) ?_
      refine DAny.ifD 68 h rfl (fun hc28414 h=>?_) (fun hc28414 h=>?_)
      ·refine rA 0 (up 23 26) ?_
       refine DAny.nil (by kernel_rfl) ?_
       refine .go 2 ?_
       replace h:=inr_out h hr28402
       cases h
       exact retF
      ·refine rA 22 (up 23 4) ?_
       refine DT 27 [] rfl rfl (v:=I (a555.Weights.length:Int)) (fun _ hz=>(.fnE rfl lenE)) ?_
       refine rA 18 (up 28 3) ?_
       refine DAny.ifD 76 h rfl (fun hc28415 h=>?_) (fun hc28415 h=>?_)
       ·refine rA 0 (up 31 18) ?_
        refine DAny.nil (by kernel_rfl) ?_
        refine .go 2 ?_
        replace h:=inr_out h hr28402
        cases h
        exact retF
       ·refine rA 14 (up 31 4) ?_
        refine DT 35 [] rfl rfl (v:=I (a555.Progs.length:Int)) (fun _ hz=>(.fnE rfl lenE)) ?_
        refine rA 10 (up 36 3) ?_
        refine DAny.ifD 84 h rfl (fun hc28416 h=>?_) (fun hc28416 h=>?_)
        ·refine rA 0 (up 39 10) ?_
         refine DAny.nil (by kernel_rfl) ?_
         refine .go 2 ?_
         replace h:=inr_out h hr28402
         cases h
         exact retF
        ·refine rA 5 (up 39 5) ?_
         refine okG h (fun hb28417 h=>?_)
         refine DT 44 [] rfl rfl (v:=V.spt 1 (rws (fun l=>[V.sl 3 (rws api_Instr.cells l)]) a555.Progs) (Int.toNat ((gt a556.T v557).Prog)) 0) (fun _ hz=>(.idxSlM (f:=(fun l=>[V.sl 3 (rws api_Instr.cells l)])) rfl rfl rfl rfl rfl hb28417)) ?_
         refine DT 45 [] rfl rfl (v:=V.sl 3 (rws api_Instr.cells (gt a555.Progs ((gt a556.T v557).Prog)))) (fun _ hz=>(.load rfl rfl (.sptM (f:=(fun l=>[V.sl 3 (rws api_Instr.cells l)])) hb28417 rfl) rfl)) ?_
         refine bindG h ?_
         intro x559 he28419 h
         refine .cP (r13_Fits_sc (gt a556.T v557) (gt a555.Progs ((gt a556.T v557).Prog)) _ he28419) 46 ?_
         refine rA 0 [47,48] ?_
         refine DAny.nil (by kernel_rfl) ?_
         refine .go 0 ?_
         refine .ifC h (fun hc28420 h=>?_) (fun hc28420 h=>?_)
         ·refine .go 1 ?_
          replace h:=inr_out h hr28402
          cases h
          exact retF
         ·refine .go 2 ?_
          exact lpK ⟨_,next_out h,covA⟩
  ·refine .go 0 ?_
   replace h:=inr_out h hr28402
   refine .go 1 ?_
   cases h
   exact retF
theorem r06_Lists_sc (a561:api_Chains) (r:(List (List Int))×Bool) (h:r06_Lists a561=some r):SC Tryz.prog gl 87 [V.agg a561.cells] (V.tup [V.own 1 (rws (fun l=>[V.sl 1 (rws (fun n=>[I n]) l)]) r.1),V.bool r.2]):=by
 rw [r06_Lists] at h
 refine SC.go Tryz.func87 Tryz.call87 5 ?_
 refine .len ?_
 refine .go 4 ?_
 refine SafeOps.bjoinL 5 23 18 rfl (b:=((decide ((a561.Next.length:Int) > 1024))||(decide ((a561.Head.length:Int) < 1)))) (b1:=true) (b0:=decide ((a561.Head.length:Int) < 1)) (fun hc28952 K=>?_) (fun hc28952 K=>?_) bj_or ?_
 ·refine rO 5 ?_
  exact SafeOps.drop' 5 rfl rfl rfl K
 ·refine .go 2 ?_
  refine .len ?_
  refine rO 2 ?_
  exact SafeOps.drop' 5 rfl rfl rfl K
 refine .go 1 ?_
 refine SafeOps.bjoinL 5 29 24 rfl (b:=(((decide ((a561.Next.length:Int) > 1024))||(decide ((a561.Head.length:Int) < 1)))||(decide ((a561.Head.length:Int) > 256)))) (b1:=true) (b0:=decide ((a561.Head.length:Int) > 256)) (fun hc28953 K=>?_) (fun hc28953 K=>?_) bj_or ?_
 ·refine rO 5 ?_
  exact SafeOps.drop' 5 rfl rfl rfl K
 ·refine .go 2 ?_
  refine .len ?_
  refine rO 2 ?_
  exact SafeOps.drop' 5 rfl rfl rfl K
 refine .go 1 ?_
 refine SafeOps.bjoinL 8 38 30 rfl (b:=((((decide ((a561.Next.length:Int) > 1024))||(decide ((a561.Head.length:Int) < 1)))||(decide ((a561.Head.length:Int) > 256)))||((a561.Tail.length:Int) != (a561.Head.length:Int)))) (b1:=true) (b0:=((a561.Tail.length:Int) != (a561.Head.length:Int))) (fun hc28954 K=>?_) (fun hc28954 K=>?_) bj_or ?_
 ·refine rO 8 ?_
  exact SafeOps.drop' 8 rfl rfl rfl K
 ·refine .go 2 ?_
  refine .len ?_
  refine .go 2 ?_
  refine .len ?_
  refine rO 2 ?_
  exact SafeOps.drop' 8 rfl rfl rfl K
 refine .go 0 ?_
 refine .ifC h (fun hc28955 h=>?_) (fun hc28955 h=>?_)
 ·refine .go 2 ?_
  cases h
  refine retG ?_
  exact ⟨_,(.tup (.cons (.nils _) (.cons (.free rfl) .nil))),by simp⟩
 ·refine .go 1 ?_
  refine okG h (fun hb28956 h=>?_)
  refine SafeOps.quiet1 E_good rfl rfl rfl (.makeM (f:=(fun b=>[V.bool b])) (d:=false) rfl rfl rfl rfl hb28956 rfl rfl rfl) rfl ?_
  refine .go 4 ?_
  refine .len ?_
  refine .go 1 ?_
  refine Safe.loopS (fun((v568,v562,v563):(List Bool)×(List (List Int))×Int)=>⟨Tryz.f87.ntmps,[(1,V.ptr [1] 0 0),(4,I (a561.Next.length:Int)),(5,V.ref [40] 0 (rws (fun b=>[V.bool b]) v568).length),(6,V.ref [7000,118,6] 0 (rws (fun l=>[V.sl 1 (rws (fun n=>[I n]) l)]) v562).length),(42,V.sl 1 (rws (fun n=>[I n]) a561.Head)),(43,I (a561.Head.length:Int)),(44,I v563)],[([1],Obj.box a561.cells),([40],Obj.rows 1 (rws (fun b=>[V.bool b]) v568) false),([7000,118,6],Obj.rows 1 (rws (fun l=>[V.sl 1 (rws (fun n=>[I n]) l)]) v562) false)],[],[]⟩) h (.empty [7000,118,6] 1 rfl (.cov ⟨rfl,rfl,(ut (ut (ut (upT_cons (.nilref _) (ut (ut (ut upT_nil))))))),(uo (uo (uo upOb_nil))),upOut_nil,rfl⟩)) ?_
  rintro ⟨v568,v562,v563⟩ ohr29355 h hr29355
  rw [r06_Lists_s12] at h
  refine .go 1 ?_
  refine .ifC h (fun hc29356 h=>?_) (fun hc29356 h=>?_)
  ·refine .go 1 ?_
   refine okG h (fun hb29357 h=>?_)
   refine .ix hb29357 ?_
   refine .ld hb29357 ?_
   refine .go 4 ?_
   refine Safe.loopS (fun((v564,v565,v566,v567):(List Bool)×Int×(List Int)×Int)=>⟨Tryz.f87.ntmps,[(1,V.ptr [1] 0 0),(4,I (a561.Next.length:Int)),(5,V.ref [40] 0 (rws (fun b=>[V.bool b]) v564).length),(6,V.ref [7000,118,6] 0 (rws (fun l=>[V.sl 1 (rws (fun n=>[I n]) l)]) v562).length),(7,I v563),(8,I v565),(9,V.ref [7000,118,9] 0 (rws (fun n=>[I n]) v566).length),(10,I v567),(42,V.sl 1 (rws (fun n=>[I n]) a561.Head)),(43,I (a561.Head.length:Int)),(44,I v563)],[([1],Obj.box a561.cells),([40],Obj.rows 1 (rws (fun b=>[V.bool b]) v564) false),([7000,118,6],Obj.rows 1 (rws (fun l=>[V.sl 1 (rws (fun n=>[I n]) l)]) v562) false),([7000,118,9],Obj.rows 1 (rws (fun n=>[I n]) v566) false)],[],[]⟩) h (.empty [7000,118,9] 1 rfl (.cov ⟨rfl,rfl,(ut (ut (ut (ut (ut (ut (upT_cons (.nilref _) (ut (ut (ut (ut upT_nil))))))))))),(uo (uo (uo (uo upOb_nil)))),upOut_nil,rfl⟩)) ?_
   rintro ⟨v564,v565,v566,v567⟩ ohr29420 h hr29420
   rw [r06_Lists_s14] at h
   refine .go 2 ?_
   refine .ifC h (fun hc29421 h=>?_) (fun hc29421 h=>?_)
   ·refine .go 3 ?_
    refine .bjO 4 57 53 ?_
    refine .go 1 ?_
    refine SafeOps.ifD 58 h rfl (fun hc29423 h=>?_) (fun hc29423 h=>?_)
    ·refine .go 8 ?_
     replace h:=inr_out h hr29420
     replace h:=inr_out h hr29355
     cases h
     refine retG ?_
     exact ⟨_,(.tup (.cons (.nils _) (.cons (.free rfl) .nil))),by simp⟩
    ·refine .go 2 ?_
     refine okG h (fun hb29425 h=>?_)
     refine Q0 E_good rfl (v:=V.ptr [40] (0+Int.toNat v565) 0) (.idxRefM (f:=(fun b=>[V.bool b])) (xs:=v564) rfl rfl rfl rfl rfl rfl hb29425) ?_
     refine Q0 E_good rfl (v:=V.bool (gt v564 v565)) (.load rfl rfl (.rowsM (f:=(fun b=>[V.bool b])) (xs:=v564) hb29425 rfl rfl) rfl) ?_
     refine .go 1 ?_
     refine .ifC h (fun hc29426 h=>?_) (fun hc29426 h=>?_)
     ·refine .go 2 ?_
      replace h:=inr_out h hr29420
      replace h:=inr_out h hr29355
      cases h
      refine retG ?_
      exact ⟨_,(.tup (.cons (.nils _) (.cons (.free rfl) .nil))),by simp⟩
     ·refine .go 2 ?_
      refine okG h (fun hb29427 h=>?_)
      refine Q0 E_good rfl (v:=V.ptr [40] (0+Int.toNat v565) 0) (.idxRefM (f:=(fun b=>[V.bool b])) (xs:=v564) rfl rfl rfl rfl rfl rfl hb29427) ?_
      refine SafeOps.store (z:=Obj.rows 1 (rws (fun b=>[V.bool b]) (st v564 v565 true)) false) E_good rfl rfl rfl rfl rfl rfl rfl (.rowsM (f:=(fun b=>[V.bool b])) (xs:=v564) (y:=true) hb29427 rfl rfl rfl rfl) ?_
      refine .see 5 (u:=V.ref [40] 0 (rws (fun b=>[V.bool b]) (st v564 v565 true)).length) rfl (.len (by simp [rws,st])) ?_
      refine .see 59 (u:=V.ref [40] 0 (rws (fun b=>[V.bool b]) (st v564 v565 true)).length) rfl (.len (by simp [rws,st])) ?_
      refine .see 64 (u:=V.ref [40] 0 (rws (fun b=>[V.bool b]) (st v564 v565 true)).length) rfl (.len (by simp [rws,st])) ?_
      refine .go 2 ?_
      refine SafeOps.quiet1 E_good rfl rfl rfl (.litM (f:=(fun n=>[I n])) (xs:=[v565]) rfl rfl (by decide) rfl rfl rfl rfl rfl) rfl ?_
      refine okG h (fun hb29428 h=>?_)
      refine SafeOps.appendM (fun n=>[I n]) (xs:=v566) (ys:=[v565]) E_good rfl rfl rfl rfl rfl rfl rfl rfl rfl (.own rfl) (.own rfl) (fun _=>rfl) hb29428 ?_
      refine .go 6 ?_
      refine okG h (fun hb29429 h=>?_)
      refine .ix hb29429 ?_
      refine .ld hb29429 ?_
      refine .go 1 ?_
      exact lpK ⟨_,next_out h,(.ren [70] [7000,118,9] covA)⟩
   ·refine .go 0 ?_
    replace h:=inr_out h hr29420
    refine .go 3 ?_
    refine okG h (fun hb29430 h=>?_)
    refine .ix hb29430 ?_
    refine .ld hb29430 ?_
    refine .go 2 ?_
    refine .ifC h (fun hc29431 h=>?_) (fun hc29431 h=>?_)
    ·refine .go 2 ?_
     replace h:=inr_out h hr29355
     cases h
     refine retG ?_
     exact ⟨_,(.tup (.cons (.nils _) (.cons (.free rfl) .nil))),by simp⟩
    ·refine .goN 2 ?_
     refine .freeze [7000,118,9] rfl ?_
     refine .see 85 (u:=V.sl 1 (rws (fun n=>[I n]) v566)) rfl (.full rfl rfl) ?_
     refine SafeOps.quiet1 E_good rfl rfl rfl (.litM (f:=(fun l=>[V.sl 1 (rws (fun n=>[I n]) l)])) (xs:=[v566]) rfl rfl (by decide) rfl rfl rfl rfl rfl) rfl ?_
     refine okG h (fun hb29432 h=>?_)
     refine SafeOps.appendM (fun l=>[V.sl 1 (rws (fun n=>[I n]) l)]) (xs:=v562) (ys:=[v566]) E_good rfl rfl rfl rfl rfl rfl rfl rfl rfl (.own rfl) (.own rfl) (fun _=>rfl) hb29432 ?_
     refine .go 3 ?_
     exact lpK ⟨_,next_out h,(.ren [87] [7000,118,6] covA)⟩
  ·refine .go 0 ?_
   replace h:=inr_out h hr29355
   refine .go 1 ?_
   refine .len ?_
   refine .go 1 ?_
   refine Safe.loopS (fun(v569:Int)=>⟨Tryz.f87.ntmps,[(1,V.ptr [1] 0 0),(6,V.ref [7000,118,6] 0 (rws (fun l=>[V.sl 1 (rws (fun n=>[I n]) l)]) v562).length),(89,V.ref [40] 0 (rws (fun b=>[V.bool b]) v568).length),(90,I (v568.length:Int)),(91,I v569)],[([1],Obj.box a561.cells),([40],Obj.rows 1 (rws (fun b=>[V.bool b]) v568) false),([7000,118,6],Obj.rows 1 (rws (fun l=>[V.sl 1 (rws (fun n=>[I n]) l)]) v562) false)],[],[]⟩) h covA ?_
   intro v569 ohr29447 h hr29447
   rw [r06_Lists_s15] at h
   refine .go 1 ?_
   refine .ifC h (fun hc29448 h=>?_) (fun hc29448 h=>?_)
   ·refine .go 1 ?_
    refine okG h (fun hb29449 h=>?_)
    refine Q0 E_good rfl (v:=V.ptr [40] (0+Int.toNat v569) 0) (.idxRefM (f:=(fun b=>[V.bool b])) (xs:=v568) rfl rfl rfl rfl rfl rfl hb29449) ?_
    refine Q0 E_good rfl (v:=V.bool (gt v568 v569)) (.load rfl rfl (.rowsM (f:=(fun b=>[V.bool b])) (xs:=v568) hb29449 rfl rfl) rfl) ?_
    refine .go 5 ?_
    refine SafeOps.ifD 98 h rfl (fun hc29450 h=>?_) (fun hc29450 h=>?_)
    ·refine .go 3 ?_
     refine okG h (fun hb29452 h=>?_)
     refine .ix hb29452 ?_
     refine .ld hb29452 ?_
     refine .go 2 ?_
     refine .ifC h (fun hc29453 h=>?_) (fun hc29453 h=>?_)
     ·refine .go 2 ?_
      replace h:=inr_out h hr29447
      cases h
      refine retG ?_
      exact ⟨_,(.tup (.cons (.nils _) (.cons (.free rfl) .nil))),by simp⟩
     ·refine .go 2 ?_
      exact lpK ⟨_,next_out h,covA⟩
    ·refine .go 10 ?_
     exact lpK ⟨_,next_out h,covA⟩
   ·refine .go 0 ?_
    replace h:=inr_out h hr29447
    refine .go 3 ?_
    cases h
    refine retG ?_
    exact ⟨_,(.tup (.cons (.own rfl rfl) (.cons (.free rfl) .nil))),by simp⟩
theorem r20_lists_sc (a575:api_Config) (a570:api_World) (r:Bool) (h:r20_lists a575 a570=some r):SC Tryz.prog gl 42 [V.agg a575.cells,V.agg a570.cells] (V.bool r):=by
 rw [r20_lists] at h
 refine SC.go Tryz.func42 Tryz.call42 5 ?_
 refine bindG h ?_
 rintro ⟨x571,x576⟩ he29588 h
 refine .cP (r06_Lists_sc a570.Lists _ he29588) ?_
 refine .go 8 ?_
 refine SafeOps.bjoinL 8 27 19 rfl (b:=((!x576)||((a570.Lists.Next.length:Int) != a575.Tasks))) (b1:=true) (b0:=((a570.Lists.Next.length:Int) != a575.Tasks)) (fun hc29589 K=>?_) (fun hc29589 K=>?_) bj_or ?_
 ·refine rO 8 ?_
  exact SafeOps.drop' 8 rfl rfl rfl K
 ·refine .go 3 ?_
  refine .len ?_
  refine rO 4 ?_
  exact SafeOps.drop' 8 rfl rfl rfl K
 refine .go 1 ?_
 refine SafeOps.bjoinL 7 35 28 rfl (b:=(((!x576)||((a570.Lists.Next.length:Int) != a575.Tasks))||((x571.length:Int) != (a575.Weights.length:Int)))) (b1:=true) (b0:=((x571.length:Int) != (a575.Weights.length:Int))) (fun hc29590 K=>?_) (fun hc29590 K=>?_) bj_or ?_
 ·refine rO 7 ?_
  exact SafeOps.drop' 7 rfl rfl rfl K
 ·refine .go 1 ?_
  refine .len ?_
  refine .go 2 ?_
  refine .len ?_
  refine rO 2 ?_
  exact SafeOps.drop' 7 rfl rfl rfl K
 refine .go 0 ?_
 refine .ifC h (fun hc29591 h=>?_) (fun hc29591 h=>?_)
 ·refine .go 1 ?_
  cases h
  exact retF
 ·refine .go 1 ?_
  refine .len ?_
  refine .go 1 ?_
  refine Safe.loopS (fun(v572:Int)=>⟨Tryz.f42.ntmps,[(3,V.ptr [3] 0 0),(36,V.ref [14,0] 0 (rws (fun l=>[V.sl 1 (rws (fun n=>[I n]) l)]) x571).length),(37,I (x571.length:Int)),(38,I v572)],[([3],Obj.box a570.cells),([14,0],Obj.rows 1 (rws (fun l=>[V.sl 1 (rws (fun n=>[I n]) l)]) x571) false)],[],[]⟩) h covA ?_
  intro v572 ohr29676 h hr29676
  rw [r20_lists_s9] at h
  refine .go 1 ?_
  refine .ifC h (fun hc29677 h=>?_) (fun hc29677 h=>?_)
  ·refine .go 1 ?_
   refine okG h (fun hb29678 h=>?_)
   refine Q0 E_good rfl (v:=V.ptr [14,0] (0+Int.toNat v572) 0) (.idxRefM (f:=(fun l=>[V.sl 1 (rws (fun n=>[I n]) l)])) (xs:=x571) rfl rfl rfl rfl rfl rfl hb29678) ?_
   refine Q0 E_good rfl (v:=V.sl 1 (rws (fun n=>[I n]) (gt x571 v572))) (.load rfl rfl (.rowsM (f:=(fun l=>[V.sl 1 (rws (fun n=>[I n]) l)])) (xs:=x571) hb29678 rfl rfl) rfl) ?_
   refine .go 3 ?_
   refine .len ?_
   refine .go 1 ?_
   refine Safe.loopS (fun(v573:Int)=>⟨Tryz.f42.ntmps,[(3,V.ptr [3] 0 0),(7,I v572),(36,V.ref [14,0] 0 (rws (fun l=>[V.sl 1 (rws (fun n=>[I n]) l)]) x571).length),(37,I (x571.length:Int)),(38,I v572),(43,V.sl 1 (rws (fun n=>[I n]) (gt x571 v572))),(44,I ((gt x571 v572).length:Int)),(45,I v573)],[([3],Obj.box a570.cells),([14,0],Obj.rows 1 (rws (fun l=>[V.sl 1 (rws (fun n=>[I n]) l)]) x571) false)],[],[]⟩) h covA ?_
   intro v573 ohr29705 h hr29705
   rw [r20_lists_s12] at h
   refine .go 1 ?_
   refine .ifC h (fun hc29706 h=>?_) (fun hc29706 h=>?_)
   ·refine .go 0 ?_
    refine okG h (fun hb29707 h=>?_)
    refine .ix hb29707 ?_
    refine .ld hb29707 ?_
    refine .go 5 ?_
    refine okG h (fun hb29708 h=>?_)
    refine .ix hb29708 ?_
    refine .ld hb29708 ?_
    refine .go 2 ?_
    refine SafeOps.bsplit 8 64 (fun b574=>r20_lists_j13 a570 x571 v572 v573 b574=some ohr29705) (fun HJ29712=>?_) (fun b574 h=>?_)
    ·refine SafeOps.ifD 56 h rfl (fun hc29709 h=>?_) (fun hc29709 h=>?_)
     ·refine rO 8 ?_
      exact SafeOps.drop' 8 rfl rfl rfl (SafeOps.unk 56 rfl hc29709 (HJ29712 _ h))
     ·refine .go 3 ?_
      refine okG h (fun hb29717 h=>?_)
      refine .ix hb29717 ?_
      refine .go 1 ?_
      refine .ld hb29717 ?_
      refine rO 2 ?_
      exact SafeOps.drop' 8 rfl rfl rfl (SafeOps.unk 56 rfl hc29709 (HJ29712 _ h))
    ·replace h:r20_lists_j13 a570 x571 v572 v573 b574=some ohr29705:=h
     rw [r20_lists_j13] at h
     refine .go 1 ?_
     refine SafeOps.ifD 65 h rfl (fun hc29713 h=>?_) (fun hc29713 h=>?_)
     ·refine .go 11 ?_
      replace h:=inr_out h hr29705
      replace h:=inr_out h hr29676
      cases h
      exact retF
     ·refine .go 3 ?_
      refine okG h (fun hb29715 h=>?_)
      refine .ix hb29715 ?_
      refine .go 1 ?_
      refine .ld hb29715 ?_
      refine .go 3 ?_
      refine .ifC h (fun hc29716 h=>?_) (fun hc29716 h=>?_)
      ·refine .go 1 ?_
       replace h:=inr_out h hr29705
       replace h:=inr_out h hr29676
       cases h
       exact retF
      ·refine .go 2 ?_
       exact lpK ⟨_,next_out h,covA⟩
   ·refine .go 0 ?_
    replace h:=inr_out h hr29705
    refine .go 2 ?_
    exact lpK ⟨_,next_out h,covA⟩
  ·refine .go 0 ?_
   replace h:=inr_out h hr29676
   refine .go 1 ?_
   cases h
   exact retF
theorem r08_may_sc (a577:api_Timer) (r:Bool) (h:r08_may a577=r):SC Tryz.prog gl 89 [V.agg a577.cells] (V.bool r):=by
 rw [r08_may] at h
 refine SC.go Tryz.func89 Tryz.call89 6 ?_
 refine .bjA 4 10 6 ?_
 refine .go 1 ?_
 refine .bjA 4 15 11 ?_
 refine .go 1 ?_
 cases h
 exact retF
theorem r08_Less_sc (a578:api_Timer) (a579:api_Timer) (r:Bool) (h:r08_Less a578 a579=r):SC Tryz.prog gl 90 [V.agg a578.cells,V.agg a579.cells] (V.bool r):=by
 rw [r08_Less] at h
 refine SC.go Tryz.func90 Tryz.call90 9 ?_
 refine SafeOps.bjoinL 13 23 10 rfl (b:=((decide (a578.At < a579.At))||((a578.At==a579.At)&&(decide (a578.Id < a579.Id))))) (b1:=true) (b0:=((a578.At==a579.At)&&(decide (a578.Id < a579.Id)))) (fun hc29765 K=>?_) (fun hc29765 K=>?_) bj_or ?_
 ·refine rO 13 ?_
  exact SafeOps.drop' 13 rfl rfl rfl K
 ·refine .go 6 ?_
  refine .bjA 6 22 16 ?_
  refine rO 1 ?_
  exact SafeOps.drop' 8 rfl rfl rfl K
 refine .go 1 ?_
 cases h
 exact retF
theorem r08_Check_sc (a580:List api_Timer) (r:Int) (h:r08_Check a580=some r):SC Tryz.prog gl 44 [V.sl 2 (rws api_Timer.cells a580)] (I r):=by
 rw [r08_Check] at h
 refine SC.go Tryz.func44 Tryz.call44 2 ?_
 refine .len ?_
 refine .go 1 ?_
 refine .ifC h (fun hc29828 h=>?_) (fun hc29828 h=>?_)
 ·refine .go 1 ?_
  cases h
  exact retF
 ·refine .go 1 ?_
  refine .len ?_
  refine .go 1 ?_
  refine Safe.loopS (fun(v581:Int)=>⟨Tryz.f44.ntmps,[(0,V.sl 2 (rws api_Timer.cells a580)),(10,V.sl 2 (rws api_Timer.cells a580)),(11,I (a580.length:Int)),(12,I v581)],[],[],[]⟩) h covA ?_
  intro v581 ohr29879 h hr29879
  rw [r08_Check_s4] at h
  refine .go 1 ?_
  refine .ifC h (fun hc29880 h=>?_) (fun hc29880 h=>?_)
  ·refine .go 1 ?_
   refine okG h (fun hb29881 h=>?_)
   refine .ix hb29881 ?_
   refine .ld hb29881 ?_
   refine .go 3 ?_
   refine Safe.regionD (n:=17) [] [] E_good mixed rfl ?_
   refine rA 16 [0] ?_
   refine .cP (r08_may_sc (gt a580 v581) _ rfl) 1 ?_
   refine rA 13 [2,3] ?_
   refine DAny.ifD 20 h rfl (fun hc29882 h=>?_) (fun hc29882 h=>?_)
   ·refine rA 0 (up 4 13) ?_
    refine DAny.nil (by kernel_rfl) ?_
    refine .go 2 ?_
    replace h:=inr_out h hr29879
    cases h
    exact retF
   ·refine rA 10 (up 4 3) ?_
    refine DAny.ifD 23 h rfl (fun hc29883 h=>?_) (fun hc29883 h=>?_)
    ·refine rA 6 (up 7 4) ?_
     refine DT 11 [] rfl rfl (v:=I (IntKind.i64.wrap (Int.tdiv (IntKind.i64.wrap (v581 - 1)) 4))) (fun _ hz=>(.quoV rfl rfl (by decide))) ?_
     refine okG h (fun hb29884 h=>?_)
     refine DT 12 [] rfl rfl (v:=V.spt 2 (rws api_Timer.cells a580) (Int.toNat (IntKind.i64.wrap (Int.tdiv (IntKind.i64.wrap (v581 - 1)) 4))) 0) (fun _ hz=>(.idxSlM (f:=api_Timer.cells) rfl rfl rfl rfl rfl hb29884)) ?_
     refine DT 13 [] rfl rfl (v:=V.agg [I ((gt a580 (IntKind.i64.wrap (Int.tdiv (IntKind.i64.wrap (v581 - 1)) 4))).At),I ((gt a580 (IntKind.i64.wrap (Int.tdiv (IntKind.i64.wrap (v581 - 1)) 4))).Id)]) (fun _ hz=>(.load rfl rfl (.sptM (f:=api_Timer.cells) hb29884 rfl) rfl)) ?_
     refine .cP (r08_Less_sc (gt a580 v581) (gt a580 (IntKind.i64.wrap (Int.tdiv (IntKind.i64.wrap (v581 - 1)) 4))) _ rfl) 14 ?_
     refine rA 0 [15,16] ?_
     refine DAny.nil (by kernel_rfl) ?_
     refine .go 0 ?_
     refine .ifC h (fun hc29885 h=>?_) (fun hc29885 h=>?_)
     ·refine .go 1 ?_
      replace h:=inr_out h hr29879
      cases h
      exact retF
     ·refine .go 2 ?_
      refine okG h (fun hb29886 h=>?_)
      refine Q0 E_good rfl (v:=V.sl 2 (rws api_Timer.cells (sub a580 0 v581))) (.slH (f:=api_Timer.cells) rfl rfl rfl rfl rfl hb29886) ?_
      refine .len ?_
      refine .go 1 ?_
      refine Safe.loopS (fun(v582:Int)=>⟨Tryz.f44.ntmps,[(0,V.sl 2 (rws api_Timer.cells a580)),(4,V.ptr [4] 0 0),(10,V.sl 2 (rws api_Timer.cells a580)),(11,I (a580.length:Int)),(12,I v581),(21,I v581),(22,V.bool (decide (v581 > 0))),(23,V.bool true),(24,V.agg [I ((gt a580 v581).At),I ((gt a580 v581).Id)]),(25,V.sl 2 (rws api_Timer.cells a580)),(26,I v581),(27,I (IntKind.i64.wrap (v581 - 1))),(28,I (IntKind.i64.wrap (Int.tdiv (IntKind.i64.wrap (v581 - 1)) 4))),(30,V.agg [I ((gt a580 (IntKind.i64.wrap (Int.tdiv (IntKind.i64.wrap (v581 - 1)) 4))).At),I ((gt a580 (IntKind.i64.wrap (Int.tdiv (IntKind.i64.wrap (v581 - 1)) 4))).Id)]),(31,V.bool (r08_Less (gt a580 v581) (gt a580 (IntKind.i64.wrap (Int.tdiv (IntKind.i64.wrap (v581 - 1)) 4))))),(32,V.bool (r08_Less (gt a580 v581) (gt a580 (IntKind.i64.wrap (Int.tdiv (IntKind.i64.wrap (v581 - 1)) 4))))),(36,V.sl 2 (rws api_Timer.cells (sub a580 0 v581))),(37,I ((sub a580 0 v581).length:Int)),(38,I v582)],[([4],Obj.box [I ((gt a580 v581).At),I ((gt a580 v581).Id)])],[],[]⟩) h covA ?_
      intro v582 ohr29895 h hr29895
      rw [r08_Check_s5] at h
      refine .go 1 ?_
      refine .ifC h (fun hc29896 h=>?_) (fun hc29896 h=>?_)
      ·refine .go 0 ?_
       refine okG h (fun hb29897 h=>?_)
       refine .ix hb29897 ?_
       refine .ld hb29897 ?_
       refine .go 7 ?_
       refine .ifC h (fun hc29898 h=>?_) (fun hc29898 h=>?_)
       ·refine .go 1 ?_
        replace h:=inr_out h hr29895
        replace h:=inr_out h hr29879
        cases h
        exact retF
       ·refine .go 2 ?_
        exact lpK ⟨_,next_out h,covA⟩
      ·refine .go 0 ?_
       replace h:=inr_out h hr29895
       refine .go 2 ?_
       exact lpK ⟨_,next_out h,covA⟩
    ·refine rA 0 (up 7 10) ?_
     refine DAny.nil (by kernel_rfl) ?_
     refine .go 3 ?_
     refine okG h (fun hb29899 h=>?_)
     refine Q0 E_good rfl (v:=V.sl 2 (rws api_Timer.cells (sub a580 0 v581))) (.slH (f:=api_Timer.cells) rfl rfl rfl rfl rfl hb29899) ?_
     refine .len ?_
     refine .go 1 ?_
     refine Safe.loopS (fun(v583:Int)=>⟨Tryz.f44.ntmps,[(0,V.sl 2 (rws api_Timer.cells a580)),(4,V.ptr [4] 0 0),(10,V.sl 2 (rws api_Timer.cells a580)),(11,I (a580.length:Int)),(12,I v581),(21,I v581),(22,V.bool (decide (v581 > 0))),(23,V.bool false),(32,V.bool false),(36,V.sl 2 (rws api_Timer.cells (sub a580 0 v581))),(37,I ((sub a580 0 v581).length:Int)),(38,I v583)],[([4],Obj.box [I ((gt a580 v581).At),I ((gt a580 v581).Id)])],[],[]⟩) h covA ?_
     intro v583 ohr29908 h hr29908
     rw [r08_Check_s6] at h
     refine .go 1 ?_
     refine .ifC h (fun hc29909 h=>?_) (fun hc29909 h=>?_)
     ·refine .go 0 ?_
      refine okG h (fun hb29910 h=>?_)
      refine .ix hb29910 ?_
      refine .ld hb29910 ?_
      refine .go 7 ?_
      refine .ifC h (fun hc29911 h=>?_) (fun hc29911 h=>?_)
      ·refine .go 1 ?_
       replace h:=inr_out h hr29908
       replace h:=inr_out h hr29879
       cases h
       exact retF
      ·refine .go 2 ?_
       exact lpK ⟨_,next_out h,covA⟩
     ·refine .go 0 ?_
      replace h:=inr_out h hr29908
      refine .go 2 ?_
      exact lpK ⟨_,next_out h,covA⟩
  ·refine .go 0 ?_
   replace h:=inr_out h hr29879
   refine .go 1 ?_
   cases h
   exact retF
theorem r09_Check_sc (a584:List api_Fd) (r:Int) (h:r09_Check a584=some r):SC Tryz.prog gl 45 [V.sl 3 (rws api_Fd.cells a584)] (I r):=by
 rw [r09_Check] at h
 refine SC.go Tryz.func45 Tryz.call45 2 ?_
 refine .len ?_
 refine .go 1 ?_
 refine .ifC h (fun hc29996 h=>?_) (fun hc29996 h=>?_)
 ·refine .go 1 ?_
  cases h
  exact retF
 ·refine .go 1 ?_
  refine .len ?_
  refine .go 1 ?_
  refine Safe.loopS (fun(v585:Int)=>⟨Tryz.f45.ntmps,[(0,V.sl 3 (rws api_Fd.cells a584)),(10,V.sl 3 (rws api_Fd.cells a584)),(11,I (a584.length:Int)),(12,I v585)],[],[],[]⟩) h covA ?_
  intro v585 ohr30047 h hr30047
  rw [r09_Check_s3] at h
  refine .go 1 ?_
  refine .ifC h (fun hc30048 h=>?_) (fun hc30048 h=>?_)
  ·refine .go 1 ?_
   refine okG h (fun hb30049 h=>?_)
   refine .ix hb30049 ?_
   refine .ld hb30049 ?_
   refine .go 7 ?_
   refine SafeOps.bjoinL 13 33 20 rfl (b:=((decide (((gt a584 v585).Who) < (-1)))||((!((gt a584 v585).Open))&&(((gt a584 v585).Ready)||(((gt a584 v585).Who) != (-1)))))) (b1:=true) (b0:=((!((gt a584 v585).Open))&&(((gt a584 v585).Ready)||(((gt a584 v585).Who) != (-1))))) (fun hc30050 K=>?_) (fun hc30050 K=>?_) bj_or ?_
   ·refine rO 13 ?_
    exact SafeOps.drop' 13 rfl rfl rfl K
   ·refine .go 4 ?_
    refine SafeOps.bjoinL 8 32 24 rfl (b:=((!((gt a584 v585).Open))&&(((gt a584 v585).Ready)||(((gt a584 v585).Who) != (-1))))) (b1:=(((gt a584 v585).Ready)||(((gt a584 v585).Who) != (-1)))) (b0:=false) (fun hc30051 K=>?_) (fun hc30051 K=>?_) bj_and ?_
    ·refine .go 3 ?_
     refine .bjO 4 31 27 ?_
     refine rO 1 ?_
     exact SafeOps.drop' 5 rfl rfl rfl K
    ·refine rO 8 ?_
     exact SafeOps.drop' 8 rfl rfl rfl K
    refine rO 1 ?_
    exact SafeOps.drop' 6 rfl rfl rfl K
   refine .go 1 ?_
   refine SafeOps.bjoinL 8 42 34 rfl (b:=(((decide (((gt a584 v585).Who) < (-1)))||((!((gt a584 v585).Open))&&(((gt a584 v585).Ready)||(((gt a584 v585).Who) != (-1)))))||(((gt a584 v585).Ready)&&(((gt a584 v585).Who) != (-1))))) (b1:=true) (b0:=(((gt a584 v585).Ready)&&(((gt a584 v585).Who) != (-1)))) (fun hc30053 K=>?_) (fun hc30053 K=>?_) bj_or ?_
   ·refine rO 8 ?_
    exact SafeOps.drop' 8 rfl rfl rfl K
   ·refine .go 3 ?_
    refine .bjA 4 41 37 ?_
    refine rO 1 ?_
    exact SafeOps.drop' 5 rfl rfl rfl K
   refine .go 0 ?_
   refine .ifC h (fun hc30055 h=>?_) (fun hc30055 h=>?_)
   ·refine .go 1 ?_
    replace h:=inr_out h hr30047
    cases h
    exact retF
   ·refine .go 2 ?_
    refine okG h (fun hb30056 h=>?_)
    refine Q0 E_good rfl (v:=V.sl 3 (rws api_Fd.cells (sub a584 0 v585))) (.slH (f:=api_Fd.cells) rfl rfl rfl rfl rfl hb30056) ?_
    refine .len ?_
    refine .go 1 ?_
    refine Safe.loopS (fun(v586:Int)=>⟨Tryz.f45.ntmps,[(0,V.sl 3 (rws api_Fd.cells a584)),(4,V.ptr [4] 0 0),(10,V.sl 3 (rws api_Fd.cells a584)),(11,I (a584.length:Int)),(12,I v585),(45,V.sl 3 (rws api_Fd.cells (sub a584 0 v585))),(46,I ((sub a584 0 v585).length:Int)),(47,I v586)],[([4],Obj.box [V.bool ((gt a584 v585).Open),V.bool ((gt a584 v585).Ready),I ((gt a584 v585).Who)])],[],[]⟩) h covA ?_
    intro v586 ohr30067 h hr30067
    rw [r09_Check_s4] at h
    refine .go 1 ?_
    refine .ifC h (fun hc30068 h=>?_) (fun hc30068 h=>?_)
    ·refine .go 0 ?_
     refine okG h (fun hb30069 h=>?_)
     refine .ix hb30069 ?_
     refine .ld hb30069 ?_
     refine .go 6 ?_
     refine .bjA 6 60 54 ?_
     refine .go 0 ?_
     refine .ifC h (fun hc30071 h=>?_) (fun hc30071 h=>?_)
     ·refine .go 1 ?_
      replace h:=inr_out h hr30067
      replace h:=inr_out h hr30047
      cases h
      exact retF
     ·refine .go 2 ?_
      exact lpK ⟨_,next_out h,covA⟩
    ·refine .go 0 ?_
     replace h:=inr_out h hr30067
     refine .go 2 ?_
     exact lpK ⟨_,next_out h,covA⟩
  ·refine .go 0 ?_
   replace h:=inr_out h hr30047
   refine .go 1 ?_
   cases h
   exact retF
theorem r11_on_sc (a587:List api_Join) (a588:Int) (r:Int) (h:r11_on a587 a588=some r):SC Tryz.prog gl 91 [V.sl 2 (rws api_Join.cells a587),I a588] (I r):=by
 rw [r11_on] at h
 refine SC.go Tryz.func91 Tryz.call91 2 ?_
 refine .len ?_
 refine .go 1 ?_
 refine Safe.loopS (fun(v589:Int)=>⟨Tryz.f91.ntmps,[(1,I a588),(7,V.sl 2 (rws api_Join.cells a587)),(8,I (a587.length:Int)),(9,I v589)],[],[],[]⟩) h covA ?_
 intro v589 ohr30111 h hr30111
 rw [r11_on_s1] at h
 refine .go 1 ?_
 refine .ifC h (fun hc30112 h=>?_) (fun hc30112 h=>?_)
 ·refine .go 0 ?_
  refine okG h (fun hb30113 h=>?_)
  refine .ix hb30113 ?_
  refine .ld hb30113 ?_
  refine .go 6 ?_
  refine .ifC h (fun hc30114 h=>?_) (fun hc30114 h=>?_)
  ·refine .go 3 ?_
   replace h:=inr_out h hr30111
   cases h
   exact retF
  ·refine .go 2 ?_
   exact lpK ⟨_,next_out h,covA⟩
 ·refine .go 0 ?_
  replace h:=inr_out h hr30111
  refine .go 1 ?_
  cases h
  exact retF
theorem r11_Way_sc (a590:List api_Join) (a595:Int) (r:List Int) (h:r11_Way a590 a595=some r):SC Tryz.prog gl 93 [V.sl 2 (rws api_Join.cells a590),I a595] (V.own 1 (rws (fun n=>[I n]) r)):=by
 rw [r11_Way] at h
 refine SC.go Tryz.func93 Tryz.call93 3 ?_
 refine .len ?_
 refine .go 2 ?_
 refine Safe.loopS (fun((v591,v592,v593):Int×(List Int)×Int)=>⟨Tryz.f93.ntmps,[(0,V.sl 2 (rws api_Join.cells a590)),(1,I v591),(5,V.ref [7000,118,5] 0 (rws (fun n=>[I n]) v592).length),(8,I (IntKind.i64.wrap ((a590.length:Int)+1))),(9,I v593)],[([7000,118,5],Obj.rows 1 (rws (fun n=>[I n]) v592) false)],[],[]⟩) h (.empty [7000,118,5] 1 rfl (.cov ⟨rfl,rfl,(ut (ut (upT_cons (.nilref _) (ut (ut upT_nil))))),(uo upOb_nil),upOut_nil,rfl⟩)) ?_
 rintro ⟨v591,v592,v593⟩ ohr30207 h hr30207
 rw [r11_Way_s1] at h
 refine .go 1 ?_
 refine .ifC h (fun hc30208 h=>?_) (fun hc30208 h=>?_)
 ·refine .go 2 ?_
  refine bindG h ?_
  intro x594 he30210 h
  refine .cP (r11_on_sc a590 v591 _ he30210) ?_
  refine .go 3 ?_
  refine .ifC h (fun hc30211 h=>?_) (fun hc30211 h=>?_)
  ·refine .go 2 ?_
   replace h:=inr_out h hr30207
   cases h
   refine retG ?_
   exact ⟨_,(.own rfl rfl),by simp⟩
  ·refine .go 2 ?_
   refine SafeOps.quiet1 E_good rfl rfl rfl (.litM (f:=(fun n=>[I n])) (xs:=[x594]) rfl rfl (by decide) rfl rfl rfl rfl rfl) rfl ?_
   refine okG h (fun hb30212 h=>?_)
   refine SafeOps.appendM (fun n=>[I n]) (xs:=v592) (ys:=[x594]) E_good rfl rfl rfl rfl rfl rfl rfl rfl rfl (.own rfl) (.own rfl) (fun _=>rfl) hb30212 ?_
   refine .go 3 ?_
   exact lpK ⟨_,next_out h,(.ren [20] [7000,118,5] covA)⟩
 ·refine .go 0 ?_
  replace h:=inr_out h hr30207
  refine .go 2 ?_
  cases h
  refine retG ?_
  exact ⟨_,(.own rfl rfl),by simp⟩
theorem r10_Has_sc (a596:List Int) (a597:Int) (r:Bool) (h:r10_Has a596 a597=some r):SC Tryz.prog gl 92 [V.sl 1 (rws (fun n=>[I n]) a596),I a597] (V.bool r):=by
 rw [r10_Has] at h
 refine SC.go Tryz.func92 Tryz.call92 2 ?_
 refine .len ?_
 refine .go 1 ?_
 refine Safe.loopS (fun(v598:Int)=>⟨Tryz.f92.ntmps,[(1,I a597),(7,V.sl 1 (rws (fun n=>[I n]) a596)),(8,I (a596.length:Int)),(9,I v598)],[],[],[]⟩) h covA ?_
 intro v598 ohr30240 h hr30240
 rw [r10_Has_s1] at h
 refine .go 1 ?_
 refine .ifC h (fun hc30241 h=>?_) (fun hc30241 h=>?_)
 ·refine .go 0 ?_
  refine okG h (fun hb30242 h=>?_)
  refine .ix hb30242 ?_
  refine .ld hb30242 ?_
  refine .go 4 ?_
  refine .ifC h (fun hc30243 h=>?_) (fun hc30243 h=>?_)
  ·refine .go 1 ?_
   replace h:=inr_out h hr30240
   cases h
   exact retF
  ·refine .go 2 ?_
   exact lpK ⟨_,next_out h,covA⟩
 ·refine .go 0 ?_
  replace h:=inr_out h hr30240
  refine .go 1 ?_
  cases h
  exact retF
theorem r11_Check_sc (a599:List api_Join) (r:Int) (h:r11_Check a599=some r):SC Tryz.prog gl 46 [V.sl 2 (rws api_Join.cells a599)] (I r):=by
 rw [r11_Check] at h
 refine SC.go Tryz.func46 Tryz.call46 2 ?_
 refine .len ?_
 refine .go 1 ?_
 refine .ifC h (fun hc30264 h=>?_) (fun hc30264 h=>?_)
 ·refine .go 1 ?_
  cases h
  exact retF
 ·refine .go 1 ?_
  refine .len ?_
  refine .go 1 ?_
  refine Safe.loopS (fun(v603:Int)=>⟨Tryz.f46.ntmps,[(0,V.sl 2 (rws api_Join.cells a599)),(10,V.sl 2 (rws api_Join.cells a599)),(11,I (a599.length:Int)),(12,I v603)],[],[],[]⟩) h covA ?_
  intro v603 ohr30310 h hr30310
  rw [r11_Check_s2] at h
  refine .go 1 ?_
  refine .ifC h (fun hc30311 h=>?_) (fun hc30311 h=>?_)
  ·refine .go 1 ?_
   refine okG h (fun hb30312 h=>?_)
   refine .ix hb30312 ?_
   refine .ld hb30312 ?_
   refine .go 3 ?_
   refine Safe.regionD (n:=17) [] [] E_good mixed rfl ?_
   refine rA 13 (up 0 4) ?_
   refine DAny.ifD 20 h rfl (fun hc30313 h=>?_) (fun hc30313 h=>?_)
   ·refine rA 0 (up 4 13) ?_
    refine DAny.nil (by kernel_rfl) ?_
    refine .go 2 ?_
    replace h:=inr_out h hr30310
    cases h
    exact retF
   ·refine rA 8 (up 4 5) ?_
    refine DAny.ifD 25 h rfl (fun hc30314 h=>?_) (fun hc30314 h=>?_)
    ·refine rA 0 (up 9 8) ?_
     refine DAny.nil (by kernel_rfl) ?_
     refine .go 2 ?_
     replace h:=inr_out h hr30310
     cases h
     exact retF
    ·refine rA 6 [9,10] ?_
     refine okG h (fun hb30315 h=>?_)
     refine DT 11 [] rfl rfl (v:=V.sl 2 (rws api_Join.cells (sub a599 0 v603))) (fun _ hz=>(.slH (f:=api_Join.cells) rfl rfl rfl rfl rfl hb30315)) ?_
     refine rA 3 [12,13] ?_
     refine bindG h ?_
     intro x604 he30317 h
     refine .cP (r11_on_sc (sub a599 0 v603) ((gt a599 v603).Who) _ he30317) 14 ?_
     refine rA 0 [15,16] ?_
     refine DAny.nil (by kernel_rfl) ?_
     refine .go 0 ?_
     refine .ifC h (fun hc30318 h=>?_) (fun hc30318 h=>?_)
     ·refine .go 1 ?_
      replace h:=inr_out h hr30310
      cases h
      exact retF
     ·refine .go 2 ?_
      exact lpK ⟨_,next_out h,covA⟩
  ·refine .go 0 ?_
   replace h:=inr_out h hr30310
   refine .go 1 ?_
   refine .len ?_
   refine .go 1 ?_
   refine Safe.loopS (fun(v600:Int)=>⟨Tryz.f46.ntmps,[(0,V.sl 2 (rws api_Join.cells a599)),(35,V.sl 2 (rws api_Join.cells a599)),(36,I (a599.length:Int)),(37,I v600)],[],[],[]⟩) h covA ?_
   intro v600 ohr30335 h hr30335
   rw [r11_Check_s3] at h
   refine .go 1 ?_
   refine .ifC h (fun hc30336 h=>?_) (fun hc30336 h=>?_)
   ·refine .go 0 ?_
    refine okG h (fun hb30337 h=>?_)
    refine .ix hb30337 ?_
    refine .ld hb30337 ?_
    refine .go 2 ?_
    refine Safe.regionD (n:=7) [] [] E_good mixed rfl ?_
    refine rA 2 [0,1,2,4,5] ?_
    refine bindG h ?_
    intro x601 he30339 h
    refine DAny.only (i:=3) rfl (by kernel_rfl) (.quiet rfl rfl rfl (v:=V.ref [44,0] 0 (rws (fun n=>[I n]) x601).length) (.callP rfl rfl (r11_Way_sc a599 ((gt a599 v600).Who) _ he30339) rfl) rfl ?_)
    refine bindG h ?_
    intro x602 he30341 h
    refine DT 6 [] rfl rfl (v:=V.bool x602) (fun _ hz=>(.callS rfl (.cons (.full (hz _ _ rfl rfl) rfl) (.cons (.free rfl) .nil)) (r10_Has_sc x601 ((gt a599 v600).Who) _ he30341) (.plain rfl) rfl)) ?_
    refine DAny.nil (by kernel_rfl) ?_
    refine .go 0 ?_
    refine .ifC h (fun hc30342 h=>?_) (fun hc30342 h=>?_)
    ·refine .go 1 ?_
     replace h:=inr_out h hr30335
     cases h
     exact retF
    ·refine .go 2 ?_
     exact lpK ⟨_,next_out h,covA⟩
   ·refine .go 0 ?_
    replace h:=inr_out h hr30335
    refine .go 1 ?_
    cases h
    exact retF
theorem r17_many_sc (a605:List Int) (a606:Int) (r:Int) (h:r17_many a605 a606=some r):SC Tryz.prog gl 95 [V.sl 1 (rws (fun n=>[I n]) a605),I a606] (I r):=by
 rw [r17_many] at h
 refine SC.go Tryz.func95 Tryz.call95 3 ?_
 refine .len ?_
 refine .go 1 ?_
 refine Safe.loopS (fun((v607,v608):Int×Int)=>⟨Tryz.f95.ntmps,[(1,I a606),(5,I v607),(8,V.sl 1 (rws (fun n=>[I n]) a605)),(9,I (a605.length:Int)),(10,I v608)],[],[],[]⟩) h covA ?_
 rintro ⟨v607,v608⟩ ohr30379 h hr30379
 rw [r17_many_s1] at h
 refine .go 1 ?_
 refine .ifC h (fun hc30380 h=>?_) (fun hc30380 h=>?_)
 ·refine .go 0 ?_
  refine okG h (fun hb30381 h=>?_)
  refine .ix hb30381 ?_
  refine .ld hb30381 ?_
  refine .go 4 ?_
  refine .ifC h (fun hc30382 h=>?_) (fun hc30382 h=>?_)
  ·refine .go 5 ?_
   exact lpK ⟨_,next_out h,covA⟩
  ·refine .go 2 ?_
   exact lpK ⟨_,next_out h,covA⟩
 ·refine .go 0 ?_
  replace h:=inr_out h hr30379
  refine .go 2 ?_
  cases h
  exact retF
theorem r17_Fits_sc (a609:List Int) (r:Bool) (h:r17_Fits a609=some r):SC Tryz.prog gl 94 [V.sl 1 (rws (fun n=>[I n]) a609)] (V.bool r):=by
 rw [r17_Fits] at h
 refine SC.go Tryz.func94 Tryz.call94 2 ?_
 refine bindG h ?_
 intro x610 he30388 h
 refine .cP (r17_many_sc a609 1 _ he30388) ?_
 refine .go 2 ?_
 refine .len ?_
 refine .go 1 ?_
 refine bindG h ?_
 intro x611 he30390 h
 refine .cP (r17_many_sc a609 3 _ he30390) ?_
 refine .go 4 ?_
 cases h
 exact retF
theorem r17_Check_sc (a612:api_Idle) (r:Int) (h:r17_Check a612=some r):SC Tryz.prog gl 47 [V.agg a612.cells] (I r):=by
 rw [r17_Check] at h
 refine SC.go Tryz.func47 Tryz.call47 2 ?_
 refine Safe.regionD (n:=29) [] [] E_good mixed rfl ?_
 refine rA 27 [0,1] ?_
 refine DT 2 [] rfl rfl (v:=I (a612.Is.length:Int)) (fun _ hz=>(.fnE rfl lenE)) ?_
 refine rA 24 [3,4] ?_
 refine DAny.ifD 9 h rfl (fun hc30449 h=>?_) (fun hc30449 h=>?_)
 ·refine rA 0 (up 5 24) ?_
  refine DAny.nil (by kernel_rfl) ?_
  refine .go 2 ?_
  cases h
  exact retF
 ·refine rA 22 [5,6] ?_
  refine DT 7 [] rfl rfl (v:=I (a612.Is.length:Int)) (fun _ hz=>(.fnE rfl lenE)) ?_
  refine rA 18 (up 8 3) ?_
  refine DAny.ifD 15 h rfl (fun hc30450 h=>?_) (fun hc30450 h=>?_)
  ·refine rA 0 (up 11 18) ?_
   refine DAny.nil (by kernel_rfl) ?_
   refine .go 2 ?_
   cases h
   exact retF
  ·refine rA 16 [11,12] ?_
   refine bindG h ?_
   intro x615 he30452 h
   refine .cP (r17_Fits_sc a612.Is _ he30452) 13 ?_
   refine rA 12 (up 14 3) ?_
   refine DAny.ifD 21 h rfl (fun hc30453 h=>?_) (fun hc30453 h=>?_)
   ·refine rA 0 (up 17 12) ?_
    refine DAny.nil (by kernel_rfl) ?_
    refine .go 2 ?_
    cases h
    exact retF
   ·refine rA 10 [17,18] ?_
    refine DT 19 [] rfl rfl (v:=I (a612.Stack.length:Int)) (fun _ hz=>(.fnE rfl lenE)) ?_
    refine rA 7 [20,21] ?_
    refine bindG h ?_
    intro x616 he30455 h
    refine .cP (r17_many_sc a612.Is 2 _ he30455) 22 ?_
    refine rA 4 [23,24] ?_
    refine bindG h ?_
    intro x617 he30457 h
    refine .cP (r17_many_sc a612.Is 3 _ he30457) 25 ?_
    refine rA 0 (up 26 3) ?_
    refine DAny.nil (by kernel_rfl) ?_
    refine .go 0 ?_
    refine .ifC h (fun hc30458 h=>?_) (fun hc30458 h=>?_)
    ·refine .go 1 ?_
     cases h
     exact retF
    ·refine .go 2 ?_
     refine .len ?_
     refine .go 1 ?_
     refine Safe.loopS (fun(v613:Int)=>⟨Tryz.f47.ntmps,[(1,V.ptr [1] 0 0),(35,V.sl 1 (rws (fun n=>[I n]) a612.Is)),(36,I (a612.Is.length:Int)),(37,I v613)],[([1],Obj.box a612.cells)],[],[]⟩) h covA ?_
     intro v613 ohr30491 h hr30491
     rw [r17_Check_s1] at h
     refine .go 1 ?_
     refine .ifC h (fun hc30492 h=>?_) (fun hc30492 h=>?_)
     ·refine .go 1 ?_
      refine okG h (fun hb30493 h=>?_)
      refine .ix hb30493 ?_
      refine .ld hb30493 ?_
      refine .go 5 ?_
      refine .bjO 3 47 44 ?_
      refine .go 1 ?_
      refine SafeOps.ifD 48 h rfl (fun hc30495 h=>?_) (fun hc30495 h=>?_)
      ·refine .go 12 ?_
       replace h:=inr_out h hr30491
       cases h
       exact retF
      ·refine .go 3 ?_
       refine SafeOps.ifD 51 h rfl (fun hc30501 h=>?_) (fun hc30501 h=>?_)
       ·refine .go 3 ?_
        refine bindG h ?_
        intro x614 he30505 h
        refine .cP (r17_many_sc a612.Stack v613 _ he30505) ?_
        refine .go 3 ?_
        refine .ifC h (fun hc30506 h=>?_) (fun hc30506 h=>?_)
        ·refine .go 1 ?_
         replace h:=inr_out h hr30491
         cases h
         exact retF
        ·refine .go 2 ?_
         exact lpK ⟨_,next_out h,covA⟩
       ·refine .go 10 ?_
        exact lpK ⟨_,next_out h,covA⟩
     ·refine .go 0 ?_
      replace h:=inr_out h hr30491
      refine .go 1 ?_
      cases h
      exact retF
theorem r10_Check_sc (a618:api_Sem) (r:Int) (h:r10_Check a618=some r):SC Tryz.prog gl 48 [V.agg a618.cells] (I r):=by
 rw [r10_Check] at h
 refine SC.go Tryz.func48 Tryz.call48 6 ?_
 refine .bjO 4 12 8 ?_
 refine .go 1 ?_
 refine SafeOps.bjoinL 5 18 13 rfl (b:=(((decide (a618.Free < 0))||(decide (a618.Free > 1000)))||(decide ((a618.Wait.length:Int) > 256)))) (b1:=true) (b0:=decide ((a618.Wait.length:Int) > 256)) (fun hc30601 K=>?_) (fun hc30601 K=>?_) bj_or ?_
 ·refine rO 5 ?_
  exact SafeOps.drop' 5 rfl rfl rfl K
 ·refine .go 2 ?_
  refine .len ?_
  refine rO 2 ?_
  exact SafeOps.drop' 5 rfl rfl rfl K
 refine .go 1 ?_
 refine SafeOps.bjoinL 10 29 19 rfl (b:=((((decide (a618.Free < 0))||(decide (a618.Free > 1000)))||(decide ((a618.Wait.length:Int) > 256)))||((decide (a618.Free > 0))&&(decide ((a618.Wait.length:Int) > 0))))) (b1:=true) (b0:=((decide (a618.Free > 0))&&(decide ((a618.Wait.length:Int) > 0)))) (fun hc30602 K=>?_) (fun hc30602 K=>?_) bj_or ?_
 ·refine rO 10 ?_
  exact SafeOps.drop' 10 rfl rfl rfl K
 ·refine .go 4 ?_
  refine SafeOps.bjoinL 5 28 23 rfl (b:=((decide (a618.Free > 0))&&(decide ((a618.Wait.length:Int) > 0)))) (b1:=decide ((a618.Wait.length:Int) > 0)) (b0:=false) (fun hc30603 K=>?_) (fun hc30603 K=>?_) bj_and ?_
  ·refine .go 2 ?_
   refine .len ?_
   refine rO 2 ?_
   exact SafeOps.drop' 5 rfl rfl rfl K
  ·refine rO 5 ?_
   exact SafeOps.drop' 5 rfl rfl rfl K
  refine rO 1 ?_
  exact SafeOps.drop' 6 rfl rfl rfl K
 refine .go 0 ?_
 refine .ifC h (fun hc30604 h=>?_) (fun hc30604 h=>?_)
 ·refine .go 1 ?_
  cases h
  exact retF
 ·refine .go 2 ?_
  refine .len ?_
  refine .go 1 ?_
  refine Safe.loopS (fun(v619:Int)=>⟨Tryz.f48.ntmps,[(1,V.ptr [1] 0 0),(31,V.sl 1 (rws (fun n=>[I n]) a618.Wait)),(32,I (a618.Wait.length:Int)),(33,I v619)],[([1],Obj.box a618.cells)],[],[]⟩) h covA ?_
  intro v619 ohr30627 h hr30627
  rw [r10_Check_s1] at h
  refine .go 1 ?_
  refine .ifC h (fun hc30628 h=>?_) (fun hc30628 h=>?_)
  ·refine .go 1 ?_
   refine okG h (fun hb30629 h=>?_)
   refine .ix hb30629 ?_
   refine .ld hb30629 ?_
   refine .go 5 ?_
   refine SafeOps.ifD 40 h rfl (fun hc30630 h=>?_) (fun hc30630 h=>?_)
   ·refine .go 9 ?_
    replace h:=inr_out h hr30627
    cases h
    exact retF
   ·refine .go 3 ?_
    refine okG h (fun hb30634 h=>?_)
    refine Q0 E_good rfl (v:=V.sl 1 (rws (fun n=>[I n]) (sub a618.Wait 0 v619))) (.slH (f:=(fun n=>[I n])) rfl rfl rfl rfl rfl hb30634) ?_
    refine .go 1 ?_
    refine bindG h ?_
    intro x620 he30636 h
    refine .cP (r10_Has_sc (sub a618.Wait 0 v619) (gt a618.Wait v619) _ he30636) ?_
    refine .go 1 ?_
    refine .ifC h (fun hc30637 h=>?_) (fun hc30637 h=>?_)
    ·refine .go 1 ?_
     replace h:=inr_out h hr30627
     cases h
     exact retF
    ·refine .go 2 ?_
     exact lpK ⟨_,next_out h,covA⟩
  ·refine .go 0 ?_
   replace h:=inr_out h hr30627
   refine .go 1 ?_
   cases h
   exact retF
theorem r20_in_sc (a621:Int) (a622:Int) (a623:Int) (r:Bool) (h:r20_in a621 a622 a623=r):SC Tryz.prog gl 96 [I a621,I a622,I a623] (V.bool r):=by
 rw [r20_in] at h
 refine SC.go Tryz.func96 Tryz.call96 5 ?_
 refine .bjA 4 14 10 ?_
 refine .go 1 ?_
 cases h
 exact retF
theorem r07_pcs_sc (a624:Int) (r:Int) (h:r07_pcs a624=r):SC Tryz.prog gl 130 [I a624] (I r):=by
 rw [r07_pcs] at h
 refine SC.go Tryz.func130 Tryz.call130 4 ?_
 refine .bjO 3 8 5 ?_
 refine .go 0 ?_
 refine .ifC h (fun hc30692 h=>?_) (fun hc30692 h=>?_)
 ·refine .go 1 ?_
  cases h
  exact retF
 ·refine .go 2 ?_
  refine .ifC h (fun hc30693 h=>?_) (fun hc30693 h=>?_)
  ·refine .go 1 ?_
   cases h
   exact retF
  ·refine .go 1 ?_
   cases h
   exact retF
theorem r07_count_sc (a625:Int) (a626:Int) (r:Bool) (h:r07_count a625 a626=r):SC Tryz.prog gl 131 [I a625,I a626] (V.bool r):=by
 rw [r07_count] at h
 refine SC.go Tryz.func131 Tryz.call131 5 ?_
 refine .bjA 3 11 8 ?_
 refine .go 1 ?_
 cases h
 exact retF
theorem r07_May_sc (a627:api_Hand) (r:Bool) (h:r07_May a627=r):SC Tryz.prog gl 97 [V.agg a627.cells] (V.bool r):=by
 rw [r07_May] at h
 refine SC.go Tryz.func97 Tryz.call97 2 ?_
 refine Safe.regionD (n:=32) [] [] E_good mixed rfl ?_
 refine rA 28 (up 0 4) ?_
 refine DAny.ifD 6 h rfl (fun hc30702 h=>?_) (fun hc30702 h=>?_)
 ·refine rA 24 (up 4 4) ?_
  refine .cP (r07_pcs_sc a627.Kind _ rfl) 8 ?_
  refine rA 20 (up 9 3) ?_
  refine DAny.ifD 14 h rfl (fun hc30703 h=>?_) (fun hc30703 h=>?_)
  ·refine rA 18 [12,13] ?_
   refine .cP (r07_count_sc a627.T (-1) _ rfl) 14 ?_
   refine rA 15 [15,16] ?_
   refine DAny.ifD 19 h rfl (fun hc30704 h=>?_) (fun hc30704 h=>?_)
   ·refine rA 13 [17,18] ?_
    refine .cP (r07_count_sc a627.B (-1) _ rfl) 19 ?_
    refine rA 10 [20,21] ?_
    refine DAny.ifD 24 h rfl (fun hc30705 h=>?_) (fun hc30705 h=>?_)
    ·refine rA 5 (up 22 5) ?_
     refine DAny.ifD 29 h rfl (fun hc30706 h=>?_) (fun hc30706 h=>?_)
     ·refine rA 0 (up 27 5) ?_
      refine DAny.nil (by kernel_rfl) ?_
      refine .go 0 ?_
      cases h
      exact retF
     ·refine rA 0 (up 27 5) ?_
      refine DAny.nil (by kernel_rfl) ?_
      refine .go 0 ?_
      cases h
      exact retF
    ·refine rA 0 (up 22 10) ?_
     refine DAny.nil (by kernel_rfl) ?_
     refine .go 0 ?_
     cases h
     exact retF
   ·refine rA 0 (up 17 15) ?_
    refine DAny.nil (by kernel_rfl) ?_
    refine .go 0 ?_
    cases h
    exact retF
  ·refine rA 0 (up 12 20) ?_
   refine DAny.nil (by kernel_rfl) ?_
   refine .go 0 ?_
   cases h
   exact retF
 ·refine rA 0 (up 4 28) ?_
  refine DAny.nil (by kernel_rfl) ?_
  refine .go 0 ?_
  cases h
  exact retF
theorem r05_Find_sc (a628:api_Places) (a629:Int) (r:Int×Int) (h:r05_Find a628 a629=some r):SC Tryz.prog gl 132 [V.agg a628.cells,I a629] (V.tup [I r.1,I r.2]):=by
 rw [r05_Find] at h
 refine SC.go Tryz.func132 Tryz.call132 4 ?_
 refine bindG h ?_
 intro x630 he30816 h
 refine .cP (r05_Check_sc a628 _ he30816) ?_
 refine .go 2 ?_
 refine .bjO 3 14 11 ?_
 refine .go 0 ?_
 refine .ifC h (fun hc30818 h=>?_) (fun hc30818 h=>?_)
 ·refine .go 2 ?_
  cases h
  exact retF
 ·refine .go 1 ?_
  refine Q0 E_good rfl (v:=I (Int.tmod a629 256)) (.remV rfl rfl (by decide)) ?_
  refine .go 2 ?_
  refine Q0 E_good rfl (v:=I (IntKind.i64.wrap (Int.tdiv a629 256))) (.quoV rfl rfl (by decide)) ?_
  refine .go 4 ?_
  refine .len ?_
  refine .go 2 ?_
  refine SafeOps.ifD 24 h rfl (fun hc30819 h=>?_) (fun hc30819 h=>?_)
  ·refine .go 11 ?_
   cases h
   exact retF
  ·refine .go 4 ?_
   refine okG h (fun hb30821 h=>?_)
   refine .ix hb30821 ?_
   refine .ld hb30821 ?_
   refine .go 2 ?_
   refine .ifC h (fun hc30822 h=>?_) (fun hc30822 h=>?_)
   ·refine .go 2 ?_
    cases h
    exact retF
   ·refine .go 4 ?_
    refine okG h (fun hb30823 h=>?_)
    refine .ix hb30823 ?_
    refine .ld hb30823 ?_
    refine .go 1 ?_
    refine .ifC h (fun hc30824 h=>?_) (fun hc30824 h=>?_)
    ·refine .go 2 ?_
     cases h
     exact retF
    ·refine .go 3 ?_
     refine okG h (fun hb30825 h=>?_)
     refine .ix hb30825 ?_
     refine .ld hb30825 ?_
     refine .go 1 ?_
     refine .ifC h (fun hc30826 h=>?_) (fun hc30826 h=>?_)
     ·refine .go 2 ?_
      cases h
      exact retF
     ·refine .go 3 ?_
      cases h
      exact retF
theorem r20_holds_sc (a631:api_World) (a632:Int) (a633:Int) (r:Bool) (h:r20_holds a631 a632 a633=some r):SC Tryz.prog gl 98 [V.agg a631.cells,I a632,I a633] (V.bool r):=by
 rw [r20_holds] at h
 refine SC.go Tryz.func98 Tryz.call98 4 ?_
 refine .ifC h (fun hc30834 h=>?_) (fun hc30834 h=>?_)
 ·refine .go 1 ?_
  cases h
  exact retF
 ·refine .go 3 ?_
  refine bindG h ?_
  rintro ⟨x634,x635⟩ he30837 h
  refine .cP (r05_Find_sc a631.Ids a632 _ he30837) ?_
  refine .go 8 ?_
  refine SafeOps.ifD 20 h rfl (fun hc30838 h=>?_) (fun hc30838 h=>?_)
  ·refine .go 3 ?_
   refine okG h (fun hb30840 h=>?_)
   refine .ix hb30840 ?_
   refine .go 1 ?_
   refine .ld hb30840 ?_
   refine .go 4 ?_
   cases h
   exact retF
  ·refine .go 10 ?_
   cases h
   exact retF
theorem r20_worker_sc (a642:api_Config) (a636:api_World) (a637:Int) (r:Bool) (h:r20_worker a642 a636 a637=some r):SC Tryz.prog gl 49 [V.agg a642.cells,V.agg a636.cells,I a637] (V.bool r):=by
 rw [r20_worker] at h
 refine SC.go Tryz.func49 Tryz.call49 6 ?_
 refine okG h (fun hb30854 h=>?_)
 refine .ix hb30854 ?_
 refine .ld hb30854 ?_
 refine .go 6 ?_
 refine okG h (fun hb30855 h=>?_)
 refine .ix hb30855 ?_
 refine .ld hb30855 ?_
 refine .go 3 ?_
 refine .cP (r20_in_sc ((gt a636.W a637).Do) 0 13 _ rfl) ?_
 refine .go 2 ?_
 refine SafeOps.bjoinL 17 45 28 rfl (b:=((!(r20_in ((gt a636.W a637).Do) 0 13))||((!(api_Hand.beq ((gt a636.W a637).Hand) api_Hand.zero))&&((!(r07_May ((gt a636.W a637).Hand)))||(((gt a636.W a637).Hand.State) != 0))))) (b1:=true) (b0:=((!(api_Hand.beq ((gt a636.W a637).Hand) api_Hand.zero))&&((!(r07_May ((gt a636.W a637).Hand)))||(((gt a636.W a637).Hand.State) != 0)))) (fun hc30856 K=>?_) (fun hc30856 K=>?_) bj_or ?_
 ·refine rO 17 ?_
  exact SafeOps.drop' 17 rfl rfl rfl K
 ·refine .go 3 ?_
  refine Q0 E_good rfl (v:=V.bool (!(api_Hand.beq ((gt a636.W a637).Hand) api_Hand.zero))) (.neA rfl rfl rfl rfl okT63 rfl) ?_
  refine .go 1 ?_
  refine SafeOps.bjoinL 11 44 33 rfl (b:=((!(api_Hand.beq ((gt a636.W a637).Hand) api_Hand.zero))&&((!(r07_May ((gt a636.W a637).Hand)))||(((gt a636.W a637).Hand.State) != 0)))) (b1:=((!(r07_May ((gt a636.W a637).Hand)))||(((gt a636.W a637).Hand.State) != 0))) (b0:=false) (fun hc30857 K=>?_) (fun hc30857 K=>?_) bj_and ?_
  ·refine .go 2 ?_
   refine .cP (r07_May_sc ((gt a636.W a637).Hand) _ rfl) ?_
   refine .go 2 ?_
   refine .bjO 5 43 38 ?_
   refine rO 1 ?_
   exact SafeOps.drop' 7 rfl rfl rfl K
  ·refine rO 11 ?_
   exact SafeOps.drop' 11 rfl rfl rfl K
  refine rO 1 ?_
  exact SafeOps.drop' 7 rfl rfl rfl K
 refine .go 1 ?_
 refine SafeOps.bjoinL 7 53 46 rfl (b:=(((!(r20_in ((gt a636.W a637).Do) 0 13))||((!(api_Hand.beq ((gt a636.W a637).Hand) api_Hand.zero))&&((!(r07_May ((gt a636.W a637).Hand)))||(((gt a636.W a637).Hand.State) != 0))))||(!(r20_in ((gt a636.W a637).At) 0 a642.Workers)))) (b1:=true) (b0:=(!(r20_in ((gt a636.W a637).At) 0 a642.Workers))) (fun hc30859 K=>?_) (fun hc30859 K=>?_) bj_or ?_
 ·refine rO 7 ?_
  exact SafeOps.drop' 7 rfl rfl rfl K
 ·refine .go 4 ?_
  refine .cP (r20_in_sc ((gt a636.W a637).At) 0 a642.Workers _ rfl) ?_
  refine rO 2 ?_
  exact SafeOps.drop' 7 rfl rfl rfl K
 refine .go 1 ?_
 refine SafeOps.bjoinL 5 59 54 rfl (b:=((((!(r20_in ((gt a636.W a637).Do) 0 13))||((!(api_Hand.beq ((gt a636.W a637).Hand) api_Hand.zero))&&((!(r07_May ((gt a636.W a637).Hand)))||(((gt a636.W a637).Hand.State) != 0))))||(!(r20_in ((gt a636.W a637).At) 0 a642.Workers)))||(decide ((((gt a636.W a637).Ask).length:Int) > 64)))) (b1:=true) (b0:=decide ((((gt a636.W a637).Ask).length:Int) > 64)) (fun hc30860 K=>?_) (fun hc30860 K=>?_) bj_or ?_
 ·refine rO 5 ?_
  exact SafeOps.drop' 5 rfl rfl rfl K
 ·refine .go 2 ?_
  refine .len ?_
  refine rO 2 ?_
  exact SafeOps.drop' 5 rfl rfl rfl K
 refine .go 1 ?_
 refine SafeOps.bjoinL 7 67 60 rfl (b:=(((((!(r20_in ((gt a636.W a637).Do) 0 13))||((!(api_Hand.beq ((gt a636.W a637).Hand) api_Hand.zero))&&((!(r07_May ((gt a636.W a637).Hand)))||(((gt a636.W a637).Hand.State) != 0))))||(!(r20_in ((gt a636.W a637).At) 0 a642.Workers)))||(decide ((((gt a636.W a637).Ask).length:Int) > 64)))||(!(r20_in ((gt a636.W a637).Left) 0 a642.Budget)))) (b1:=true) (b0:=(!(r20_in ((gt a636.W a637).Left) 0 a642.Budget))) (fun hc30861 K=>?_) (fun hc30861 K=>?_) bj_or ?_
 ·refine rO 7 ?_
  exact SafeOps.drop' 7 rfl rfl rfl K
 ·refine .go 4 ?_
  refine .cP (r20_in_sc ((gt a636.W a637).Left) 0 a642.Budget _ rfl) ?_
  refine rO 2 ?_
  exact SafeOps.drop' 7 rfl rfl rfl K
 refine .go 1 ?_
 refine SafeOps.bjoinL 7 75 68 rfl (b:=((((((!(r20_in ((gt a636.W a637).Do) 0 13))||((!(api_Hand.beq ((gt a636.W a637).Hand) api_Hand.zero))&&((!(r07_May ((gt a636.W a637).Hand)))||(((gt a636.W a637).Hand.State) != 0))))||(!(r20_in ((gt a636.W a637).At) 0 a642.Workers)))||(decide ((((gt a636.W a637).Ask).length:Int) > 64)))||(!(r20_in ((gt a636.W a637).Left) 0 a642.Budget)))||(!(r20_in ((gt a636.W a637).Spill) 0 a642.Cap)))) (b1:=true) (b0:=(!(r20_in ((gt a636.W a637).Spill) 0 a642.Cap))) (fun hc30862 K=>?_) (fun hc30862 K=>?_) bj_or ?_
 ·refine rO 7 ?_
  exact SafeOps.drop' 7 rfl rfl rfl K
 ·refine .go 4 ?_
  refine .cP (r20_in_sc ((gt a636.W a637).Spill) 0 a642.Cap _ rfl) ?_
  refine rO 2 ?_
  exact SafeOps.drop' 7 rfl rfl rfl K
 refine .go 0 ?_
 refine .ifC h (fun hc30863 h=>?_) (fun hc30863 h=>?_)
 ·refine .go 1 ?_
  cases h
  exact retF
 ·refine .go 2 ?_
  refine .len ?_
  refine .go 1 ?_
  refine Safe.loopS (fun(v643:Int)=>⟨Tryz.f49.ntmps,[(2,I a637),(3,V.ptr [3] 0 0),(4,V.ptr [4] 0 0),(7,V.ptr [7] 0 0),(8,I (gt a636.Idle.Is a637)),(77,V.sl 1 (rws (fun n=>[I n]) ((gt a636.W a637).Ask))),(78,I (((gt a636.W a637).Ask).length:Int)),(79,I v643)],[([3],Obj.box a642.cells),([4],Obj.box a636.cells),([7],Obj.box [I ((gt a636.W a637).Do),I ((gt a636.W a637).Hand.Kind),I ((gt a636.W a637).Hand.Pc),I ((gt a636.W a637).Hand.V),I ((gt a636.W a637).Hand.T),I ((gt a636.W a637).Hand.B),V.bool ((gt a636.W a637).Hand.Won),I ((gt a636.W a637).Hand.State),I ((gt a636.W a637).At),V.sl 1 (rws (fun n=>[I n]) ((gt a636.W a637).Ask)),I ((gt a636.W a637).Task),I ((gt a636.W a637).Left),I ((gt a636.W a637).Kid),I ((gt a636.W a637).Spill)])],[],[]⟩) h covA ?_
  intro v643 ohr30884 h hr30884
  rw [r20_worker_s2] at h
  refine .go 1 ?_
  refine .ifC h (fun hc30885 h=>?_) (fun hc30885 h=>?_)
  ·refine .go 0 ?_
   refine okG h (fun hb30886 h=>?_)
   refine .ix hb30886 ?_
   refine .ld hb30886 ?_
   refine .go 5 ?_
   refine .cP (r20_in_sc (gt ((gt a636.W a637).Ask) v643) 0 (IntKind.i64.wrap (a642.Workers - 1)) _ rfl) ?_
   refine .go 1 ?_
   refine .ifC h (fun hc30887 h=>?_) (fun hc30887 h=>?_)
   ·refine .go 1 ?_
    replace h:=inr_out h hr30884
    cases h
    exact retF
   ·refine .go 2 ?_
    exact lpK ⟨_,next_out h,covA⟩
  ·refine .go 0 ?_
   replace h:=inr_out h hr30884
   refine .go 2 ?_
   refine .len ?_
   refine .go 1 ?_
   refine Safe.loopS (fun(v639:Int)=>⟨Tryz.f49.ntmps,[(2,I a637),(4,V.ptr [4] 0 0),(7,V.ptr [7] 0 0),(8,I (gt a636.Idle.Is a637)),(91,V.sl 14 (rws api_Worker.cells a636.W)),(92,I (a636.W.length:Int)),(93,I v639)],[([4],Obj.box a636.cells),([7],Obj.box [I ((gt a636.W a637).Do),I ((gt a636.W a637).Hand.Kind),I ((gt a636.W a637).Hand.Pc),I ((gt a636.W a637).Hand.V),I ((gt a636.W a637).Hand.T),I ((gt a636.W a637).Hand.B),V.bool ((gt a636.W a637).Hand.Won),I ((gt a636.W a637).Hand.State),I ((gt a636.W a637).At),V.sl 1 (rws (fun n=>[I n]) ((gt a636.W a637).Ask)),I ((gt a636.W a637).Task),I ((gt a636.W a637).Left),I ((gt a636.W a637).Kid),I ((gt a636.W a637).Spill)])],[],[]⟩) h covA ?_
   intro v639 ohr30938 h hr30938
   rw [r20_worker_s4] at h
   refine .go 1 ?_
   refine .ifC h (fun hc30939 h=>?_) (fun hc30939 h=>?_)
   ·refine .go 1 ?_
    refine okG h (fun hb30940 h=>?_)
    refine .ix hb30940 ?_
    refine .ld hb30940 ?_
    refine .go 7 ?_
    refine SafeOps.bjoinL 18 119 101 rfl (b:=((decide (((gt a636.W a637).Task)≥0))&&(((v639 != a637)&&(((gt a636.W v639).Task)==((gt a636.W a637).Task)))||(((gt a636.W v639).Kid)==((gt a636.W a637).Task))))) (b1:=(((v639 != a637)&&(((gt a636.W v639).Task)==((gt a636.W a637).Task)))||(((gt a636.W v639).Kid)==((gt a636.W a637).Task)))) (b0:=false) (fun hc30941 K=>?_) (fun hc30941 K=>?_) bj_and ?_
    ·refine .go 4 ?_
     refine .bjA 6 111 105 ?_
     refine .go 1 ?_
     refine .bjO 6 118 112 ?_
     refine rO 1 ?_
     exact SafeOps.drop' 8 rfl rfl rfl K
    ·refine rO 18 ?_
     exact SafeOps.drop' 18 rfl rfl rfl K
    refine .go 1 ?_
    refine SafeOps.bjoinL 16 136 120 rfl (b:=(((decide (((gt a636.W a637).Task)≥0))&&(((v639 != a637)&&(((gt a636.W v639).Task)==((gt a636.W a637).Task)))||(((gt a636.W v639).Kid)==((gt a636.W a637).Task))))||(((decide (((gt a636.W a637).Kid)≥0))&&(v639 != a637))&&(((gt a636.W v639).Kid)==((gt a636.W a637).Kid))))) (b1:=true) (b0:=(((decide (((gt a636.W a637).Kid)≥0))&&(v639 != a637))&&(((gt a636.W v639).Kid)==((gt a636.W a637).Kid)))) (fun hc30944 K=>?_) (fun hc30944 K=>?_) bj_or ?_
    ·refine rO 16 ?_
     exact SafeOps.drop' 16 rfl rfl rfl K
    ·refine .go 4 ?_
     refine .bjA 4 128 124 ?_
     refine .go 1 ?_
     refine .bjA 6 135 129 ?_
     refine rO 1 ?_
     exact SafeOps.drop' 8 rfl rfl rfl K
    refine .go 0 ?_
    refine .ifC h (fun hc30947 h=>?_) (fun hc30947 h=>?_)
    ·refine .go 1 ?_
     replace h:=inr_out h hr30938
     cases h
     exact retF
    ·refine .go 2 ?_
     exact lpK ⟨_,next_out h,covA⟩
   ·refine .go 0 ?_
    replace h:=inr_out h hr30938
    refine .go 3 ?_
    refine bindG h ?_
    intro x640 he30949 h
    refine .cP (r20_holds_sc a636 ((gt a636.W a637).Task) 2 _ he30949) ?_
    refine .go 1 ?_
    refine SafeOps.bsplit 5 147 (fun b638=>r20_worker_j5 a636 a637 b638=some r) (fun HJ30954=>?_) (fun b638 h=>?_)
    ·refine SafeOps.ifD 142 h rfl (fun hc30950 h=>?_) (fun hc30950 h=>?_)
     ·refine .go 3 ?_
      refine bindG h ?_
      intro x641 he30960 h
      refine .cP (r20_holds_sc a636 ((gt a636.W a637).Kid) 1 _ he30960) ?_
      refine rO 1 ?_
      exact SafeOps.drop' 5 rfl rfl rfl (SafeOps.unk 142 rfl hc30950 (HJ30954 _ h))
     ·refine rO 5 ?_
      exact SafeOps.drop' 5 rfl rfl rfl (SafeOps.unk 142 rfl hc30950 (HJ30954 _ h))
    ·replace h:r20_worker_j5 a636 a637 b638=some r:=h
     rw [r20_worker_j5] at h
     refine .go 1 ?_
     refine .bjA 7 155 148 ?_
     refine .go 1 ?_
     refine SafeOps.bjoinL 12 168 156 rfl (b:=((b638&&(((gt a636.Idle.Is a637)==3)==(((gt a636.W a637).Do)==9)))&&(((gt a636.Idle.Is a637)==2)==((((gt a636.W a637).Do)==7)||(((gt a636.W a637).Do)==8))))) (b1:=(((gt a636.Idle.Is a637)==2)==((((gt a636.W a637).Do)==7)||(((gt a636.W a637).Do)==8)))) (b0:=false) (fun hc30956 K=>?_) (fun hc30956 K=>?_) bj_and ?_
     ·refine .go 6 ?_
      refine .bjO 4 166 162 ?_
      refine rO 2 ?_
      exact SafeOps.drop' 9 rfl rfl rfl K
     ·refine rO 12 ?_
      exact SafeOps.drop' 12 rfl rfl rfl K
     refine .go 1 ?_
     refine .bjA 7 176 169 ?_
     refine .go 1 ?_
     cases h
     exact retF
end Go.Proofs.YtkkimimkcchlnaaGreat
