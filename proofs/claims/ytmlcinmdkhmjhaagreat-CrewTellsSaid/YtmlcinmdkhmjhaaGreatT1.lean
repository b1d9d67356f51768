/- Helper lemmas for the claim's theorem: an abstract machine over the model, proved sound; no condition beyond each lemma's own. -/
import Derived.Test.YtmlcinmdkhmjhaaGreatT0
set_option linter.unusedVariables false
set_option linter.unusedSimpArgs false
set_option linter.unnecessarySimpa false
set_option linter.unusedSectionVars false
namespace Go.Proofs.YtmlcinmdkhmjhaaGreat
open Go Go.AM
set_option maxRecDepth 100000
set_option maxHeartbeats 1000000
set_option linter.unusedVariables false
set_option linter.unusedSimpArgs false
variable {gl:List (Nat×List V)}
theorem cmp_isNaN_int64_sc (a131:Int) (r:Bool) (h:cmp_isNaN_int64 a131=r):SC Tryz.prog gl 248 [I a131] (V.bool r) :=
 .w Tryz.func248 Tryz.call248 h (.r 5)
theorem cmp_Compare_int64_sc (a132:Int) (a133:Int) (r:Int) (h:cmp_Compare_int64 a132 a133=r):SC Tryz.prog gl 204 [I a132,I a133] (I r) :=
 .w Tryz.func204 Tryz.call204 h (.c 2 (cmp_isNaN_int64_sc a132 _ rfl) (.c 2 (cmp_isNaN_int64_sc a133 _ rfl) (.i 2 (.i 1 (.r 1) (.r 1)) (.i 1 (.r 1) (.i 3 (.r 1) (.i 3 (.r 1) (.r 1)))))))
theorem cmp_Or_int_sc (a134:List Int) (r:Int) (h:cmp_Or_int a134=some r):SC Tryz.prog gl 203 [V.sl 1 (rws (fun n=>[I n]) a134)] (I r) :=
 .w Tryz.func203 Tryz.call203 h (.e 3 (.l1 1 [3,6,7] [] [] (fun v135 s=>s.t 8 (I v135)) fun v135=>.i 1 (.q 0 (.i 4 (.o (.r 2)) (.n 2))) (.o (.r 2))))
theorem heap_order_sc (a136:api_Timer) (a137:api_Timer) (r:Int) (h:heap_order a136 a137=some r):SC Tryz.prog gl 155 [V.agg a136.cells,V.agg a137.cells] (I r):=by
 rw [heap_order] at h
 refine SC.go Tryz.func155 Tryz.call155 3 ?_
 refine Safe.regionD (n:=13) [] [] E_good mixed rfl ?_
 refine rA 9 (up 0 4) ?_
 refine .cP (cmp_Compare_int64_sc a136.At a137.At _ rfl) 4 ?_
 refine rA 4 (up 5 4) ?_
 refine .cP (cmp_Compare_int64_sc a136.Id a137.Id _ rfl) 9 ?_
 refine DAny.only (i:=10) rfl (by kernel_rfl) (.quiet rfl rfl rfl (.litM (f:=(fun n=>[I n])) (xs:=[cmp_Compare_int64 a136.At a137.At,cmp_Compare_int64 a136.Id a137.Id]) rfl rfl (by decide) rfl rfl rfl rfl rfl) rfl ?_)
 refine bindG h ?_
 intro x138 he7338 h
 refine DT 11 [] rfl rfl (v:=I x138) (fun _ hz=>(.callS rfl (.cons (.full (hz _ _ rfl rfl) rfl) .nil) (cmp_Or_int_sc [cmp_Compare_int64 a136.At a137.At,cmp_Compare_int64 a136.Id a137.Id] _ he7338) (.plain rfl) rfl)) ?_
 refine rA 0 [12] ?_
 refine DAny.nil (by kernel_rfl) ?_
 refine .go 0 ?_
 cases h
 exact retF
theorem heap_Check_sc (a139:List api_Timer) (r:Int) (h:heap_Check a139=some r):SC Tryz.prog gl 116 [V.sl 2 (rws api_Timer.cells a139)] (I r) :=
 .w Tryz.func116 Tryz.call116 h (.e 2 (.i 1 (.r 1) (.m 0 (fun n:Int=>I n) (fun b:Bool=>V.bool b) (.e 2 (.l2 1 [0,3,10,11] [] [] (fun v140 v141 s=>(s.t 12 (I v140)).o [9] (Go.AM.Obj.map (mps (fun n:Int=>I n) (fun b:Bool=>V.bool b) v141))) fun v140 v141=>.i 1 (.q 1 (.D 3 24 [] [] (.A 23 [0] (.c 1 (heap_may_sc (gt a139 v140) _ rfl) (.A 20 [2,3] (.S 20 (.A 0 (up 4 20) (.Z (.o (.r 2)))) (.A 17 (up 4 3) (.P 7 [] (.A 14 [8,9] (.S 26 (.A 0 (up 10 14) (.Z (.o (.r 2)))) (.A 11 (up 10 3) (.S 29 (.A 7 (up 13 4) (.P 17 [] (.k (.X 18 [] (.Y 19 [] (.v 20 (heap_order_sc (gt a139 v140) (gt a139 (IntKind.i64.wrap (Int.tdiv (IntKind.i64.wrap (v140 - 1)) 4)))) fun x142=>.A 0 (up 21 3) (.Z (.i 0 (.o (.r 1)) (.p 3 (.n 2)))))))))) (.A 0 (up 13 11) (.Z (.p 4 (.n 2)))))))))))))))) (.o (.r 1)))))))
theorem poll_Check_sc (a143:List api_Fd) (r:Int) (h:poll_Check a143=some r):SC Tryz.prog gl 117 [V.sl 3 (rws api_Fd.cells a143)] (I r) :=
 .w Tryz.func117 Tryz.call117 h (.m 1 (fun n:Int=>I n) (fun b:Bool=>V.bool b) (.e 2 (.l2 1 [0,3,8,9] [] [] (fun v144 v145 s=>(s.t 10 (I v144)).o [7] (Go.AM.Obj.map (mps (fun n:Int=>I n) (fun b:Bool=>V.bool b) v145))) fun v144 v145=>.i 1 (.q 0 (.D 2 23 [] [] (.A 19 (up 0 4) (.S 17 (.A 0 (up 4 19) (.Z (.o (.r 9)))) (.A 15 (up 4 4) (.S 21 (.A 14 [8] (.b fun x146=>.g 9 (poll_shut_sc ) (.P 10 [] (.A 9 (up 11 3) (.S 27 (.A 0 (up 14 9) (.Z (.o (.r 9)))) (.A 6 (up 14 3) (.S 30 (.A 0 (up 17 6) (.Z (.O 2 5 42 37 (((mget v145 ((gt a143 v144).Who)).getD false)) (.K 5 5) (.Q 3 (.K 1 5)) (.i 0 (.o (.r 1)) (.p 6 (.n 2)))))) (.A 0 (up 17 6) (.Z (.Q 5 (.i 1 (.o (.r 1)) (.p 6 (.n 2))))))))))))) (.A 6 (up 8 9) (.S 30 (.A 0 (up 17 6) (.Z (.O 2 5 42 37 (((mget v145 ((gt a143 v144).Who)).getD false)) (.K 5 5) (.Q 3 (.K 1 5)) (.i 0 (.o (.r 1)) (.p 6 (.n 2)))))) (.A 0 (up 17 6) (.Z (.Q 5 (.i 1 (.o (.r 1)) (.p 6 (.n 2)))))))))))))) (.o (.e 1 (.i 1 (.r 1) (.r 1)))))))
theorem joins_Check_sc (a153:List api_Join) (r:Int) (h:joins_Check a153=some r):SC Tryz.prog gl 118 [V.sl 2 (rws api_Join.cells a153)] (I r):=by
 rw [joins_Check] at h
 refine SC.go Tryz.func118 Tryz.call118 2 ?_
 refine .inl Tryz.func187 Tryz.call187 3 ?_
 refine .inl Tryz.func238 Tryz.call238 2 ?_
 refine SafeOps.quiet1 E_good rfl rfl rfl (.mkMapM (fun n:Int=>I n) (fun n:Int=>I n)) rfl ?_
 refine .go 2 ?_
 refine .len ?_
 refine .go 1 ?_
 refine Safe.loopS (fun((v154,v148):Int×(List (Int×Int)))=>⟨Tryz.f238.ntmps,[(0,V.sl 2 (rws api_Join.cells a153)),(4,V.mapr [7,9,9]),(10,V.sl 2 (rws api_Join.cells a153)),(11,I (a153.length:Int)),(12,I v154)],[([7,9,9],Go.AM.Obj.map (mps (fun n:Int=>I n) (fun n:Int=>I n) v148))],[(Tryz.f187.ntmps,[]),(Tryz.f118.ntmps,[])],[7,9]⟩) h covA ?_
 rintro ⟨v154,v148⟩ ohr7943 h hr7943
 rw [joins_Check_s10] at h
 refine .go 1 ?_
 refine .ifC h (fun hc7944 h=>?_) (fun hc7944 h=>?_)
 ·exact .w h (.q 0 (.Q 5 (.N 7 7 31 24 (.i 0 (.o (.r 21)) (.p 5 (.n 2))))))
 ·refine .go 0 ?_
  replace h:=inr_out h hr7943
  refine .go 2 ?_
  refine .len ?_
  refine .go 11 ?_
  refine .ifC h (fun hc7948 h=>?_) (fun hc7948 h=>?_)
  ·refine .go 10 ?_
   cases h
   exact retF
  ·refine .go 1 ?_
   refine SafeOps.rangeM E_good rfl rfl rfl rfl rfl rfl rfl rfl (fun ms7949 ck7949 hl7949 hs7949=>?_)
   replace hl7949:ms7949.size=v148.length:=by simpa [mps] using hl7949
   refine .go 0 ?_
   refine bindG h ?_
   intro b156 hb7950 h07950
   refine Safe.loopMS hb7950 hl7949 hs7949 (fun seen7950=>⟨Tryz.f187.ntmps,[(4,V.mapr [7,9,9]),(15,V.itr [7,15])],[([7,9,9],Go.AM.Obj.gmap (mps (fun n:Int=>I n) (fun n:Int=>I n) v148) ms7949 ck7949),([7,15],Go.AM.Obj.iter (some [7,9,9]) (mps (fun n:Int=>I n) (fun n:Int=>I n) v148) ms7949 ck7949 ck7949 seen7950)],[(Tryz.f118.ntmps,[])],[7]⟩) covA ?_
   intro seen7950 hF7950
   refine .go 0 ?_
   refine SafeOps.nextM (fun n:Int=>I n) (fun n:Int=>I n) rfl rfl rfl rfl rfl rfl rfl (fun im7950 hi7950 k149 v155 hkv7950 hns7950=>?_) (fun hall7950=>?_)
   ·obtain ⟨c7950,hc7950,hcb7950⟩:=anyO_get hb7950 hi7950 hkv7950
    have h:(whileO (joins_Check_s13 v148 k149) (((mget v148 k149).getD 0),(mget v148 k149).isSome,0))=some c7950:=hc7950
    refine Q0 E_good rfl (v:=V.bool true) (.fn rfl) ?_
    refine .go 1 ?_
    refine SafeOps.entryM (fun n:Int=>I n) (fun n:Int=>I n) (i:=im7950) (k:=k149) (v:=v155) rfl rfl rfl rfl rfl rfl rfl hi7950 hkv7950 ?_
    refine .go 5 ?_
    refine .joinR 1 (fun(v147:Bool)=>joins_Check_j12 v147=some c7950) (fun(v147:Bool)=>⟨Tryz.f187.ntmps,[(4,V.mapr [7,9,9]),(15,V.itr [7,15]),(23,V.bool v147)],[([7,9,9],Go.AM.Obj.gmap (mps (fun n:Int=>I n) (fun n:Int=>I n) v148) ms7949 ck7949),([7,15],Go.AM.Obj.iter (some [7,9,9]) (mps (fun n:Int=>I n) (fun n:Int=>I n) v148) ms7949 ck7949 ck7949 (seen7950.push (bornAt ms7949 im7950)))],[(Tryz.f118.ntmps,[])],[7]⟩) ?_ (fun HJ7974=>?_)
    ·intro v147 h
     rw [joins_Check_j12] at h
     refine .go 0 ?_
     refine .ifC h (fun hc7975 h=>?_) (fun hc7975 h=>?_)
     ·refine .go 3 ?_
      have hct7950:=(Option.some.inj h).symm
      replace h:=ifT_out h07950 (hcb7950 hct7950)
      refine .go 7 ?_
      cases h
      exact retF
     ·refine .go 0 ?_
      exact lpK ⟨im7950,hi7950,k149,v155,hkv7950,hns7950,hc7950.trans h.symm,covA⟩
    ·refine .inl Tryz.func239 Tryz.call239 4 ?_
     refine .inl Tryz.func255 Tryz.call255 6 ?_
     refine Safe.rangeFunc (k:=9011) rfl rfl Tryz.func284 rfl (fun _ _=>Tryz.call284 _ _) rfl rfl rfl ?_
     refine .go0 2 ?_
     refine .quietG [7,9,9] (v:=V.tup [I ((mget v148 k149).getD 0),V.bool ((mget v148 k149).isSome)]) (.lookM2 (fv:=(fun n:Int=>I n)) (m:=v148) (kk:=k149) (z0:=0) (keyI .i64) rfl rfl rfl rfl rfl rfl rfl rfl rfl rfl) ?_
     refine .go 6 ?_
     refine .quietG [7,9,9] (v:=I (v148.length:Int)) (.lenMM (fk:=(fun n:Int=>I n)) (fv:=(fun n:Int=>I n)) (m:=v148) rfl rfl rfl) ?_
     refine .go 1 ?_
     refine Safe.loopS (fun((v150,v151,v152):Int×Bool×Int)=>⟨Tryz.f284.ntmps,[(0,V.yld [7,23,9011]),(1,V.ptr [7,23,10,2] 0 0),(4,I v150),(5,V.bool v151),(13,I (v148.length:Int)),(14,I v152)],[([7,9,9],Go.AM.Obj.gmap (mps (fun n:Int=>I n) (fun n:Int=>I n) v148) ms7949 ck7949),([7,15],Go.AM.Obj.iter (some [7,9,9]) (mps (fun n:Int=>I n) (fun n:Int=>I n) v148) ms7949 ck7949 ck7949 (seen7950.push (bornAt ms7949 im7950))),([7,23,5],Obj.box [I k149]),([7,23,6],Obj.box [V.bool false]),([7,23,10,2],Obj.box [V.mapr [7,9,9]]),([7,23,9011],Go.AM.Obj.loop Tryz.f239.ntmps [(5,V.ptr [7,23,5] 0 0),(6,V.ptr [7,23,6] 0 0)] [11] (rfA Tryz.f239 0) (rfB Tryz.f239 0) .ready none)],[(1,[(0,V.yld [7,23,9011])]),(Tryz.f239.ntmps,[(6,V.ptr [7,23,6] 0 0)]),(Tryz.f187.ntmps,[(4,V.mapr [7,9,9]),(15,V.itr [7,15])]),(Tryz.f118.ntmps,[])],[7,23,9011,0]⟩) h (.cov ⟨rfl,rfl,(ut (ut (ut (ut (ut (ut upT_nil)))))),(uo (uo (uo (uo (uo (upOb_cons rfl (by exact .loop (ut (ut upT_nil))) upOb_nil)))))),(upOut_cons rfl (ut upT_nil) (upOut_cons rfl (ut upT_nil) (upOut_cons rfl (ut (ut upT_nil)) (upOut_cons rfl upT_nil upOut_nil)))),rfl⟩) ?_
     rintro ⟨v150,v151,v152⟩ ohr7990 h hr7990
     rw [joins_Check_s13] at h
     refine .go 1 ?_
     refine .ifC h (fun hc7991 h=>?_) (fun hc7991 h=>?_)
     ·refine .go 3 ?_
      refine SafeOps.ifD 18 h rfl (fun hc7992 h=>?_) (fun hc7992 h=>?_)
      ·refine .go 6 ?_
       refine rfQ.n (.inr rfl) rfl rfl (fun hbusy=>by cases hbusy) ?_
       replace h:=inr_out h hr7990
       refine .goN 2 ?_
       exact .got (HJ7974 (false) h) covA
      ·refine .go 2 ?_
       refine SafeOps.yield rfl rfl rfl rfl rfl rfl rfl rfl ?_
       refine .go0 1 ?_
       refine asgQ.go rfl rfl ?_
       refine .go0 3 ?_
       refine .ifC h (fun hc7994 h=>?_) (fun hc7994 h=>?_)
       ·refine .go 1 ?_
        refine roundQ.go rfl rfl rfl rfl rfl ?_
        refine .go 3 ?_
        refine rfQ.j (.inr rfl) rfl rfl (fun hbusy=>by cases hbusy) ?_
        replace h:=inr_out h hr7990
        refine .goN 1 ?_
        exact .got (HJ7974 (true) h) covA
       ·refine .go 0 ?_
        refine roundQ.go rfl rfl rfl rfl rfl ?_
        refine .go 5 ?_
        refine .quietG [7,9,9] (v:=V.tup [I ((mget v148 v150).getD 0),V.bool ((mget v148 v150).isSome)]) (.lookM2 (fv:=(fun n:Int=>I n)) (m:=v148) (kk:=v150) (z0:=0) (keyI .i64) rfl rfl rfl rfl rfl rfl rfl rfl rfl rfl) ?_
        refine .go 7 ?_
        exact lpK ⟨_,next_out h,(.cov ⟨rfl,rfl,(ut (ut (ut (ut (ut (ut upT_nil)))))),(uo (uo (uo (uo (uo (upOb_cons rfl (by exact .loop (ut (ut upT_nil))) upOb_nil)))))),(upOut_cons rfl (ut upT_nil) (upOut_cons rfl (ut upT_nil) (upOut_cons rfl (ut (ut upT_nil)) (upOut_cons rfl upT_nil upOut_nil)))),rfl⟩)⟩
     ·refine .go 0 ?_
      replace h:=inr_out h hr7990
      refine .go 0 ?_
      refine rfQ.n (.inl rfl) rfl rfl (fun hbusy=>by cases hbusy) ?_
      refine .goN 2 ?_
      exact .got (HJ7974 (false) h) covA
   ·replace h:=ifF_out h07950 (anyO_none hb7950 (fun i hi=>hF7950 i hi (hall7950 i hi)))
    refine Q0 E_good rfl (v:=V.bool false) (.fn rfl) ?_
    refine .ungm [7,9,9] rfl rfl ?_
    refine .go 12 ?_
    cases h
    exact retF
theorem idle_counted_sc (a157:api_Idle) (r:A4_Int×Bool) (h:idle_counted a157=some r):SC Tryz.prog gl 188 [V.agg a157.cells] (V.tup [V.agg (A4_Int.cells r.1),V.bool r.2]):=by
 rw [idle_counted] at h
 refine SC.go Tryz.func188 Tryz.call188 5 ?_
 refine .len ?_
 refine .go 1 ?_
 refine Safe.loopS (fun((v158,v159,v160,v161,v162):Int×Int×Int×Int×Int)=>⟨Tryz.f188.ntmps,[(2,V.ptr [2] 0 0),(7,V.sl 1 (rws (fun n=>[I n]) a157.Is)),(8,I (a157.Is.length:Int)),(9,I v158)],[([2],Obj.box [I v159,I v160,I v161,I v162])],[],[]⟩) h covA ?_
 rintro ⟨v158,v159,v160,v161,v162⟩ ohr8051 h hr8051
 rw [idle_counted_s1] at h
 refine .go 1 ?_
 refine .ifC h (fun hc8052 h=>?_) (fun hc8052 h=>?_)
 ·refine .go 0 ?_
  refine okG h (fun hb8053 h=>?_)
  refine .ix hb8053 ?_
  refine .ld hb8053 ?_
  refine .go 4 ?_
  refine .bjO 3 18 15 ?_
  refine .go 0 ?_
  refine .ifC h (fun hc8055 h=>?_) (fun hc8055 h=>?_)
  ·exact .w h (.o (.r 3))
  ·refine .go 1 ?_
   refine okG h (fun hb8056 h=>?_)
   refine Q0 E_good rfl (v:=V.ptr [2] 0 (0+Int.toNat (gt a157.Is v158)*1)) (.idxArrM rfl rfl rfl rfl rfl rfl 4 rfl hb8056) ?_
   refine Q0 E_good rfl (v:=I (if (gt a157.Is v158)=0 then v159 else (if (gt a157.Is v158)=1 then v160 else (if (gt a157.Is v158)=2 then v161 else v162)))) (.load rfl rfl (.boxM (cs:=[I (if (gt a157.Is v158)=0 then v159 else (if (gt a157.Is v158)=1 then v160 else (if (gt a157.Is v158)=2 then v161 else v162)))]) rfl (by have hq:(gt a157.Is v158)=0∨(gt a157.Is v158)=1∨(gt a157.Is v158)=2∨(gt a157.Is v158)=3:=(by omega);rcases hq with hq|hq|hq|hq<;>simp only [hq]<;>rfl)) rfl) ?_
   refine .go 1 ?_
   refine okG h (fun hb8057 h=>?_)
   refine Q0 E_good rfl (v:=V.ptr [2] 0 (0+Int.toNat (gt a157.Is v158)*1)) (.idxArrM rfl rfl rfl rfl rfl rfl 4 rfl hb8057) ?_
   refine SafeOps.store (z:=Obj.box [I (if (gt a157.Is v158)=0 then IntKind.i64.wrap ((if (gt a157.Is v158)=0 then v159 else (if (gt a157.Is v158)=1 then v160 else (if (gt a157.Is v158)=2 then v161 else v162)))+1) else v159),I (if (gt a157.Is v158)=1 then IntKind.i64.wrap ((if (gt a157.Is v158)=0 then v159 else (if (gt a157.Is v158)=1 then v160 else (if (gt a157.Is v158)=2 then v161 else v162)))+1) else v160),I (if (gt a157.Is v158)=2 then IntKind.i64.wrap ((if (gt a157.Is v158)=0 then v159 else (if (gt a157.Is v158)=1 then v160 else (if (gt a157.Is v158)=2 then v161 else v162)))+1) else v161),I (if (gt a157.Is v158)=3 then IntKind.i64.wrap ((if (gt a157.Is v158)=0 then v159 else (if (gt a157.Is v158)=1 then v160 else (if (gt a157.Is v158)=2 then v161 else v162)))+1) else v162)]) E_good rfl rfl rfl rfl rfl rfl rfl (.boxM (c:=4) rfl rfl (by have:=hb8057;show (0+Int.toNat (gt a157.Is v158)*1)+1≤4;omega) (by have hq:(gt a157.Is v158)=0∨(gt a157.Is v158)=1∨(gt a157.Is v158)=2∨(gt a157.Is v158)=3:=(by omega);rcases hq with hq|hq|hq|hq<;>simp only [hq]<;>rfl)) ?_
   refine .go 2 ?_
   exact lpK ⟨_,next_out h,covA⟩
 ·exact .w h (.o (.r 3))
theorem idle_tally_fits_sc (a163:A4_Int) (r:Bool) (h:idle_tally_fits a163=r):SC Tryz.prog gl 189 [V.agg a163.cells] (V.bool r) :=
 .w Tryz.func189 Tryz.call189 h (.Q 2 (.Q 1 (.Q 1 (.Q 2 (.Q 3 (.r 2))))))
theorem idle_Check_sc (a164:api_Idle) (r:Int) (h:idle_Check a164=some r):SC Tryz.prog gl 119 [V.agg a164.cells] (I r) :=
 .w Tryz.func119 Tryz.call119 h (.b2 fun(x168:A4_Int) x169=>.g 3 (idle_counted_sc a164) (.O 9 5 20 15 (decide ((a164.Is.length:Int) < 1)) (.K 5 5) (.e 2 (.K 2 5)) (.O 1 5 26 21 (decide ((a164.Is.length:Int) > 64)) (.K 5 5) (.e 2 (.K 2 5)) (.O 1 4 31 27 ((!(idle_tally_fits x168))) (.K 4 4) (.c 1 (idle_tally_fits_sc x168 _ rfl) (.K 2 4)) (.O 1 10 42 32 (((a164.Stack.length:Int) != (IntKind.i64.wrap (x168.a2+x168.a3)))) (.K 10 10) (.e 2 (.Q 0 (.Q 1 (.K 4 10)))) (.i 0 (.r 1) (.e 2 (.k (.H 0 ((fun b=>[V.bool b])) false (.e 3 (.l2 1 [1,48,49] [] [[1]] (fun v165 v166 s=>((s.t 5 (V.ref [46] 0 (rws (fun b=>[V.bool b]) v165).length)).t 50 (I v166)).o [46] (Obj.rows 1 (rws (fun b=>[V.bool b]) v165) false)) fun v165 v166=>.i 1 (.q 0 (.O 4 5 61 56 (decide ((gt a164.Stack v166)≥(v165.length:Int))) (.K 5 5) (.e 2 (.K 2 5)) (.T 1 5 67 (idle_Check_j4 a164 v165 v166) (fun HJ8158=>.s 0 62 (.U 5 5 62 HJ8158) (.k (.Q 2 (.Q 0 (.U 1 5 62 HJ8158))))) fun b167=>.s 1 68 (.o (.r 9)) (.q 3 (.i 2 (.o (.r 1)) (.k (.Q 2 (.st 0 true (.h 0 5 (V.ref [46] 0 (rws (fun b=>[V.bool b]) (st v165 (gt a164.Stack v166) true)).length) (.h 0 76 (V.ref [46] 0 (rws (fun b=>[V.bool b]) (st v165 (gt a164.Stack v166) true)).length) (.n 2))))))))))) (.o (.r 1)))))))))))))
theorem sema_Check_sc (a170:api_Sem) (r:Int) (h:sema_Check a170=some r):SC Tryz.prog gl 121 [V.agg a170.cells] (I r) :=
 .w Tryz.func121 Tryz.call121 h (.N 6 4 13 9 (.O 1 5 19 14 (decide ((a170.Wait.length:Int) > 256)) (.K 5 5) (.e 2 (.K 2 5)) (.O 1 8 28 20 (decide ((if (a170.Wait.length:Int) < a170.Free then (a170.Wait.length:Int) else a170.Free) > 0)) (.K 8 8) (.e 4 (.K 3 8)) (.i 0 (.r 1) (.m 0 (fun n:Int=>I n) (fun b:Bool=>V.bool b) (.p 0 (.e 4 (.l2 1 [3,32,33] [] [] (fun v171 v172 s=>(s.t 34 (I v171)).o [29] (Go.AM.Obj.map (mps (fun n:Int=>I n) (fun b:Bool=>V.bool b) v172))) fun v171 v172=>.i 1 (.q 0 (.O 4 4 44 40 (((mget v172 (gt a170.Wait v171)).getD false)) (.K 4 4) (.Q 2 (.K 1 4)) (.i 0 (.o (.r 1)) (.p 2 (.n 2))))) (.o (.r 1))))))))))
theorem crew_checker_parts_1_sc (a173:api_Sem) (r:Bool) (h:crew_checker_parts_1 a173=some r):SC Tryz.prog gl 120 [V.agg a173.cells] (V.bool r) :=
 .w Tryz.func120 Tryz.call120 h (.v 3 (sema_Check_sc a173) fun x174=>.r 2)
theorem slices_IndexFunc_api_Sem_api_Sem_1120_sc (a175:List api_Sem) (r:Int) (h:slices_IndexFunc_api_Sem_api_Sem_1120 a175=some r):SC Tryz.prog gl 190 [V.sl 2 (rws api_Sem.cells a175),V.fn 120 []] (I r) :=
 .w Tryz.func190 Tryz.call190 h (.e 2 (.l1 1 [0,1,7] [] [] (fun v176 s=>s.t 8 (I v176)) fun v176=>.i 1 (.q 5 (.v 0 (crew_checker_parts_1_sc (gt a175 v176)) fun x177=>.i 0 (.o (.r 2)) (.n 2))) (.o (.r 1))))
theorem slices_ContainsFunc_api_Sem_api_Sem_1120_sc (a178:List api_Sem) (r:Bool) (h:slices_ContainsFunc_api_Sem_api_Sem_1120 a178=some r):SC Tryz.prog gl 122 [V.sl 2 (rws api_Sem.cells a178),V.fn 120 []] (V.bool r) :=
 .w Tryz.func122 Tryz.call122 h (.v 3 (slices_IndexFunc_api_Sem_api_Sem_1120_sc a178) fun x179=>.r 2)
theorem crew_checker_parts_sc (a180:crew_checker) (r:Bool) (h:crew_checker_parts a180=some r):SC Tryz.prog gl 50 [V.agg a180.cells] (V.bool r):=by
 rw [crew_checker_parts] at h
 refine SC.go Tryz.func50 Tryz.call50 2 ?_
 refine Safe.regionD (n:=8) [(6,[3]),(7,[4])] [] E_good mixed rfl ?_
 refine rA 4 (up 0 4) ?_
 skip
 refine DAny.pair (i:=4) (j:=5) rfl rfl (by kernel_rfl) (by kernel_rfl) (by kernel_rfl) (by decide) rfl rfl rfl rfl rfl rfl (.alloc rfl rfl) (.alloc rfl rfl) rfl rfl rfl rfl (by kernel_rfl) (by kernel_rfl) (by decide) ?_
 refine .sto 6 ?_
 refine .sto 7 ?_
 refine DAny.nil (by kernel_rfl) ?_
 refine .go 0 ?_
 refine Safe.regionD (n:=28) [] [] E_good mixed rfl ?_
 refine rA 27 [0] ?_
 refine bindG h ?_
 intro x183 he8335 h
 refine .cP (entry_Config_sc a180.c _ he8335) 1 ?_
 refine rA 24 [2,3] ?_
 refine .cP (dice_Check_sc a180.w.Dice _ rfl) 4 ?_
 refine rA 21 [5,6] ?_
 refine bindG h ?_
 intro x184 he8337 h
 refine .cP (slot_Check_sc a180.w.Ids _ he8337) 7 ?_
 refine rA 18 [8,9] ?_
 refine bindG h ?_
 intro x185 he8339 h
 refine .cP (chain_Check_sc a180.w.Lists _ he8339) 10 ?_
 refine rA 15 [11,12] ?_
 refine bindG h ?_
 intro x186 he8341 h
 refine .cP (lodge_Check_sc a180.w.Ten _ he8341) 13 ?_
 refine rA 12 [14,15] ?_
 refine bindG h ?_
 intro x187 he8343 h
 refine .cP (heap_Check_sc a180.w.Heap _ he8343) 16 ?_
 refine rA 9 [17,18] ?_
 refine bindG h ?_
 intro x188 he8345 h
 refine .cP (poll_Check_sc a180.w.Fds _ he8345) 19 ?_
 refine rA 6 [20,21] ?_
 refine bindG h ?_
 intro x189 he8347 h
 refine .cP (joins_Check_sc a180.w.Joins _ he8347) 22 ?_
 refine rA 3 [23,24] ?_
 refine bindG h ?_
 intro x190 he8349 h
 refine .cP (idle_Check_sc a180.w.Idle _ he8349) 25 ?_
 refine rA 0 [26,27] ?_
 refine DAny.nil (by kernel_rfl) ?_
 refine .go 0 ?_
 refine Safe.loopS (fun(v191:Int)=>⟨Tryz.f50.ntmps,[(3,V.ptr [3] 0 0),(4,V.ptr [4] 0 0),(41,V.agg [I x183,I (dice_Check a180.w.Dice),I x184,I x185,I x186,I x187,I x188,I x189,I x190]),(42,I v191)],[([3],Obj.box [I a180.c.Workers,I a180.c.Cap,I a180.c.Budget,V.sl 1 (rws (fun n=>[I n]) a180.c.Weights),V.sl 1 (rws (fun n=>[I n]) a180.c.Quotas),V.sl 1 (rws (fun l=>[V.sl 3 (rws api_Instr.cells l)]) a180.c.Progs),I a180.c.Tasks,I a180.c.Fds,V.sl 1 (rws (fun n=>[I n]) a180.c.Sems)]),([4],Obj.box [I a180.w.Now,V.sl 1 (rws (fun n=>[V.int .u8 n]) a180.w.Dice.L),I a180.w.Dice.At,V.sl 1 (rws (fun n=>[I n]) a180.w.Ids.Gen),V.sl 1 (rws (fun b=>[V.bool b]) a180.w.Ids.Live),V.sl 11 (rws api_Task.cells a180.w.T),V.sl 1 (rws (fun n=>[I n]) a180.w.Mem),V.sl 1 (rws (fun n=>[I n]) a180.w.Lists.Next),V.sl 1 (rws (fun n=>[I n]) a180.w.Lists.Head),V.sl 1 (rws (fun n=>[I n]) a180.w.Lists.Tail),V.sl 5 (rws api_Tenant.cells a180.w.Ten),V.sl 2 (rws api_Timer.cells a180.w.Heap),V.sl 3 (rws api_Fd.cells a180.w.Fds),V.sl 2 (rws api_Sem.cells a180.w.Sems),V.sl 2 (rws api_Join.cells a180.w.Joins),V.sl 1 (rws (fun n=>[I n]) a180.w.Idle.Is),V.sl 1 (rws (fun n=>[I n]) a180.w.Idle.Stack),V.sl 14 (rws api_Worker.cells a180.w.W),V.bool a180.w.Down,V.sl 3 (rws api_Event.cells a180.w.Seen)])],[],[]⟩) h covA ?_
 intro v191 ohr8366 h hr8366
 rw [crew_checker_parts_s2] at h
 refine .go 1 ?_
 refine .ifC h (fun hc8367 h=>?_) (fun hc8367 h=>?_)
 ·exact .w h (.k (.iv 0 [x183,dice_Check a180.w.Dice,x184,x185,x186,x187,x188,x189,x190] (.i 3 (.o (.r 1)) (.n 2))))
 ·refine .go 0 ?_
  replace h:=inr_out h hr8366
  refine .go 4 ?_
  refine .len ?_
  refine .go 5 ?_
  refine .len ?_
  refine .go 6 ?_
  refine .len ?_
  refine .go 6 ?_
  refine .len ?_
  refine .go 2 ?_
  refine .len ?_
  refine .go 3 ?_
  refine .len ?_
  refine .go 9 ?_
  refine .len ?_
  refine .go 2 ?_
  refine .len ?_
  refine .go 3 ?_
  refine .len ?_
  refine .go 5 ?_
  refine .len ?_
  refine .go 2 ?_
  refine .len ?_
  refine .go 4 ?_
  refine .len ?_
  refine .go 5 ?_
  refine .len ?_
  refine .go 8 ?_
  refine Safe.loopS (fun(v181:Int)=>⟨Tryz.f50.ntmps,[(4,V.ptr [4] 0 0),(7,V.fn 120 []),(120,V.agg [I (a180.w.Ids.Gen.length:Int),I a180.c.Tasks,I (a180.w.T.length:Int),I a180.c.Tasks,I (a180.w.Lists.Next.length:Int),I a180.c.Tasks,I (a180.w.Lists.Head.length:Int),I (a180.c.Weights.length:Int),I (a180.w.Mem.length:Int),I (IntKind.i64.wrap (a180.c.Workers*(IntKind.i64.wrap (a180.c.Cap+2)))),I (a180.w.Ten.length:Int),I (a180.c.Weights.length:Int),I (a180.w.Fds.length:Int),I a180.c.Fds,I (a180.w.Sems.length:Int),I (a180.c.Sems.length:Int),I (a180.w.Idle.Is.length:Int),I a180.c.Workers,I (a180.w.W.length:Int),I a180.c.Workers]),(121,I v181)],[([4],Obj.box [I a180.w.Now,V.sl 1 (rws (fun n=>[V.int .u8 n]) a180.w.Dice.L),I a180.w.Dice.At,V.sl 1 (rws (fun n=>[I n]) a180.w.Ids.Gen),V.sl 1 (rws (fun b=>[V.bool b]) a180.w.Ids.Live),V.sl 11 (rws api_Task.cells a180.w.T),V.sl 1 (rws (fun n=>[I n]) a180.w.Mem),V.sl 1 (rws (fun n=>[I n]) a180.w.Lists.Next),V.sl 1 (rws (fun n=>[I n]) a180.w.Lists.Head),V.sl 1 (rws (fun n=>[I n]) a180.w.Lists.Tail),V.sl 5 (rws api_Tenant.cells a180.w.Ten),V.sl 2 (rws api_Timer.cells a180.w.Heap),V.sl 3 (rws api_Fd.cells a180.w.Fds),V.sl 2 (rws api_Sem.cells a180.w.Sems),V.sl 2 (rws api_Join.cells a180.w.Joins),V.sl 1 (rws (fun n=>[I n]) a180.w.Idle.Is),V.sl 1 (rws (fun n=>[I n]) a180.w.Idle.Stack),V.sl 14 (rws api_Worker.cells a180.w.W),V.bool a180.w.Down,V.sl 3 (rws api_Event.cells a180.w.Seen)])],[],[]⟩) h covA ?_
  intro v181 ohr8386 h hr8386
  rw [crew_checker_parts_s4] at h
  refine .go 1 ?_
  refine .ifC h (fun hc8387 h=>?_) (fun hc8387 h=>?_)
  ·refine .go 0 ?_
   refine okG h (fun hb8388 h=>?_)
   refine Q0 E_good rfl (v:=V.agg [I (if v181=0 then (a180.w.Ids.Gen.length:Int) else (if v181=1 then (a180.w.T.length:Int) else (if v181=2 then (a180.w.Lists.Next.length:Int) else (if v181=3 then (a180.w.Lists.Head.length:Int) else (if v181=4 then (a180.w.Mem.length:Int) else (if v181=5 then (a180.w.Ten.length:Int) else (if v181=6 then (a180.w.Fds.length:Int) else (if v181=7 then (a180.w.Sems.length:Int) else (if v181=8 then (a180.w.Idle.Is.length:Int) else (a180.w.W.length:Int)))))))))),I (if v181=0 then a180.c.Tasks else (if v181=1 then a180.c.Tasks else (if v181=2 then a180.c.Tasks else (if v181=3 then (a180.c.Weights.length:Int) else (if v181=4 then IntKind.i64.wrap (a180.c.Workers*(IntKind.i64.wrap (a180.c.Cap+2))) else (if v181=5 then (a180.c.Weights.length:Int) else (if v181=6 then a180.c.Fds else (if v181=7 then (a180.c.Sems.length:Int) else (if v181=8 then a180.c.Workers else a180.c.Workers)))))))))]) (.idxVM (us:=[I (if v181=0 then (a180.w.Ids.Gen.length:Int) else (if v181=1 then (a180.w.T.length:Int) else (if v181=2 then (a180.w.Lists.Next.length:Int) else (if v181=3 then (a180.w.Lists.Head.length:Int) else (if v181=4 then (a180.w.Mem.length:Int) else (if v181=5 then (a180.w.Ten.length:Int) else (if v181=6 then (a180.w.Fds.length:Int) else (if v181=7 then (a180.w.Sems.length:Int) else (if v181=8 then (a180.w.Idle.Is.length:Int) else (a180.w.W.length:Int)))))))))),I (if v181=0 then a180.c.Tasks else (if v181=1 then a180.c.Tasks else (if v181=2 then a180.c.Tasks else (if v181=3 then (a180.c.Weights.length:Int) else (if v181=4 then IntKind.i64.wrap (a180.c.Workers*(IntKind.i64.wrap (a180.c.Cap+2))) else (if v181=5 then (a180.c.Weights.length:Int) else (if v181=6 then a180.c.Fds else (if v181=7 then (a180.c.Sems.length:Int) else (if v181=8 then a180.c.Workers else a180.c.Workers)))))))))]) rfl rfl rfl rfl rfl 10 rfl hb8388 (by have hq:v181=0∨v181=1∨v181=2∨v181=3∨v181=4∨v181=5∨v181=6∨v181=7∨v181=8∨v181=9:=(by omega);rcases hq with hq|hq|hq|hq|hq|hq|hq|hq|hq|hq<;>simp only [hq]<;>rfl) rfl) ?_
   exact .w h (.Q 2 (.Q 1 (.i 2 (.o (.r 1)) (.n 2))))
  ·exact .w h (.o (.M 4 4 137 133 (.B 1 5 143 138 (decide ((a180.w.Seen.length:Int)≤65536)) (.e 2 (.K 2 5)) (.K 5 5) (.s 1 144 (.v 3 (slices_ContainsFunc_api_Sem_api_Sem_1120_sc a180.w.Sems) fun x182=>.r 3) (.r 7)))))
theorem life_below_sc (a192:Int) (a193:Int) (r:Bool) (h:life_below a192 a193=r):SC Tryz.prog gl 191 [I a192,I a193] (V.bool r) :=
 .w Tryz.func191 Tryz.call191 h (.M 4 4 11 7 (.r 1))
theorem life_state_sc (a194:Int) (r:Bool) (h:life_state a194=r):SC Tryz.prog gl 192 [I a194] (V.bool r) :=
 .w Tryz.func192 Tryz.call192 h (.M 4 3 8 5 (.r 1))
theorem slices_Min_int64_int64_sc (a195:List Int) (r:Int) (h:slices_Min_int64_int64 a195=some r):SC Tryz.prog gl 193 [V.sl 1 (rws (fun n=>[I n]) a195)] (I r) :=
 .w Tryz.func193 Tryz.call193 h (.e 2 (.i 1 (.nn) (.q 1 (.l2 2 [0] [] [] (fun v196 v197 s=>(s.t 3 (I v196)).t 4 (I v197)) fun v196 v197=>.e 2 (.i 1 (.q 3 (.n 5)) (.o (.r 2)))))))
theorem life_Check_sc (a198:api_Task) (r:Int) (h:life_Check a198=some r):SC Tryz.prog gl 123 [V.agg a198.cells] (I r) :=
 .w Tryz.func123 Tryz.call123 h (.B 6 4 11 7 (life_below a198.Tenant 16) (.c 2 (life_below_sc a198.Tenant 16 _ rfl) (.K 1 4)) (.K 4 4) (.B 1 4 16 12 (life_below a198.Prog 16) (.c 2 (life_below_sc a198.Prog 16 _ rfl) (.K 1 4)) (.K 4 4) (.B 1 4 21 17 (life_below a198.Pc 33) (.c 2 (life_below_sc a198.Pc 33 _ rfl) (.K 1 4)) (.K 4 4) (.B 1 4 26 22 (life_below a198.Unit 100) (.c 2 (life_below_sc a198.Unit 100 _ rfl) (.K 1 4)) (.K 4 4) (.B 1 4 31 27 (life_state a198.State) (.c 2 (life_state_sc a198.State _ rfl) (.K 1 4)) (.K 4 4) (.M 1 4 36 32 (.M 1 4 41 37 (.s 4 44 (.r 7) (.Q 1 (.V 0 (slices_Min_int64_int64_sc [a198.Keeps.a0,a198.Keeps.a1,a198.Keeps.a2,a198.Keeps.a3]) fun x199=>.i 2 (.r 1) (.r 1)))))))))))
theorem step_Next_sc (a200:api_Task) (a204:List api_Instr) (r:api_Instr×Int) (h:step_Next a200 a204=some r):SC Tryz.prog gl 124 [V.agg a200.cells,V.sl 3 (rws api_Instr.cells a204)] (V.tup [V.agg (api_Instr.cells r.1),I r.2]) :=
 .w Tryz.func124 Tryz.call124 h (.v 4 (life_Check_sc a200) fun x206=>.T 2 4 14 (step_Next_j1 a200 a204) (fun HJ9014=>.s 0 10 (.U 4 4 10 HJ9014) (.v 1 (code_Check_sc a204) fun x207=>.U 2 4 10 HJ9014)) fun b205=>.O 1 6 21 15 (decide (a200.Pc > (a204.length:Int))) (.K 6 6) (.e 3 (.K 2 6)) (.i 0 (.r 3) (.e 6 (.j3 1 0 0 [2,4,6] [] [[2],[4]] (step_Next_j2 a200) (fun v201 v202 v203 s=>s.o [6] (Obj.box [I v201,I v202,I v203])) (fun v201 v202 v203=>.B 4 11 48 37 (((v201 != 1)||(decide (a200.Unit≥v202)))) (.N 4 6 47 41 (.K 1 6)) (.K 11 11) (.i 0 (.r 3) (.r 3))) fun HJ9021=>.i 0 (.q 3 (.j 1 HJ9021)) (.j 0 HJ9021)))))
theorem crew_checker_task_sc (a208:crew_checker) (a209:Int) (r:Bool) (h:crew_checker_task a208 a209=some r):SC Tryz.prog gl 51 [V.agg a208.cells,I a209] (V.bool r) :=
 .w Tryz.func51 Tryz.call51 h (.q 6 (.q 7 (.i 1 (.Q 2 (.r 1)) (.D 0 41 [] [] (.A 40 [0] (.v 1 (life_Check_sc (gt a208.w.T a209)) fun x210=>.A 37 [2,3] (.S 28 (.A 0 (up 4 37) (.Z (.r 2))) (.A 32 (up 4 5) (.S 33 (.A 0 (up 9 32) (.Z (.r 2))) (.A 25 (up 9 7) (.k (.X 16 [] (.Y 17 [] (.A 17 (up 18 6) (.S 48 (.A 0 (up 24 17) (.Z (.r 2))) (.A 12 (up 24 5) (.E 29 [] (.A 8 (up 30 3) (.S 57 (.A 0 (up 33 8) (.Z (.r 2))) (.A 3 (up 33 5) (.E 38 [] (.A 0 [39,40] (.Z (.i 0 (.r 1) (.D 0 15 [(13,[6])] [] (.A 9 (up 0 6) (.k (.X 6 [[6]] (.Y 7 [[6]] (.b2 fun x211 x212=>.g 8 (step_Next_sc (gt a208.w.T a209) (gt a208.c.Progs ((gt a208.w.T a209).Prog))) (.A 3 (up 9 3) (.oq 12 (.w 13 (.A 0 [14] (.Z (.r 3))))))))))))))))))))))))))))))))))))
theorem slices_Clone_int_int_sc (xs:List Int) (r:List Int) (h:slices_Clone_int_int xs=some r):SC Tryz.prog gl 217 [V.sl 1 (rws (fun n=>[I n]) xs)] (V.own 1 (rws (fun n=>[I n]) r)):=by
 rw [slices_Clone_int_int] at h
 refine okG h (fun hf h=>?_)
 cases h
 refine SC.go Tryz.func217 Tryz.call217 0 ?_
 refine Q0 E_good rfl (v:=V.nils) (.fn rfl) ?_
 refine .go 0 ?_
 refine Q0 E_good rfl (v:=V.sl 1 (rws (fun n=>[I n]) xs)) (.fn rfl) ?_
 refine SafeOps.nilcmp E_good rfl rfl rfl rfl rfl rfl rfl (fun b hb=>?_)
 refine .go 0 ?_
 cases b with
 | true =>
  have hx:xs=[]:=List.map_eq_nil_iff.1 (hb rfl)
  subst hx
  refine .go 1 ?_
  refine Q0 E_good rfl (v:=V.nils) (.fn rfl) ?_
  refine .go 0 ?_
  refine retG ?_
  exact ⟨_,(.nils _),by simp⟩
 | false =>
  refine .go 1 ?_
  refine SafeOps.quiet1 E_good rfl rfl rfl (.litM (f:=(fun n=>[I n])) (xs:=[]) rfl rfl (by decide) rfl rfl rfl rfl rfl) rfl ?_
  refine Q0 E_good rfl (v:=V.sl 1 (rws (fun n=>[I n]) xs)) (.fn rfl) ?_
  refine SafeOps.appendM (fun n=>[I n]) (xs:=[]) (ys:=xs) E_good rfl rfl rfl rfl rfl rfl rfl rfl rfl (.own rfl) (.sl _) (fun _=>rfl) hf ?_
  refine Q0 E_good rfl (v:=V.ref [7] 0 (rws (fun n=>[I n]) ([]++xs)).length) (.fn rfl) ?_
  refine .go 0 ?_
  refine retG ?_
  exact ⟨_,.own rfl rfl,by simp⟩
theorem chain_own_sc (a213:api_Chains) (a222:List Int) (a218:List Int) (r:api_Chains×Int) (h:chain_own a213 a222 a218=some r):SC Tryz.prog gl 194 [V.agg a213.cells,V.sl 1 (rws (fun n=>[I n]) a222),V.sl 1 (rws (fun n=>[I n]) a218)] (V.tup [V.agg [V.own 1 (rws (fun n=>[I n]) r.1.Next),V.own 1 (rws (fun n=>[I n]) r.1.Head),V.own 1 (rws (fun n=>[I n]) r.1.Tail)],I r.2]) :=
 .w Tryz.func194 Tryz.call194 h (.v 5 (chain_Check_sc a213) fun x224=>.j1 2 2 8 [2,3,6,8] [] [[3],[6]] (chain_own_j5 a213 a218) (fun v220 s=>s.t 20 (V.bool v220)) (fun v220=>.s 1 21 (.R 12) (.e 4 (.y 0 Tryz.func240 Tryz.call240 (.y 5 Tryz.func97 Tryz.call97 (.j1 3 2 1 [] [[3,6,21]] [[3],[6]] (chain_own_j9 a213) (fun v214 s=>s.t 7 (I v214)) (fun v214=>.i 4 (.R 3) (.D 0 12 [(10,[6])] [] (.A 6 [0,1,3,4,6,7] (.b fun x215=>.oh 2 (slices_Clone_int_int_sc a213.Next) (.b fun x216=>.oh 5 (slices_Clone_int_int_sc a213.Head) (.b fun x217=>.oh 8 (slices_Clone_int_int_sc a213.Tail) (.A 2 [9] (.w 10 (.A 0 [11] (.Z (.R 0))))))))))) fun HJ9564=>.y 0 Tryz.func176 Tryz.call176 (.e 2 (.l1 1 [0,1,7] [[],[3,6,21]] [[3],[6],[27,1]] (fun v219 s=>s.t 8 (I v219)) fun v219=>.i 1 (.q 5 (.y 0 Tryz.func241 Tryz.call241 (.N 4 4 10 6 (.i 2 (.o (.J 3 HJ9564)) (.n 2))))) (.o (.J 2 HJ9564))))))))) fun HJ9465=>.s 0 12 (.J 8 HJ9465) (.e 4 (.y 0 Tryz.func240 Tryz.call240 (.y 5 Tryz.func97 Tryz.call97 (.j1 3 2 1 [] [[2,3,6,8,12]] [[3],[6]] (chain_own_j14 a213 a218) (fun v221 s=>s.t 7 (I v221)) (fun v221=>.J 4 HJ9465) fun HJ9629=>.y 0 Tryz.func176 Tryz.call176 (.e 2 (.l1 1 [0,1,7] [[],[2,3,6,8,12]] [[3],[6],[18,1]] (fun v223 s=>s.t 8 (I v223)) fun v223=>.i 1 (.q 5 (.y 0 Tryz.func241 Tryz.call241 (.N 4 4 10 6 (.i 2 (.o (.J 3 HJ9629)) (.n 2))))) (.o (.J 2 HJ9629)))))))))
theorem chain_Walk_sc (a225:api_Chains) (a230:Int) (r:(List Int)×Int) (h:chain_Walk a225 a230=some r):SC Tryz.prog gl 125 [V.agg a225.cells,I a230] (V.tup [V.own 1 (rws (fun n=>[I n]) r.1),I r.2]):=by
 rw [chain_Walk] at h
 refine SC.go Tryz.func125 Tryz.call125 5 ?_
 refine SafeOps.quiet1 E_good rfl rfl rfl (.litM (f:=(fun n=>[I n])) (xs:=[a230]) rfl rfl (by decide) rfl rfl rfl rfl rfl) rfl ?_
 refine bindG h ?_
 rintro ⟨x231,x232⟩ he9682 h
 refine .cS (chain_own_sc a225 [a230] [] _ he9682) ?_
 refine .go 6 ?_
 refine .ifC h (fun hc9683 h=>?_) (fun hc9683 h=>?_)
 ·exact .w h (.R 3)
 ·refine .go 2 ?_
  refine .inl Tryz.func185 Tryz.call185 6 ?_
  refine Safe.rangeFunc (k:=9021) rfl rfl Tryz.func237 rfl (fun _ _=>Tryz.call237 _ _) rfl rfl rfl ?_
  refine .go0 0 ?_
  refine Safe.regionD (n:=7) [] [] E_good mixed rfl ?_
  refine rA 4 (up 0 3) ?_
  refine okG h (fun hb9684 h=>?_)
  refine DT 3 [] rfl rfl (v:=V.spt 1 (rws (fun n=>[I n]) a225.Head) (Int.toNat a230) 0) (fun _ hz=>(.idxSlM (f:=(fun n=>[I n])) rfl rfl rfl rfl rfl hb9684)) ?_
  refine DT 4 [] rfl rfl (v:=I (gt a225.Head a230)) (fun _ hz=>(.load rfl rfl (.sptM (f:=(fun n=>[I n])) hb9684 rfl) rfl)) ?_
  refine rA 0 [5,6] ?_
  refine DAny.nil (by kernel_rfl) ?_
  refine .go 2 ?_
  refine .len ?_
  refine .go 2 ?_
  refine Safe.loopS (fun((v226,v227,v228,v229):Int×Int×Int×(List Int))=>⟨Tryz.f237.ntmps,[(0,V.yld [9021]),(1,V.ptr [20,2] 0 0),(4,I v226),(5,I v227),(14,I (IntKind.i64.wrap ((a225.Next.length:Int)+1))),(15,I v228)],[([4],Obj.box [V.ref [7000,114,4,0] 0 (rws (fun n=>[I n]) v229).length]),([20,2],Obj.box a225.cells),([7000,114,4,0],Obj.rows 1 (rws (fun n=>[I n]) v229) false),([9021],Go.AM.Obj.loop Tryz.f125.ntmps [(4,V.ptr [4] 0 0)] [21,22] (rfA Tryz.f125 0) (rfB Tryz.f125 0) .ready none)],[(1,[(0,V.yld [9021])]),(Tryz.f125.ntmps,[(4,V.ptr [4] 0 0)])],[9021,0]⟩) h (.empty [7000,114,4,0] 1 rfl (.cov ⟨rfl,rfl,(ut (ut (ut (ut (ut (ut upT_nil)))))),(upOb_cons rfl (.box (.cons (.nilref _) .nil)) (uo (uo (upOb_cons rfl (by exact .loop (ut upT_nil)) upOb_nil)))),(upOut_cons rfl (ut upT_nil) (upOut_cons rfl (ut upT_nil) upOut_nil)),rfl⟩)) ?_
  rintro ⟨v226,v227,v228,v229⟩ ohr9705 h hr9705
  rw [chain_Walk_s1] at h
  refine .go 1 ?_
  refine .ifC h (fun hc9706 h=>?_) (fun hc9706 h=>?_)
  ·refine .go 3 ?_
   refine SafeOps.bjoinL 6 25 19 rfl (b:=((decide (v227 < 0))||(decide (v227≥(a225.Next.length:Int))))) (b1:=true) (b0:=decide (v227≥(a225.Next.length:Int))) (fun hc9707 K=>?_) (fun hc9707 K=>?_) bj_or ?_
   ·refine rO 6 ?_
    exact SafeOps.drop' 6 rfl rfl rfl K
   ·exact .w h (.e 3 (.K 2 6))
   refine .go 1 ?_
   refine SafeOps.ifD 26 h rfl (fun hc9708 h=>?_) (fun hc9708 h=>?_)
   ·refine .go 7 ?_
    refine rfQ.n (.inr rfl) rfl rfl (fun hbusy=>by cases hbusy) ?_
    replace h:=inr_out h hr9705
    exact .w h (.R 3)
   ·refine .go 3 ?_
    refine SafeOps.yield rfl rfl rfl rfl rfl rfl rfl rfl ?_
    refine .go0 1 ?_
    refine asgQ.go rfl rfl ?_
    refine .go0 2 ?_
    refine SafeOps.quiet1 E_good rfl rfl rfl (.litM (f:=(fun n=>[I n])) (xs:=[v227]) rfl rfl (by decide) rfl rfl rfl rfl rfl) rfl ?_
    refine okG h (fun hb9710 h=>?_)
    refine SafeOps.appendM (fun n=>[I n]) (xs:=v229) (ys:=[v227]) E_good rfl rfl rfl rfl rfl rfl rfl rfl rfl (.own rfl) (.own rfl) (fun _=>rfl) hb9710 ?_
    refine .go 1 ?_
    refine roundQ.go rfl rfl rfl rfl rfl ?_
    refine .go 3 ?_
    refine Safe.regionD (n:=8) [] [] E_good mixed rfl ?_
    refine rA 4 (up 0 4) ?_
    refine okG h (fun hb9711 h=>?_)
    refine DT 4 [] rfl rfl (v:=V.spt 1 (rws (fun n=>[I n]) a225.Next) (Int.toNat v227) 0) (fun _ hz=>(.idxSlM (f:=(fun n=>[I n])) rfl rfl rfl rfl rfl hb9711)) ?_
    refine DT 5 [] rfl rfl (v:=I (gt a225.Next v227)) (fun _ hz=>(.load rfl rfl (.sptM (f:=(fun n=>[I n])) hb9711 rfl) rfl)) ?_
    refine rA 0 [6,7] ?_
    refine DAny.nil (by kernel_rfl) ?_
    refine .go 2 ?_
    exact lpK ⟨_,next_out h,(.ren [9021,0,30,26] [7000,114,4,0] (.cov ⟨rfl,rfl,(ut (ut (ut (ut (ut (ut upT_nil)))))),(uo (uo (uo (upOb_cons rfl (by exact .loop (ut upT_nil)) upOb_nil)))),(upOut_cons rfl (ut upT_nil) (upOut_cons rfl (ut upT_nil) upOut_nil)),rfl⟩))⟩
  ·refine .go 0 ?_
   replace h:=inr_out h hr9705
   refine .go 0 ?_
   refine rfQ.n (.inl rfl) rfl rfl (fun hbusy=>by cases hbusy) ?_
   exact .w h (.R 3)
theorem crew_checker_list_sc (a234:crew_checker) (a235:Int) (r:Bool) (h:crew_checker_list a234 a235=some r):SC Tryz.prog gl 52 [V.agg a234.cells,I a235] (V.bool r) :=
 .w Tryz.func52 Tryz.call52 h (.b2 fun(x236:List Int) x238=>.g 7 (chain_Walk_sc a234.w.Lists a235) (.s 8 17 (.y 2 Tryz.func97 Tryz.call97 (.j1 3 2 1 [] [[17]] [] crew_checker_list_j4 (fun v233 s=>s.t 7 (I v233)) (fun v233=>.r 6) fun HJ10059=>.y 0 Tryz.func176 Tryz.call176 (.e 2 (.l1 1 [0,1,7] [[],[17]] [[2],[3],[12,0]] (fun v237 s=>s.t 8 (I v237)) fun v237=>.i 1 (.k (.Q 5 (.Q 0 (.y 0 Tryz.func126 Tryz.call126 (.q 5 (.q 7 (.N 2 4 24 20 (.N 1 5 30 25 (.i 2 (.o (.J 3 HJ10059)) (.n 2)))))))))) (.o (.J 2 HJ10059)))))) (.r 6)))
theorem crew_within_sc (a239:Int) (a240:Int) (a241:Int) (r:Bool) (h:crew_within a239 a240 a241=r):SC Tryz.prog gl 128 [I a239,I a240,I a241] (V.bool r) :=
 .w Tryz.func128 Tryz.call128 h (.M 5 4 14 10 (.r 1))
theorem cell_Check_sc (a242:List Int) (r:Int) (h:cell_Check a242=r):SC Tryz.prog gl 256 [V.sl 1 (rws (fun n=>[I n]) a242)] (I r) :=
 .w Tryz.func256 Tryz.call256 h (.e 2 (.i 1 (.r 1) (.r 1)))
theorem ring_Check_sc (a243:List Int) (a244:api_Deque) (r:Int) (h:ring_Check a243 a244=r):SC Tryz.prog gl 242 [V.sl 1 (rws (fun n=>[I n]) a243),V.agg a244.cells] (I r) :=
 .w Tryz.func242 Tryz.call242 h (.c 3 (cell_Check_sc a243 _ rfl) (.N 2 4 12 8 (.N 1 4 17 13 (.N 1 4 22 18 (.O 1 10 33 23 (decide (a244.Base > (IntKind.i64.wrap ((IntKind.i64.wrap ((a243.length:Int) - a244.Cap)) - 2)))) (.K 10 10) (.e 3 (.K 6 10)) (.i 0 (.r 1) (.r 1)))))))
theorem ring_accesses_sc (a245:Int) (r:List Nat) (h:ring_accesses a245=r):SC Tryz.prog gl 244 [I a245] (V.sl 1 (rws (fun f:Nat=>[V.fn f []]) r)):=by
 rw [ring_accesses] at h
 refine SC.go Tryz.func244 Tryz.call244 1 ?_
 refine SafeOps.quiet1 E_good rfl rfl rfl (.mkMapM (fun n:Int=>I n) (fun l:List Nat=>V.sl 1 (rws (fun f:Nat=>[V.fn f []]) l))) rfl ?_
 refine SafeOps.quiet1 E_good rfl rfl rfl (.litM (f:=(fun f:Nat=>[V.fn f []])) (xs:=[257,258,259,260]) rfl rfl (by decide) rfl rfl rfl rfl rfl) rfl ?_
 refine .freeze [4] rfl ?_
 refine .see 4 (u:=V.sl 1 (rws (fun f:Nat=>[V.fn f []]) [257,258,259,260])) rfl (.full rfl rfl) ?_
 refine SafeOps.mputM (fun n:Int=>I n) (fun l:List Nat=>V.sl 1 (rws (fun f:Nat=>[V.fn f []]) l)) [] 1 [257,258,259,260] E_good (keyI .i64) rfl (.inr rfl) rfl rfl rfl rfl rfl rfl rfl rfl rfl ?_
 refine SafeOps.quiet1 E_good rfl rfl rfl (.litM (f:=(fun f:Nat=>[V.fn f []])) (xs:=[261,262,263,264,265,266,267]) rfl rfl (by decide) rfl rfl rfl rfl rfl) rfl ?_
 refine .freeze [5] rfl ?_
 refine .see 5 (u:=V.sl 1 (rws (fun f:Nat=>[V.fn f []]) [261,262,263,264,265,266,267])) rfl (.full rfl rfl) ?_
 refine SafeOps.mputM (fun n:Int=>I n) (fun l:List Nat=>V.sl 1 (rws (fun f:Nat=>[V.fn f []]) l)) (mput [] 1 [257,258,259,260]) 2 [261,262,263,264,265,266,267] E_good (keyI .i64) rfl (.inr rfl) rfl rfl rfl rfl rfl rfl rfl rfl rfl ?_
 refine SafeOps.quiet1 E_good rfl rfl rfl (.litM (f:=(fun f:Nat=>[V.fn f []])) (xs:=[257,268,269,270]) rfl rfl (by decide) rfl rfl rfl rfl rfl) rfl ?_
 refine .freeze [6] rfl ?_
 refine .see 6 (u:=V.sl 1 (rws (fun f:Nat=>[V.fn f []]) [257,268,269,270])) rfl (.full rfl rfl) ?_
 refine SafeOps.mputM (fun n:Int=>I n) (fun l:List Nat=>V.sl 1 (rws (fun f:Nat=>[V.fn f []]) l)) (mput (mput [] 1 [257,258,259,260]) 2 [261,262,263,264,265,266,267]) 3 [257,268,269,270] E_good (keyI .i64) rfl (.inr rfl) rfl rfl rfl rfl rfl rfl rfl rfl rfl ?_
 refine .go 2 ?_
 refine SafeOps.lookSl (fun n:Int=>I n) (fun f:Nat=>[V.fn f []]) 1 (m:=mput (mput (mput [] 1 [257,258,259,260]) 2 [261,262,263,264,265,266,267]) 3 [257,268,269,270]) (kk:=a245) (keyI .i64) E_good rfl rfl rfl rfl rfl rfl rfl rfl rfl rfl rfl rfl rfl ?_
 refine .go 1 ?_
 cases h
 exact retF
theorem ring_may_sc (a246:api_Hand) (r:Bool) (h:ring_may a246=r):SC Tryz.prog gl 243 [V.agg a246.cells] (V.bool r) :=
 .w Tryz.func243 Tryz.call243 h (.D 2 39 [] [] (.A 35 (up 0 4) (.S 6 (.A 31 (up 4 4) (.b fun(x247:List Nat)=>.g 8 (ring_accesses_sc a246.Kind) (.E 9 [] (.A 26 (up 10 3) (.S 15 (.A 18 (up 13 8) (.S 23 (.A 10 (up 21 8) (.S 31 (.A 5 (up 29 5) (.S 36 (.A 0 (up 34 5) (.Z (.r 0))) (.A 0 (up 34 5) (.Z (.r 0))))) (.A 0 (up 29 10) (.Z (.r 0))))) (.A 0 (up 21 18) (.Z (.r 0))))) (.A 0 (up 13 26) (.Z (.r 0)))))))) (.A 0 (up 4 35) (.Z (.r 0))))))
theorem pring_actor_top_sc (a248:ring_actor) (r:Int) (h:pring_actor_top a248=r):SC Tryz.prog gl 286 [V.spt 11 (rws ring_actor.cells [a248]) (Int.toNat 0) 0] (I r) :=
 .w Tryz.func286 Tryz.call286 h (.Q 5 (.r 1))
theorem cell_Load_sc (a249:List Int) (a250:Int) (r:Int×Int) (h:cell_Load a249 a250=some r):SC Tryz.prog gl 301 [V.sl 1 (rws (fun n=>[I n]) a249),I a250] (V.tup [I r.1,I r.2]) :=
 .w Tryz.func301 Tryz.call301 h (.y 4 Tryz.func305 Tryz.call305 (.c 3 (cell_Check_sc a249 _ rfl) (.N 2 3 12 9 (.O 1 5 18 13 (decide (a250≥(a249.length:Int))) (.K 5 5) (.e 2 (.K 2 5)) (.i 0 (.r 14) (.k (.x 2 (.d 13 (.r 2)))))))))
theorem pring_actor_bottom_sc (a251:ring_actor) (r:Int) (h:pring_actor_bottom a251=r):SC Tryz.prog gl 287 [V.spt 11 (rws ring_actor.cells [a251]) (Int.toNat 0) 0] (I r) :=
 .w Tryz.func287 Tryz.call287 h (.Q 5 (.r 2))
theorem pring_actor_slot_sc (a252:ring_actor) (a253:Int) (r:Int) (h:pring_actor_slot a252 a253=some r):SC Tryz.prog gl 291 [V.spt 11 (rws ring_actor.cells [a252]) (Int.toNat 0) 0,I a253] (I r):=by
 rw [pring_actor_slot] at h
 refine SC.go Tryz.func291 Tryz.call291 1 ?_
 refine Safe.regionD (n:=15) [] [] E_good mixed rfl ?_
 refine rA 11 (up 0 4) ?_
 refine DT 4 [] rfl rfl (v:=I ((a252).q.Base)) (fun _ hz=>(.load rfl rfl (.sptM (f:=ring_actor.cells) (by simp) rfl) rfl)) ?_
 refine rA 4 (up 5 6) ?_
 refine DT 11 [] rfl rfl (v:=I ((a252).q.Cap)) (fun _ hz=>(.load rfl rfl (.sptM (f:=ring_actor.cells) (by simp) rfl) rfl)) ?_
 refine okG h (fun hb10304 h=>?_)
 refine DT 12 [] rfl rfl (v:=I (Int.tmod a253 ((a252).q.Cap))) (fun _ hz=>(.remV rfl rfl hb10304)) ?_
 refine rA 0 [13,14] ?_
 refine DAny.nil (by kernel_rfl) ?_
 refine .go 0 ?_
 cases h
 exact retF
end Go.Proofs.YtmlcinmdkhmjhaaGreat
