/- Helper lemmas for the claim's theorem: an abstract machine over the model, proved sound; no condition beyond each lemma's own. -/
import Derived.Test.YtmlcinmdkhmjhaaGreatSEnv
import Derived.Test.YtmlcinmdkhmjhaaGreatSK
import Derived.Test.YtmlcinmdkhmjhaaGreatAmM
import Derived.Test.YtmlcinmdkhmjhaaGreatAmH
import Derived.Test.YtmlcinmdkhmjhaaGreatAmI
import Derived.Test.YtmlcinmdkhmjhaaGreatAmK
import Derived.Test.YtmlcinmdkhmjhaaGreatTD
set_option linter.unusedVariables false
set_option linter.unusedSimpArgs false
set_option linter.unnecessarySimpa false
set_option linter.unusedSectionVars false
namespace Go.Proofs.YtmlcinmdkhmjhaaGreat
open Go Go.AM
set_option maxRecDepth 100000
set_option maxHeartbeats 1000000
set_option linter.unusedVariables false
set_option linter.unusedSimpArgs false
variable {gl:List (Nat×List V)}
theorem w20_plain_sc (a0:Int) (r:api_Config) (h:w20_plain a0=r):SC Tryz.prog gl 18 [I a0] (V.agg (api_Config.cells r)):=by
 rw [w20_plain] at h
 refine SC.go Tryz.func18 Tryz.call18 1 ?_
 refine Q0 E_good rfl (v:=V.sl 1 (rws (fun n=>[I n]) [1])) (.litFM (f:=(fun n=>[I n])) (xs:=[1]) rfl rfl (by decide) rfl rfl rfl (by repeat first|exact .nil|refine .cons (by repeat first|exact .nil|refine .same ?_|refine .nz ?_) ?_) rfl rfl) ?_
 refine .go 1 ?_
 refine Q0 E_good rfl (v:=V.sl 1 (rws (fun n=>[I n]) [a0])) (.litFM (f:=(fun n=>[I n])) (xs:=[a0]) rfl rfl (by decide) rfl rfl rfl (by repeat first|exact .nil|refine .cons (by repeat first|exact .nil|refine .same ?_|refine .nz ?_) ?_) rfl rfl) ?_
 refine .go 1 ?_
 refine Q0 E_good rfl (v:=V.sl 3 (rws api_Instr.cells [(api_Instr.mk 9 0 0)])) (.litFM (f:=api_Instr.cells) (xs:=[(api_Instr.mk 9 0 0)]) rfl rfl (by decide) rfl rfl rfl (by repeat first|exact .nil|refine .cons (by repeat first|exact .nil|refine .same ?_|refine .nz ?_) ?_) rfl rfl) ?_
 refine Q0 E_good rfl (v:=V.sl 1 (rws (fun l=>[V.sl 3 (rws api_Instr.cells l)]) [[(api_Instr.mk 9 0 0)]])) (.litFM (f:=(fun l=>[V.sl 3 (rws api_Instr.cells l)])) (xs:=[[(api_Instr.mk 9 0 0)]]) rfl rfl (by decide) rfl rfl rfl (by repeat first|exact .nil|refine .cons (by repeat first|exact .nil|refine .same ?_|refine .nz ?_) ?_) rfl rfl) ?_
 exact .w h (.h 1 9 (V.agg [I 1,I 1,I 1,V.sl 1 (rws (fun n=>[I n]) [1]),V.sl 1 (rws (fun n=>[I n]) [a0]),V.sl 1 (rws (fun l=>[V.sl 3 (rws api_Instr.cells l)]) [[(api_Instr.mk 9 0 0)]]),I 3,I 0,V.sl 1 (rws (fun n=>[I n]) [])]) (.r 1))
theorem entry_within_sc (a1:Int) (a2:Int) (a3:Int) (r:Bool) (h:entry_within a1 a2 a3=r):SC Tryz.prog gl 92 [I a1,I a2,I a3] (V.bool r) :=
 .w Tryz.func92 Tryz.call92 h (.M 5 4 14 10 (.r 1))
theorem code_within_sc (a4:Int) (a5:Int) (r:Bool) (h:code_within a4 a5=r):SC Tryz.prog gl 253 [I a4,I a5] (V.bool r) :=
 .w Tryz.func253 Tryz.call253 h (.M 4 4 11 7 (.r 1))
theorem code_odd_sc (a8:api_Instr) (r:Bool) (h:code_odd a8=r):SC Tryz.prog gl 232 [V.agg a8.cells] (V.bool r) :=
 .w Tryz.func232 Tryz.call232 h (.D 2 8 [] [] (.A 0 (up 0 8) (.Z (.j2 2 1 0 [] [] [] code_odd_j2 (fun v6 v7 s=>(s.t 3 (V.bool v6)).t 4 (V.bool v7)) (fun v6 v7=>.N 3 3 57 54 (.r 1)) fun HJ89=>.i 2 (.c 3 (code_within_sc (IntKind.i64.wrap (a8.A - 1)) 100 _ rfl) (.j 1 HJ89)) (.i 2 (.D 0 8 [] [] (.A 6 [0,1] (.c 2 (code_within_sc a8.A 16 _ rfl) (.A 3 [3,4] (.c 5 (code_within_sc a8.B 4 _ rfl) (.A 0 [6,7] (.Z (.j 0 HJ89)))))))) (.j1 2 0 0 [1,3,4,12] [] [[1]] (code_odd_j3 a8) (fun v10 s=>s.t 27 (V.bool v10)) (fun v10=>.i 0 (.j 0 HJ89) (.i 2 (.c 3 (code_within_sc (IntKind.i64.wrap (a8.A - 1)) 1000 _ rfl) (.j 1 HJ89)) (.i 2 (.c 2 (code_within_sc a8.A 16 _ rfl) (.j 1 HJ89)) (.i 2 (.c 2 (code_within_sc a8.A 4 _ rfl) (.j 1 HJ89)) (.j1 2 0 0 [1,4] [] [[1]] (code_odd_j4 a8) (fun v9 s=>s.t 46 (V.bool v9)) (fun v9=>.i 0 (.c 2 (code_within_sc a8.A 8 _ rfl) (.j 1 HJ89)) (.r 1)) fun HJ100=>.i 0 (.j 0 HJ100) (.j 2 HJ100)))))) fun HJ94=>.i 0 (.j 0 HJ94) (.j 2 HJ94)))))))
theorem slices_IndexFunc_api_Instr_api_Instr_odd232_sc (a11:List api_Instr) (r:Int) (h:slices_IndexFunc_api_Instr_api_Instr_odd232 a11=some r):SC Tryz.prog gl 178 [V.sl 3 (rws api_Instr.cells a11),V.fn 232 []] (I r) :=
 .w Tryz.func178 Tryz.call178 h (.e 2 (.l1 1 [0,1,7] [] [] (fun v12 s=>s.t 8 (I v12)) fun v12=>.i 1 (.q 5 (.c 0 (code_odd_sc (gt a11 v12) _ rfl) (.i 0 (.o (.r 2)) (.n 2)))) (.o (.r 1))))
theorem slices_ContainsFunc_api_Instr_api_Instr_odd232_sc (a13:List api_Instr) (r:Bool) (h:slices_ContainsFunc_api_Instr_api_Instr_odd232 a13=some r):SC Tryz.prog gl 100 [V.sl 3 (rws api_Instr.cells a13),V.fn 232 []] (V.bool r) :=
 .w Tryz.func100 Tryz.call100 h (.v 3 (slices_IndexFunc_api_Instr_api_Instr_odd232_sc a13) fun x14=>.r 2)
theorem code_Check_sc (a15:List api_Instr) (r:Int) (h:code_Check a15=some r):SC Tryz.prog gl 175 [V.sl 3 (rws api_Instr.cells a15)] (I r) :=
 .w Tryz.func175 Tryz.call175 h (.e 2 (.O 2 4 10 6 (decide ((a15.length:Int) > 32)) (.K 4 4) (.e 1 (.K 2 4)) (.s 1 11 (.r 5) (.v 1 (slices_ContainsFunc_api_Instr_api_Instr_odd232_sc a15) fun x16=>.i 1 (.r 1) (.r 1)))))
theorem code_CheckAll_sc (a19:List (List api_Instr)) (r:Int) (h:code_CheckAll a19=some r):SC Tryz.prog gl 93 [V.sl 1 (rws (fun l=>[V.sl 3 (rws api_Instr.cells l)]) a19)] (I r) :=
 .w Tryz.func93 Tryz.call93 h (.e 3 (.O 2 4 13 9 (decide ((a19.length:Int) > 16)) (.K 4 4) (.e 1 (.K 2 4)) (.i 0 (.r 1) (.e 3 (.l1 1 [3,15,16] [] [[1]] (fun v17 s=>s.t 17 (I v17)) fun v17=>.i 1 (.q 0 (.v 2 (code_Check_sc (gt a19 v17)) fun x21=>.s 2 24 (.o (.r 6)) (.y 2 Tryz.func100 Tryz.call100 (.j1 3 2 1 [] [[3,15,16,17,24,25,26]] [[1]] (code_CheckAll_j13 v17) (fun v18 s=>s.t 7 (I v18)) (fun v18=>.i 4 (.o (.r 1)) (.n 2)) fun HJ485=>.y 0 Tryz.func178 Tryz.call178 (.e 2 (.l1 1 [0,1,7] [[],[3,15,16,17,24,25,26]] [[1]] (fun v20 s=>s.t 8 (I v20)) fun v20=>.i 1 (.q 5 (.y 0 Tryz.func174 Tryz.call174 (.B 6 6 13 7 (decide (((gt (gt a19 v17) v20).A)≥(a19.length:Int))) (.e 3 (.K 2 6)) (.K 6 6) (.i 2 (.o (.J 3 HJ485)) (.n 2))))) (.o (.J 2 HJ485)))))))) (.o (.r 1)))))))
theorem lodge_within_int_sc (a22:Int) (a23:Int) (a24:Int) (r:Bool) (h:lodge_within_int a22 a23 a24=r):SC Tryz.prog gl 234 [I a22,I a23,I a24] (V.bool r) :=
 .w Tryz.func234 Tryz.call234 h (.M 5 4 14 10 (.r 1))
theorem lodge_within_int64_sc (a25:Int) (a26:Int) (a27:Int) (r:Bool) (h:lodge_within_int64 a25 a26 a27=r):SC Tryz.prog gl 235 [I a25,I a26,I a27] (V.bool r) :=
 .w Tryz.func235 Tryz.call235 h (.M 5 4 14 10 (.r 1))
theorem lodge_odd_sc (a28:api_Tenant) (r:Bool) (h:lodge_odd a28=r):SC Tryz.prog gl 182 [V.agg a28.cells] (V.bool r) :=
 .w Tryz.func182 Tryz.call182 h (.c 4 (lodge_within_int_sc a28.Weight 1 16 _ rfl) (.O 2 5 12 7 ((!(lodge_within_int a28.Quota 0 256))) (.K 5 5) (.c 2 (lodge_within_int_sc a28.Quota 0 256 _ rfl) (.K 2 5)) (.O 1 7 20 13 ((!(lodge_within_int a28.Live 0 a28.Quota))) (.K 7 7) (.c 4 (lodge_within_int_sc a28.Live 0 a28.Quota _ rfl) (.K 2 7)) (.O 1 5 26 21 ((!(lodge_within_int64 a28.Tag 0 1152921504606846976))) (.K 5 5) (.c 2 (lodge_within_int64_sc a28.Tag 0 1152921504606846976 _ rfl) (.K 2 5)) (.O 1 5 32 27 ((!(lodge_within_int64 a28.Ran 0 1099511627776))) (.K 5 5) (.c 2 (lodge_within_int64_sc a28.Ran 0 1099511627776 _ rfl) (.K 2 5)) (.r 1))))))
theorem slices_IndexFunc_api_Tenant_api_Tenant_odd182_sc (a29:List api_Tenant) (r:Int) (h:slices_IndexFunc_api_Tenant_api_Tenant_odd182 a29=some r):SC Tryz.prog gl 233 [V.sl 5 (rws api_Tenant.cells a29),V.fn 182 []] (I r) :=
 .w Tryz.func233 Tryz.call233 h (.e 2 (.l1 1 [0,1,7] [] [] (fun v30 s=>s.t 8 (I v30)) fun v30=>.i 1 (.q 5 (.c 0 (lodge_odd_sc (gt a29 v30) _ rfl) (.i 0 (.o (.r 2)) (.n 2)))) (.o (.r 1))))
theorem slices_ContainsFunc_api_Tenant_api_Tenant_odd182_sc (a31:List api_Tenant) (r:Bool) (h:slices_ContainsFunc_api_Tenant_api_Tenant_odd182 a31=some r):SC Tryz.prog gl 181 [V.sl 5 (rws api_Tenant.cells a31),V.fn 182 []] (V.bool r) :=
 .w Tryz.func181 Tryz.call181 h (.v 3 (slices_IndexFunc_api_Tenant_api_Tenant_odd182_sc a31) fun x32=>.r 2)
theorem lodge_Check_sc (a33:List api_Tenant) (r:Int) (h:lodge_Check a33=some r):SC Tryz.prog gl 103 [V.sl 5 (rws api_Tenant.cells a33)] (I r) :=
 .w Tryz.func103 Tryz.call103 h (.e 2 (.O 2 4 10 6 (decide ((a33.length:Int) > 16)) (.K 4 4) (.e 1 (.K 2 4)) (.s 1 11 (.r 5) (.v 1 (slices_ContainsFunc_api_Tenant_api_Tenant_odd182_sc a33) fun x34=>.i 1 (.r 1) (.r 1)))))
theorem lodge_New_sc (a35:List Int) (a36:List Int) (r:(List api_Tenant)×Int) (h:lodge_New a35 a36=some r):SC Tryz.prog gl 26 [V.sl 1 (rws (fun n=>[I n]) a35),V.sl 1 (rws (fun n=>[I n]) a36)] (V.tup [V.own 5 (rws api_Tenant.cells r.1),I r.2]) :=
 .w Tryz.func26 Tryz.call26 h (.e 3 (.e 1 (.O 2 4 18 14 (decide ((a35.length:Int) > 16)) (.K 4 4) (.e 1 (.K 2 4)) (.i 0 (.R 2) (.e 1 (.k (.H 0 api_Tenant.cells api_Tenant.zero (.e 2 (.l2 1 [0,1,23] [] [] (fun v37 v38 s=>((s.t 6 (V.ref [21] 0 (rws api_Tenant.cells v37).length)).t 24 (I v38)).o [21] (Obj.rows 5 (rws api_Tenant.cells v37) false)) fun v37 v38=>.i 1 (.D 2 13 [(12,[21])] [] (.A 9 (up 0 4) (.k (.X 4 [[21]] (.Y 5 [[21]] (.A 5 [6,7] (.k (.X 8 [[21]] (.Y 9 [[21]] (.A 2 [10] (.k (.P 11 [] (.os 12 ((api_Tenant.mk (gt a35 v38) (gt a36 v38) 0 0 0)) (.Z (.h 0 6 (V.ref [21] 0 (rws api_Tenant.cells (st v37 v38 (api_Tenant.mk (gt a35 v38) (gt a36 v38) 0 0 0))).length) (.h 0 27 (V.ref [21] 0 (rws api_Tenant.cells (st v37 v38 (api_Tenant.mk (gt a35 v38) (gt a36 v38) 0 0 0))).length) (.n 2))))))))))))))))) (.o (.V 1 (lodge_Check_sc v37) fun x39=>.i 3 (.R 3) (.R 3))))))))))))
theorem sema_New_sc (a40:Int) (r:api_Sem×Int) (h:sema_New a40=r):SC Tryz.prog gl 95 [I a40] (V.tup [V.agg [I r.1.Free,V.own 1 (rws (fun n=>[I n]) r.1.Wait)],I r.2]) :=
 .w Tryz.func95 Tryz.call95 h (.N 5 3 9 6 (.i 0 (.R 3) (.R 4)))
theorem entry_Config_1_sc (a41:Int) (r:Bool) (h:entry_Config_1 a41=r):SC Tryz.prog gl 94 [I a41] (V.bool r) :=
 .w Tryz.func94 Tryz.call94 h (.b2 fun x42 x43=>.g 2 (sema_New_sc a41) (.r 9))
theorem slices_IndexFunc_int_int_194_sc (a44:List Int) (r:Int) (h:slices_IndexFunc_int_int_194 a44=some r):SC Tryz.prog gl 176 [V.sl 1 (rws (fun n=>[I n]) a44),V.fn 94 []] (I r) :=
 .w Tryz.func176 Tryz.call176 h (.e 2 (.l1 1 [0,1,7] [] [] (fun v45 s=>s.t 8 (I v45)) fun v45=>.i 1 (.q 5 (.c 0 (entry_Config_1_sc (gt a44 v45) _ rfl) (.i 0 (.o (.r 2)) (.n 2)))) (.o (.r 1))))
theorem slices_ContainsFunc_int_int_194_sc (a46:List Int) (r:Bool) (h:slices_ContainsFunc_int_int_194 a46=some r):SC Tryz.prog gl 97 [V.sl 1 (rws (fun n=>[I n]) a46),V.fn 94 []] (V.bool r) :=
 .w Tryz.func97 Tryz.call97 h (.v 3 (slices_IndexFunc_int_int_194_sc a46) fun x47=>.r 2)
theorem entry_Config_sc (a53:api_Config) (r:Int) (h:entry_Config a53=some r):SC Tryz.prog gl 20 [V.agg a53.cells] (I r) :=
 .w Tryz.func20 Tryz.call20 h (.c 4 (entry_within_sc a53.Workers 1 64 _ rfl) (.B 1 4 15 11 (entry_within a53.Cap 1 1024) (.c 2 (entry_within_sc a53.Cap 1 1024 _ rfl) (.K 1 4)) (.K 4 4) (.B 1 4 20 16 (entry_within a53.Budget 1 100) (.c 2 (entry_within_sc a53.Budget 1 100 _ rfl) (.K 1 4)) (.K 4 4) (.B 1 4 25 21 (entry_within a53.Tasks 1 256) (.c 2 (entry_within_sc a53.Tasks 1 256 _ rfl) (.K 1 4)) (.K 4 4) (.B 1 4 30 26 (entry_within a53.Fds 0 16) (.c 2 (entry_within_sc a53.Fds 0 16 _ rfl) (.K 1 4)) (.K 4 4) (.N 4 8 41 33 (.O 1 5 47 42 (decide ((a53.Sems.length:Int) > 8)) (.K 5 5) (.e 2 (.K 2 5)) (.s 1 48 (.r 7) (.v 2 (code_CheckAll_sc a53.Progs) fun x55=>.i 2 (.r 1) (.b2 fun x56 x57=>.g 4 (lodge_New_sc a53.Weights a53.Quotas) (.i 7 (.r 1) (.v 7 (slices_ContainsFunc_int_int_194_sc a53.Sems) fun x58=>.s 1 69 (.r 7) (.y 3 Tryz.func98 Tryz.call98 (.j1 3 2 1 [] [[69]] [] entry_Config_j196 (fun v48 s=>s.t 7 (I v48)) (fun v48=>.i 4 (.r 1) (.r 1)) fun HJ4932=>.y 0 Tryz.func177 Tryz.call177 (.e 2 (.l1 1 [0,1,7] [[],[69]] [[1],[7]] (fun v49 s=>s.t 8 (I v49)) fun v49=>.i 1 (.q 5 (.y 0 Tryz.func99 Tryz.call99 (.y 3 Tryz.func100 Tryz.call100 (.j1 3 2 1 [] [[],[0,1,5,7,8],[],[69]] [[1],[7]] (entry_Config_j293 v49) (fun v50 s=>s.t 7 (I v50)) (fun v50=>.i 5 (.o (.J 3 HJ4932)) (.n 2)) fun HJ5364=>.y 0 Tryz.func178 Tryz.call178 (.e 2 (.l1 1 [0,1,7] [[],[],[0,1,5,7,8],[],[69]] [[1],[7]] (fun v51 s=>s.t 8 (I v51)) fun v51=>.i 1 (.q 5 (.j1 0 2 1 [0,1,5,7,8] [[],[],[0,1,5,7,8],[],[69]] [[1],[7]] (entry_Config_j300 v49 v51) (fun v52 s=>s.t 16 (V.bool v52)) (fun v52=>.i 0 (.o (.J 3 HJ5364)) (.n 2)) fun HJ5397=>.y 0 Tryz.func96 Tryz.call96 (.i 6 (.J 7 HJ5397) (.j1 2 0 0 [1,2] [[0,1,5,7,8],[],[],[0,1,5,7,8],[],[69]] [[1],[7],[73,7,16,6,7,16,2]] (entry_Config_j301 a53 v49 v51) (fun v54 s=>s.t 13 (V.bool v54)) (fun v54=>.i 0 (.e 4 (.J 3 HJ5397)) (.J 2 HJ5397)) fun HJ5401=>.i 0 (.j 0 HJ5401) (.j 2 HJ5401))))) (.o (.J 2 HJ5364)))))))) (.o (.J 2 HJ4932))))))))))))))))))
theorem crew_fresh_sc (a59:Int) (r:api_Worker) (h:crew_fresh a59=r):SC Tryz.prog gl 22 [I a59] (V.agg (api_Worker.cells r)) :=
 .w Tryz.func22 Tryz.call22 h (.h 3 4 (V.agg [I 0,I 0,I 0,I 0,I 0,I 0,V.bool false,I 0,I 0,V.sl 1 (rws (fun n=>[I n]) []),I a59,I 0,I (-1),I 0]) (.r 1))
theorem math_bits_Mul64_sc (a60:Int) (a61:Int) (r:Int×Int) (h:math_bits_Mul64 a60 a61=r):SC Tryz.prog gl 180 [V.int .u64 a60,V.int .u64 a61] (V.tup [V.int .u64 r.1,V.int .u64 r.2]) :=
 .w Tryz.func180 Tryz.call180 h (.Q 6 (.Q 5 (.Q 9 (.Q 6 (.Q 13 (.r 6))))))
theorem math_bits_Mul_sc (a62:Int) (a63:Int) (r:Int×Int) (h:math_bits_Mul a62 a63=r):SC Tryz.prog gl 101 [V.int .u64 a62,V.int .u64 a63] (V.tup [V.int .u64 r.1,V.int .u64 r.2]) :=
 .w Tryz.func101 Tryz.call101 h (.b2 fun x64 x65=>.g 5 (math_bits_Mul64_sc a62 a63) (.r 9))
theorem slices_Repeat_api_Worker_api_Worker_sc (a68:List api_Worker) (a69:Int) (r:List api_Worker) (h:slices_Repeat_api_Worker_api_Worker a68 a69=some r):SC Tryz.prog gl 21 [V.sl 14 (rws api_Worker.cells a68),I a69] (V.own 14 (rws api_Worker.cells r)):=by
 rw [slices_Repeat_api_Worker_api_Worker] at h
 refine SC.go Tryz.func21 Tryz.call21 3 ?_
 refine .ifC h (fun hc5444 h=>?_) (fun hc5444 h=>?_)
 ·exact .w h (.nn)
 ·refine .go 1 ?_
  refine .len ?_
  refine .go 3 ?_
  refine letG h ?_
  rintro ⟨x70,x71⟩ he5447 h
  refine .cP (math_bits_Mul_sc (IntKind.u64.wrap (a68.length:Int)) (IntKind.u64.wrap a69) _ he5447) ?_
  refine .go 8 ?_
  refine .bjO 3 26 23 ?_
  refine .go 0 ?_
  refine .ifC h (fun hc5449 h=>?_) (fun hc5449 h=>?_)
  ·exact .w h (.nn)
  ·refine .go 2 ?_
   refine okG h (fun hb5450 h=>?_)
   refine SafeOps.quiet1 E_good rfl rfl rfl (.makeMN (f:=api_Worker.cells) (d:=api_Worker.zero) rfl rfl rfl rfl hb5450 rfl (by repeat first|exact .nil|refine .same ?_|refine .nz ?_) rfl) rfl ?_
   refine .go 3 ?_
   refine SafeOps.copyW api_Worker.cells (xs:=List.replicate (Int.toNat (IntKind.i64.wrap x71)) api_Worker.zero) (ys:=a68) E_good rfl rfl rfl rfl rfl rfl rfl rfl rfl (.sl _) (fun _=>rfl) ?_
   refine .see 30 (u:=V.ref [30] 0 (rws api_Worker.cells (cpy (List.replicate (Int.toNat (IntKind.i64.wrap x71)) api_Worker.zero) 0 a68)).length) rfl (.len lenCp0) ?_
   refine .see 7 (u:=V.ref [30] 0 (rws api_Worker.cells (cpy (List.replicate (Int.toNat (IntKind.i64.wrap x71)) api_Worker.zero) 0 a68)).length) rfl (.len lenCp0) ?_
   refine .see 31 (u:=V.ref [30] 0 (rws api_Worker.cells (cpy (List.replicate (Int.toNat (IntKind.i64.wrap x71)) api_Worker.zero) 0 a68)).length) rfl (.len lenCp0) ?_
   refine .go 1 ?_
   refine Safe.loopS (fun((v66,v67):(List api_Worker)×Int)=>⟨Tryz.f21.ntmps,[(7,V.ref [30] 0 (rws api_Worker.cells v66).length),(8,I v67)],[([30],Obj.rows 14 (rws api_Worker.cells v66) false)],[],[]⟩) h covA ?_
   rintro ⟨v66,v67⟩ ohr5461 h hr5461
   rw [slices_Repeat_api_Worker_api_Worker_s1] at h
   refine .go 2 ?_
   refine .len ?_
   refine .go 1 ?_
   refine .ifC h (fun hc5462 h=>?_) (fun hc5462 h=>?_)
   ·refine .go 0 ?_
    refine Safe.regionD (n:=10) [] [7] E_good mixed rfl ?_
    refine rA 8 [1,2] ?_
    refine okG h (fun hb5463 h=>?_)
    refine DT 3 [] rfl rfl (v:=V.ref [30] (Int.toNat v67) (v66.length - Int.toNat v67)) (fun _ hz=>(.slRefT (f:=api_Worker.cells) (xs:=v66) rfl rfl rfl (hz _ _ rfl rfl) rfl hb5463)) ?_
    refine rA 5 [4,5] ?_
    refine okG h (fun hb5464 h=>?_)
    refine DT 6 [] rfl rfl (v:=V.ref [30] 0 (Int.toNat v67)) (fun _ hz=>(.slRefH (f:=api_Worker.cells) (xs:=v66) rfl rfl rfl (hz _ _ rfl rfl) rfl hb5464)) ?_
    refine DAny.fork (i:=0) (j:=7) rfl rfl (by kernel_rfl) ?_ ?_
    ·refine .quiet (v:=I v67) (nw:=[]) rfl rfl rfl (.fn rfl) rfl ?_
     refine DAny.onlyS (i:=7) rfl (by kernel_rfl) rfl ?_
     refine SafeOps.copyT api_Worker.cells (xs:=v66) (i:=v67) (j:=v67) E_good rfl rfl rfl rfl rfl rfl rfl rfl rfl rfl (fun _=>rfl) hb5463 hb5464 ?_
     refine .see 7 (u:=V.ref [30] 0 (rws api_Worker.cells (cpy v66 v67 (sub v66 0 v67))).length) rfl (.len (lenCp hb5463)) ?_
     refine .see 35 (u:=V.ref [30] 0 (rws api_Worker.cells (cpy v66 v67 (sub v66 0 v67))).length) rfl (.len (lenCp hb5463)) ?_
     refine .see 39 (u:=V.ref [30] 0 (rws api_Worker.cells (cpy v66 v67 (sub v66 0 v67))).length) rfl (.len (lenCp hb5463)) ?_
     refine .see 42 (u:=V.ref [30] 0 (rws api_Worker.cells (cpy v66 v67 (sub v66 0 v67))).length) rfl (.len (lenCp hb5463)) ?_
     exact .w0 h (.z 0 (.A 0 [8,9] (.Z (.n 0))))
    ·refine .other rfl ?_
     refine SafeOps.copyT api_Worker.cells (xs:=v66) (i:=v67) (j:=v67) E_good rfl rfl rfl rfl rfl rfl rfl rfl rfl rfl (fun _=>rfl) hb5463 hb5464 ?_
     refine .see 7 (u:=V.ref [30] 0 (rws api_Worker.cells (cpy v66 v67 (sub v66 0 v67))).length) rfl (.len (lenCp hb5463)) ?_
     refine .see 35 (u:=V.ref [30] 0 (rws api_Worker.cells (cpy v66 v67 (sub v66 0 v67))).length) rfl (.len (lenCp hb5463)) ?_
     refine .see 39 (u:=V.ref [30] 0 (rws api_Worker.cells (cpy v66 v67 (sub v66 0 v67))).length) rfl (.len (lenCp hb5463)) ?_
     refine .see 42 (u:=V.ref [30] 0 (rws api_Worker.cells (cpy v66 v67 (sub v66 0 v67))).length) rfl (.len (lenCp hb5463)) ?_
     exact .w0 h (.z 0 (.A 0 [0,8,9] (.Z (.n 0))))
   ·exact .w h (.o (.R 2))
theorem slot_New_sc (a72:Int) (r:api_Places×Int) (h:slot_New a72=some r):SC Tryz.prog gl 23 [I a72] (V.tup [V.agg [V.own 1 (rws (fun n=>[I n]) r.1.Gen),V.own 1 (rws (fun b=>[V.bool b]) r.1.Live)],I r.2]):=by
 rw [slot_New] at h
 refine SC.go Tryz.func23 Tryz.call23 5 ?_
 refine .bjO 3 9 6 ?_
 refine .go 0 ?_
 refine .ifC h (fun hc5490 h=>?_) (fun hc5490 h=>?_)
 ·exact .w h (.R 3)
 ·refine .go 0 ?_
  refine Safe.regionD (n:=7) [(5,[2])] [] E_good mixed rfl ?_
  refine rA 5 [0,2] ?_
  refine okG h (fun hb5491 h=>?_)
  skip
  refine okG h (fun hb5492 h=>?_)
  refine DAny.pair (i:=1) (j:=3) rfl rfl (by kernel_rfl) (by kernel_rfl) (by kernel_rfl) (by decide) rfl rfl rfl rfl rfl rfl (.makeM (f:=(fun n=>[I n])) (d:=(0:Int)) rfl rfl rfl rfl hb5491 rfl rfl rfl) (.makeM (f:=(fun b=>[V.bool b])) (d:=false) rfl rfl rfl rfl hb5492 rfl rfl rfl) rfl rfl rfl rfl (by kernel_rfl) (by kernel_rfl) (by decide) ?_
  refine rA 2 [4] ?_
  refine .sto 5 ?_
  refine rA 0 [6] ?_
  refine DAny.nil (by kernel_rfl) ?_
  exact .w h (.R 0)
theorem cell_New_sc (a73:Int) (r:(List Int)×Int) (h:cell_New a73=some r):SC Tryz.prog gl 24 [I a73] (V.tup [V.own 1 (rws (fun n=>[I n]) r.1),I r.2]) :=
 .w Tryz.func24 Tryz.call24 h (.N 5 3 9 6 (.i 0 (.R 2) (.k (.H 1 ((fun n=>[I n])) ((0:Int)) (.R 2)))))
theorem slices_Repeat_int_int_sc (a76:List Int) (a77:Int) (r:List Int) (h:slices_Repeat_int_int a76 a77=some r):SC Tryz.prog gl 102 [V.sl 1 (rws (fun n=>[I n]) a76),I a77] (V.own 1 (rws (fun n=>[I n]) r)):=by
 rw [slices_Repeat_int_int] at h
 refine SC.go Tryz.func102 Tryz.call102 3 ?_
 refine .ifC h (fun hc5538 h=>?_) (fun hc5538 h=>?_)
 ·exact .w h (.nn)
 ·refine .go 1 ?_
  refine .len ?_
  refine .go 3 ?_
  refine letG h ?_
  rintro ⟨x78,x79⟩ he5541 h
  refine .cP (math_bits_Mul_sc (IntKind.u64.wrap (a76.length:Int)) (IntKind.u64.wrap a77) _ he5541) ?_
  refine .go 8 ?_
  refine .bjO 3 26 23 ?_
  refine .go 0 ?_
  refine .ifC h (fun hc5543 h=>?_) (fun hc5543 h=>?_)
  ·exact .w h (.nn)
  ·refine .go 2 ?_
   refine okG h (fun hb5544 h=>?_)
   refine SafeOps.quiet1 E_good rfl rfl rfl (.makeM (f:=(fun n=>[I n])) (d:=(0:Int)) rfl rfl rfl rfl hb5544 rfl rfl rfl) rfl ?_
   refine .go 3 ?_
   refine SafeOps.copyW (fun n=>[I n]) (xs:=List.replicate (Int.toNat (IntKind.i64.wrap x79)) (0:Int)) (ys:=a76) E_good rfl rfl rfl rfl rfl rfl rfl rfl rfl (.sl _) (fun _=>rfl) ?_
   refine .see 30 (u:=V.ref [30] 0 (rws (fun n=>[I n]) (cpy (List.replicate (Int.toNat (IntKind.i64.wrap x79)) (0:Int)) 0 a76)).length) rfl (.len lenCp0) ?_
   refine .see 7 (u:=V.ref [30] 0 (rws (fun n=>[I n]) (cpy (List.replicate (Int.toNat (IntKind.i64.wrap x79)) (0:Int)) 0 a76)).length) rfl (.len lenCp0) ?_
   refine .see 31 (u:=V.ref [30] 0 (rws (fun n=>[I n]) (cpy (List.replicate (Int.toNat (IntKind.i64.wrap x79)) (0:Int)) 0 a76)).length) rfl (.len lenCp0) ?_
   refine .go 1 ?_
   refine Safe.loopS (fun((v74,v75):(List Int)×Int)=>⟨Tryz.f102.ntmps,[(7,V.ref [30] 0 (rws (fun n=>[I n]) v74).length),(8,I v75)],[([30],Obj.rows 1 (rws (fun n=>[I n]) v74) false)],[],[]⟩) h covA ?_
   rintro ⟨v74,v75⟩ ohr5555 h hr5555
   rw [slices_Repeat_int_int_s1] at h
   refine .go 2 ?_
   refine .len ?_
   refine .go 1 ?_
   refine .ifC h (fun hc5556 h=>?_) (fun hc5556 h=>?_)
   ·refine .go 0 ?_
    refine Safe.regionD (n:=10) [] [7] E_good mixed rfl ?_
    refine rA 8 [1,2] ?_
    refine okG h (fun hb5557 h=>?_)
    refine DT 3 [] rfl rfl (v:=V.ref [30] (Int.toNat v75) (v74.length - Int.toNat v75)) (fun _ hz=>(.slRefT (f:=(fun n=>[I n])) (xs:=v74) rfl rfl rfl (hz _ _ rfl rfl) rfl hb5557)) ?_
    refine rA 5 [4,5] ?_
    refine okG h (fun hb5558 h=>?_)
    refine DT 6 [] rfl rfl (v:=V.ref [30] 0 (Int.toNat v75)) (fun _ hz=>(.slRefH (f:=(fun n=>[I n])) (xs:=v74) rfl rfl rfl (hz _ _ rfl rfl) rfl hb5558)) ?_
    refine DAny.fork (i:=0) (j:=7) rfl rfl (by kernel_rfl) ?_ ?_
    ·refine .quiet (v:=I v75) (nw:=[]) rfl rfl rfl (.fn rfl) rfl ?_
     refine DAny.onlyS (i:=7) rfl (by kernel_rfl) rfl ?_
     refine SafeOps.copyT (fun n=>[I n]) (xs:=v74) (i:=v75) (j:=v75) E_good rfl rfl rfl rfl rfl rfl rfl rfl rfl rfl (fun _=>rfl) hb5557 hb5558 ?_
     refine .see 7 (u:=V.ref [30] 0 (rws (fun n=>[I n]) (cpy v74 v75 (sub v74 0 v75))).length) rfl (.len (lenCp hb5557)) ?_
     refine .see 35 (u:=V.ref [30] 0 (rws (fun n=>[I n]) (cpy v74 v75 (sub v74 0 v75))).length) rfl (.len (lenCp hb5557)) ?_
     refine .see 39 (u:=V.ref [30] 0 (rws (fun n=>[I n]) (cpy v74 v75 (sub v74 0 v75))).length) rfl (.len (lenCp hb5557)) ?_
     refine .see 42 (u:=V.ref [30] 0 (rws (fun n=>[I n]) (cpy v74 v75 (sub v74 0 v75))).length) rfl (.len (lenCp hb5557)) ?_
     exact .w0 h (.z 0 (.A 0 [8,9] (.Z (.n 0))))
    ·refine .other rfl ?_
     refine SafeOps.copyT (fun n=>[I n]) (xs:=v74) (i:=v75) (j:=v75) E_good rfl rfl rfl rfl rfl rfl rfl rfl rfl rfl (fun _=>rfl) hb5557 hb5558 ?_
     refine .see 7 (u:=V.ref [30] 0 (rws (fun n=>[I n]) (cpy v74 v75 (sub v74 0 v75))).length) rfl (.len (lenCp hb5557)) ?_
     refine .see 35 (u:=V.ref [30] 0 (rws (fun n=>[I n]) (cpy v74 v75 (sub v74 0 v75))).length) rfl (.len (lenCp hb5557)) ?_
     refine .see 39 (u:=V.ref [30] 0 (rws (fun n=>[I n]) (cpy v74 v75 (sub v74 0 v75))).length) rfl (.len (lenCp hb5557)) ?_
     refine .see 42 (u:=V.ref [30] 0 (rws (fun n=>[I n]) (cpy v74 v75 (sub v74 0 v75))).length) rfl (.len (lenCp hb5557)) ?_
     exact .w0 h (.z 0 (.A 0 [0,8,9] (.Z (.n 0))))
   ·exact .w h (.o (.R 2))
theorem chain_New_sc (a80:Int) (a81:Int) (r:api_Chains×Int) (h:chain_New a80 a81=some r):SC Tryz.prog gl 25 [I a80,I a81] (V.tup [V.agg [V.own 1 (rws (fun n=>[I n]) r.1.Next),V.own 1 (rws (fun n=>[I n]) r.1.Head),V.own 1 (rws (fun n=>[I n]) r.1.Tail)],I r.2]) :=
 .w Tryz.func25 Tryz.call25 h (.N 5 3 11 8 (.N 1 3 15 12 (.N 1 3 19 16 (.i 0 (.R 3) (.L 0 ((fun n=>[I n])) ([-2]) (.V 1 (slices_Repeat_int_int_sc [-2] a80) fun x82=>.L 0 ((fun n=>[I n])) ([-1]) (.V 1 (slices_Repeat_int_int_sc [-1] a81) fun x83=>.L 0 ((fun n=>[I n])) ([-1]) (.V 1 (slices_Repeat_int_int_sc [-1] a81) fun x84=>.R 3))))))))
theorem poll_shut_sc  (r:api_Fd) (h:poll_shut =r):SC Tryz.prog gl 105 [] (V.agg (api_Fd.cells r)) :=
 .w Tryz.func105 Tryz.call105 h (.r 3)
theorem slices_Repeat_api_Fd_api_Fd_sc (a87:List api_Fd) (a88:Int) (r:List api_Fd) (h:slices_Repeat_api_Fd_api_Fd a87 a88=some r):SC Tryz.prog gl 104 [V.sl 3 (rws api_Fd.cells a87),I a88] (V.own 3 (rws api_Fd.cells r)):=by
 rw [slices_Repeat_api_Fd_api_Fd] at h
 refine SC.go Tryz.func104 Tryz.call104 3 ?_
 refine .ifC h (fun hc5630 h=>?_) (fun hc5630 h=>?_)
 ·exact .w h (.nn)
 ·refine .go 1 ?_
  refine .len ?_
  refine .go 3 ?_
  refine letG h ?_
  rintro ⟨x89,x90⟩ he5633 h
  refine .cP (math_bits_Mul_sc (IntKind.u64.wrap (a87.length:Int)) (IntKind.u64.wrap a88) _ he5633) ?_
  refine .go 8 ?_
  refine .bjO 3 26 23 ?_
  refine .go 0 ?_
  refine .ifC h (fun hc5635 h=>?_) (fun hc5635 h=>?_)
  ·exact .w h (.nn)
  ·refine .go 2 ?_
   refine okG h (fun hb5636 h=>?_)
   refine SafeOps.quiet1 E_good rfl rfl rfl (.makeM (f:=api_Fd.cells) (d:=api_Fd.zero) rfl rfl rfl rfl hb5636 rfl rfl rfl) rfl ?_
   refine .go 3 ?_
   refine SafeOps.copyW api_Fd.cells (xs:=List.replicate (Int.toNat (IntKind.i64.wrap x90)) api_Fd.zero) (ys:=a87) E_good rfl rfl rfl rfl rfl rfl rfl rfl rfl (.sl _) (fun _=>rfl) ?_
   refine .see 30 (u:=V.ref [30] 0 (rws api_Fd.cells (cpy (List.replicate (Int.toNat (IntKind.i64.wrap x90)) api_Fd.zero) 0 a87)).length) rfl (.len lenCp0) ?_
   refine .see 7 (u:=V.ref [30] 0 (rws api_Fd.cells (cpy (List.replicate (Int.toNat (IntKind.i64.wrap x90)) api_Fd.zero) 0 a87)).length) rfl (.len lenCp0) ?_
   refine .see 31 (u:=V.ref [30] 0 (rws api_Fd.cells (cpy (List.replicate (Int.toNat (IntKind.i64.wrap x90)) api_Fd.zero) 0 a87)).length) rfl (.len lenCp0) ?_
   refine .go 1 ?_
   refine Safe.loopS (fun((v85,v86):(List api_Fd)×Int)=>⟨Tryz.f104.ntmps,[(7,V.ref [30] 0 (rws api_Fd.cells v85).length),(8,I v86)],[([30],Obj.rows 3 (rws api_Fd.cells v85) false)],[],[]⟩) h covA ?_
   rintro ⟨v85,v86⟩ ohr5647 h hr5647
   rw [slices_Repeat_api_Fd_api_Fd_s1] at h
   refine .go 2 ?_
   refine .len ?_
   refine .go 1 ?_
   refine .ifC h (fun hc5648 h=>?_) (fun hc5648 h=>?_)
   ·refine .go 0 ?_
    refine Safe.regionD (n:=10) [] [7] E_good mixed rfl ?_
    refine rA 8 [1,2] ?_
    refine okG h (fun hb5649 h=>?_)
    refine DT 3 [] rfl rfl (v:=V.ref [30] (Int.toNat v86) (v85.length - Int.toNat v86)) (fun _ hz=>(.slRefT (f:=api_Fd.cells) (xs:=v85) rfl rfl rfl (hz _ _ rfl rfl) rfl hb5649)) ?_
    refine rA 5 [4,5] ?_
    refine okG h (fun hb5650 h=>?_)
    refine DT 6 [] rfl rfl (v:=V.ref [30] 0 (Int.toNat v86)) (fun _ hz=>(.slRefH (f:=api_Fd.cells) (xs:=v85) rfl rfl rfl (hz _ _ rfl rfl) rfl hb5650)) ?_
    refine DAny.fork (i:=0) (j:=7) rfl rfl (by kernel_rfl) ?_ ?_
    ·refine .quiet (v:=I v86) (nw:=[]) rfl rfl rfl (.fn rfl) rfl ?_
     refine DAny.onlyS (i:=7) rfl (by kernel_rfl) rfl ?_
     refine SafeOps.copyT api_Fd.cells (xs:=v85) (i:=v86) (j:=v86) E_good rfl rfl rfl rfl rfl rfl rfl rfl rfl rfl (fun _=>rfl) hb5649 hb5650 ?_
     refine .see 7 (u:=V.ref [30] 0 (rws api_Fd.cells (cpy v85 v86 (sub v85 0 v86))).length) rfl (.len (lenCp hb5649)) ?_
     refine .see 35 (u:=V.ref [30] 0 (rws api_Fd.cells (cpy v85 v86 (sub v85 0 v86))).length) rfl (.len (lenCp hb5649)) ?_
     refine .see 39 (u:=V.ref [30] 0 (rws api_Fd.cells (cpy v85 v86 (sub v85 0 v86))).length) rfl (.len (lenCp hb5649)) ?_
     refine .see 42 (u:=V.ref [30] 0 (rws api_Fd.cells (cpy v85 v86 (sub v85 0 v86))).length) rfl (.len (lenCp hb5649)) ?_
     exact .w0 h (.z 0 (.A 0 [8,9] (.Z (.n 0))))
    ·refine .other rfl ?_
     refine SafeOps.copyT api_Fd.cells (xs:=v85) (i:=v86) (j:=v86) E_good rfl rfl rfl rfl rfl rfl rfl rfl rfl rfl (fun _=>rfl) hb5649 hb5650 ?_
     refine .see 7 (u:=V.ref [30] 0 (rws api_Fd.cells (cpy v85 v86 (sub v85 0 v86))).length) rfl (.len (lenCp hb5649)) ?_
     refine .see 35 (u:=V.ref [30] 0 (rws api_Fd.cells (cpy v85 v86 (sub v85 0 v86))).length) rfl (.len (lenCp hb5649)) ?_
     refine .see 39 (u:=V.ref [30] 0 (rws api_Fd.cells (cpy v85 v86 (sub v85 0 v86))).length) rfl (.len (lenCp hb5649)) ?_
     refine .see 42 (u:=V.ref [30] 0 (rws api_Fd.cells (cpy v85 v86 (sub v85 0 v86))).length) rfl (.len (lenCp hb5649)) ?_
     exact .w0 h (.z 0 (.A 0 [0,8,9] (.Z (.n 0))))
   ·exact .w h (.o (.R 2))
theorem poll_New_sc (a91:Int) (r:(List api_Fd)×Int) (h:poll_New a91=some r):SC Tryz.prog gl 27 [I a91] (V.tup [V.own 3 (rws api_Fd.cells r.1),I r.2]) :=
 .w Tryz.func27 Tryz.call27 h (.N 5 3 9 6 (.i 0 (.R 2) (.b fun x92=>.g 0 (poll_shut_sc ) (.L 0 api_Fd.cells ([x92]) (.V 1 (slices_Repeat_api_Fd_api_Fd_sc [x92] a91) fun x93=>.R 2)))))
theorem idle_New_sc (a94:Int) (r:api_Idle×Int) (h:idle_New a94=some r):SC Tryz.prog gl 28 [I a94] (V.tup [V.agg [V.own 1 (rws (fun n=>[I n]) r.1.Is),V.own 1 (rws (fun n=>[I n]) r.1.Stack)],I r.2]) :=
 .w Tryz.func28 Tryz.call28 h (.N 5 3 9 6 (.i 0 (.R 3) (.k (.H 1 ((fun n=>[I n])) ((0:Int)) (.R 3)))))
theorem crew_Start_sc (a95:api_Config) (r:api_World×Int) (h:crew_Start a95=some r):SC Tryz.prog gl 9 [V.agg a95.cells] (V.tup [V.agg [I r.1.Now,V.own 1 (rws (fun n=>[V.int .u8 n]) r.1.Dice.L),I r.1.Dice.At,V.own 1 (rws (fun n=>[I n]) r.1.Ids.Gen),V.own 1 (rws (fun b=>[V.bool b]) r.1.Ids.Live),V.own 11 (rws api_Task.cells r.1.T),V.own 1 (rws (fun n=>[I n]) r.1.Mem),V.own 1 (rws (fun n=>[I n]) r.1.Lists.Next),V.own 1 (rws (fun n=>[I n]) r.1.Lists.Head),V.own 1 (rws (fun n=>[I n]) r.1.Lists.Tail),V.own 5 (rws api_Tenant.cells r.1.Ten),V.own 2 (rws api_Timer.cells r.1.Heap),V.own 3 (rws api_Fd.cells r.1.Fds),V.own 2 (rws api_Sem.cells r.1.Sems),V.own 2 (rws api_Join.cells r.1.Joins),V.own 1 (rws (fun n=>[I n]) r.1.Idle.Is),V.own 1 (rws (fun n=>[I n]) r.1.Idle.Stack),V.own 14 (rws api_Worker.cells r.1.W),V.bool r.1.Down,V.own 3 (rws api_Event.cells r.1.Seen)],I r.2]):=by
 rw [crew_Start] at h
 refine SC.go Tryz.func9 Tryz.call9 4 ?_
 refine bindG h ?_
 intro x111 he5712 h
 refine .cP (entry_Config_sc a95 _ he5712) ?_
 refine .go 3 ?_
 refine .ifC h (fun hc5713 h=>?_) (fun hc5713 h=>?_)
 ·exact .w h (.R 4)
 ·refine .go 0 ?_
  refine Safe.regionD (n:=11) [(10,[5])] [] E_good mixed rfl ?_
  refine rA 9 [0,1] ?_
  refine letG h ?_
  intro x112 he5715 h
  refine .cP (crew_fresh_sc (-1) _ he5715) 3 ?_
  refine DT 4 [[5]] rfl rfl (v:=V.sl 14 (rws api_Worker.cells [x112])) (fun _ hz=>(.litFM (f:=api_Worker.cells) (xs:=[x112]) rfl rfl (by decide) rfl rfl rfl (by repeat first|exact .nil|refine .cons (by repeat first|exact .nil|refine .same ?_|refine .nz ?_) ?_) rfl rfl)) ?_
  refine rA 5 [5,6] ?_
  refine okG h (fun hb5716 h=>?_)
  skip
  refine bindG h ?_
  intro x96 he5718 h
  skip
  skip
  refine DAny.makers [⟨2,_,17,V.ref [17] 0 (rws api_Task.cells (List.replicate (Int.toNat a95.Tasks) api_Task.zero)).length,[([17],Obj.rows 11 (rws api_Task.cells (List.replicate (Int.toNat a95.Tasks) api_Task.zero)) false)],[]⟩,⟨7,_,22,V.ref [22,0] 0 (rws api_Worker.cells x96).length,[([22,0],Obj.rows 14 (rws api_Worker.cells x96) false)],[]⟩,⟨8,_,23,V.agg [I 0,V.nils,I 0,V.nils,V.nils,V.ref [17] 0 (rws api_Task.cells (List.replicate (Int.toNat a95.Tasks) api_Task.zero)).length,V.nils,V.nils,V.nils,V.nils,V.nils,V.nils,V.nils,V.nils,V.nils,V.nils,V.nils,V.ref [22,0] 0 (rws api_Worker.cells x96).length,V.bool false,V.nils],[],[2,7]⟩,⟨9,_,5,V.ptr [5] 0 0,[([5],Obj.box [I 0,V.nils,I 0,V.nils,V.nils,V.nils,V.nils,V.nils,V.nils,V.nils,V.nils,V.nils,V.nils,V.nils,V.nils,V.nils,V.nils,V.nils,V.bool false,V.nils])],[]⟩] ⟨⟨rfl,rfl,rfl,rfl,(.makeMs (s:=11) (f:=api_Task.cells) (d:=api_Task.zero) rfl rfl rfl rfl hb5716 rfl rfl rfl rfl),rfl⟩,⟨rfl,rfl,rfl,rfl,(.callP rfl rfl (slices_Repeat_api_Worker_api_Worker_sc [x112] a95.Workers _ he5718) rfl),rfl⟩,⟨rfl,rfl,rfl,rfl,(.fn rfl),rfl⟩,⟨rfl,rfl,rfl,rfl,(.allocM rfl rfl rfl),rfl⟩,trivial⟩ (by kernel_rfl) (by kernel_rfl) ?_
  refine .sto 10 ?_
  refine DAny.nil (by kernel_rfl) ?_
  exact .w h (.b2 fun(x97:api_Places) x98=>.g 3 (slot_New_sc a95.Tasks) (.Q 5 (.b2 fun x99 x100=>.g 7 (cell_New_sc (IntKind.i64.wrap (a95.Workers*(IntKind.i64.wrap (a95.Cap+2))))) (.Q 5 (.e 5 (.b2 fun(x101:api_Chains) x102=>.g 0 (chain_New_sc a95.Tasks (a95.Weights.length:Int)) (.Q 5 (.b2 fun x103 x104=>.g 5 (lodge_New_sc a95.Weights a95.Quotas) (.Q 5 (.b2 fun x105 x106=>.g 3 (poll_New_sc a95.Fds) (.Q 5 (.b2 fun(x107:api_Idle) x108=>.g 3 (idle_New_sc a95.Workers) (.Q 5 (.e 3 (.m2 1 [([7000,114,5,13],2)] [2,5,6,82,83] [] [[2],[6],[17],[22,0],[27,0],[27,1],[39,0],[50,0],[50,1],[50,2],[60,0],[68,0],[76,0],[76,1]] (fun v109 v110 s=>((s.t 84 (I v109)).o [5] (Obj.box [I 0,V.nils,I 0,V.ref [27,0] 0 (rws (fun n=>[I n]) x97.Gen).length,V.ref [27,1] 0 (rws (fun b=>[V.bool b]) x97.Live).length,V.ref [17] 0 (rws api_Task.cells (List.replicate (Int.toNat a95.Tasks) api_Task.zero)).length,V.ref [39,0] 0 (rws (fun n=>[I n]) x99).length,V.ref [50,0] 0 (rws (fun n=>[I n]) x101.Next).length,V.ref [50,1] 0 (rws (fun n=>[I n]) x101.Head).length,V.ref [50,2] 0 (rws (fun n=>[I n]) x101.Tail).length,V.ref [60,0] 0 (rws api_Tenant.cells x103).length,V.nils,V.ref [68,0] 0 (rws api_Fd.cells x105).length,V.ref [7000,114,5,13] 0 (rws api_Sem.cells v110).length,V.nils,V.ref [76,0] 0 (rws (fun n=>[I n]) x107.Is).length,V.ref [76,1] 0 (rws (fun n=>[I n]) x107.Stack).length,V.ref [22,0] 0 (rws api_Worker.cells x96).length,V.bool false,V.nils])).o [7000,114,5,13] (Obj.rows 2 (rws api_Sem.cells v110) false)) fun v109 v110=>.i 1 (.q 0 (.L 5 api_Sem.cells ([(api_Sem.mk (gt a95.Sems v109) [])]) (.k (.ap 0 (.nr 4 [([93],[7000,114,5,13])]))))) (.o (.Q 2 (.i 0 (.R 3) (.R 3)))))))))))))))))))
theorem dice_Check_sc (a113:api_Dice) (r:Int) (h:dice_Check a113=r):SC Tryz.prog gl 113 [V.agg a113.cells] (I r) :=
 .w Tryz.func113 Tryz.call113 h (.O 6 7 13 6 (decide (a113.At > (a113.L.length:Int))) (.K 7 7) (.e 4 (.K 2 7)) (.i 0 (.r 1) (.r 1)))
theorem slot_Check_sc (a114:api_Places) (r:Int) (h:slot_Check a114=some r):SC Tryz.prog gl 114 [V.agg a114.cells] (I r) :=
 .w Tryz.func114 Tryz.call114 h (.e 4 (.O 2 5 15 10 (decide ((a114.Gen.length:Int) > 256)) (.K 5 5) (.e 2 (.K 2 5)) (.O 1 8 24 16 (((a114.Live.length:Int) != (a114.Gen.length:Int))) (.K 8 8) (.e 2 (.e 2 (.K 2 8))) (.i 0 (.r 1) (.e 2 (.l1 1 [1,26,27] [] [[1]] (fun v115 s=>s.t 28 (I v115)) fun v115=>.i 1 (.q 1 (.q 6 (.j1 0 0 0 [1,4,26,27,28] [] [[1]] (slot_Check_j4 a114 v115) (fun v116 s=>s.t 5 (I v116)) (fun v116=>.N 3 4 46 42 (.i 0 (.o (.r 1)) (.n 2))) fun HJ5857=>.i 0 (.j 3 HJ5857) (.j 0 HJ5857)))) (.o (.r 1))))))))
theorem chain_Check_sc (a117:api_Chains) (r:Int) (h:chain_Check a117=some r):SC Tryz.prog gl 115 [V.agg a117.cells] (I r):=by
 rw [chain_Check] at h
 refine SC.go Tryz.func115 Tryz.call115 4 ?_
 refine .len ?_
 refine .go 2 ?_
 refine SafeOps.bjoinL 5 21 16 rfl (b:=((decide ((a117.Next.length:Int) > 1024))||(decide ((a117.Head.length:Int) < 1)))) (b1:=true) (b0:=decide ((a117.Head.length:Int) < 1)) (fun hc6577 K=>?_) (fun hc6577 K=>?_) bj_or ?_
 ·refine rO 5 ?_
  exact SafeOps.drop' 5 rfl rfl rfl K
 ·exact .w h (.e 2 (.K 2 5))
 refine .go 1 ?_
 refine SafeOps.bjoinL 5 27 22 rfl (b:=(((decide ((a117.Next.length:Int) > 1024))||(decide ((a117.Head.length:Int) < 1)))||(decide ((a117.Head.length:Int) > 256)))) (b1:=true) (b0:=decide ((a117.Head.length:Int) > 256)) (fun hc6578 K=>?_) (fun hc6578 K=>?_) bj_or ?_
 ·refine rO 5 ?_
  exact SafeOps.drop' 5 rfl rfl rfl K
 ·exact .w h (.e 2 (.K 2 5))
 refine .go 1 ?_
 refine SafeOps.bjoinL 8 36 28 rfl (b:=((((decide ((a117.Next.length:Int) > 1024))||(decide ((a117.Head.length:Int) < 1)))||(decide ((a117.Head.length:Int) > 256)))||((a117.Tail.length:Int) != (a117.Head.length:Int)))) (b1:=true) (b0:=((a117.Tail.length:Int) != (a117.Head.length:Int))) (fun hc6579 K=>?_) (fun hc6579 K=>?_) bj_or ?_
 ·refine rO 8 ?_
  exact SafeOps.drop' 8 rfl rfl rfl K
 ·exact .w h (.e 2 (.e 2 (.K 2 8)))
 refine .go 0 ?_
 refine .ifC h (fun hc6580 h=>?_) (fun hc6580 h=>?_)
 ·refine .go 1 ?_
  cases h
  exact retF
 ·refine .go 2 ?_
  refine .len ?_
  refine okG h (fun hb6581 h=>?_)
  refine SafeOps.quiet1 E_good rfl rfl rfl (.makeM (f:=(fun b=>[V.bool b])) (d:=false) rfl rfl rfl rfl hb6581 rfl rfl rfl) rfl ?_
  refine .go 4 ?_
  refine .len ?_
  refine .go 1 ?_
  refine Safe.loopS (fun((v118,v128):Int×(List Bool))=>⟨Tryz.f115.ntmps,[(1,V.ptr [1] 0 0),(2,V.ptr [2] 0 0),(3,V.ptr [3] 0 0),(42,V.sl 1 (rws (fun n=>[I n]) a117.Head)),(43,I (a117.Head.length:Int)),(44,I v118)],[([1],Obj.box a117.cells),([2],Obj.box [I 0]),([3],Obj.box [V.ref [40] 0 (rws (fun b=>[V.bool b]) v128).length]),([40],Obj.rows 1 (rws (fun b=>[V.bool b]) v128) false)],[],[]⟩) h covA ?_
  rintro ⟨v118,v128⟩ ohr7136 h hr7136
  rw [chain_Check_s17] at h
  refine .go 1 ?_
  refine .ifC h (fun hc7137 h=>?_) (fun hc7137 h=>?_)
  ·refine .go 1 ?_
   refine okG h (fun hb7138 h=>?_)
   refine .ix hb7138 ?_
   refine .ld hb7138 ?_
   refine .go 9 ?_
   refine .inl Tryz.func185 Tryz.call185 6 ?_
   refine .joinB 2 (fun((v119,v120,v121):(List Bool)×Int×Int)=>chain_Check_j19 a117 v118 v119 v120 v121=some ohr7136) (fun((v119,v120,v121):(List Bool)×Int×Int)=>⟨Tryz.f115.ntmps,[(1,V.ptr [1] 0 0),(2,V.ptr [2] 0 0),(3,V.ptr [3] 0 0),(4,I v118),(6,V.ptr [6] 0 0),(7,V.ptr [7] 0 0),(42,V.sl 1 (rws (fun n=>[I n]) a117.Head)),(43,I (a117.Head.length:Int)),(44,I v118)],[([1],Obj.box a117.cells),([2],Obj.box [I 0]),([3],Obj.box [V.ref [40] 0 (rws (fun b=>[V.bool b]) v119).length]),([6],Obj.box [I v120]),([7],Obj.box [I v121]),([40],Obj.rows 1 (rws (fun b=>[V.bool b]) v119) false)],[],[]⟩) ?_ (fun HJ7192=>?_)
   ·rintro ⟨v119,v120,v121⟩ h
    dsimp only at h
    rw [chain_Check_j19] at h
    exact .w h (.D 0 11 [] [] (.A 8 (up 0 3) (.S 70 (.A 0 (up 3 8) (.Z (.o (.r 2)))) (.A 5 (up 3 3) (.k (.X 6 [] (.Y 7 [] (.A 0 (up 8 3) (.Z (.i 0 (.o (.r 1)) (.n 2)))))))))))
   ·refine .go 0 ?_
    refine Safe.rangeFunc (k:=9053) rfl rfl Tryz.func237 rfl (fun _ _=>Tryz.call237 _ _) rfl rfl rfl ?_
    refine .go0 0 ?_
    refine Safe.regionD (n:=7) [] [] E_good mixed rfl ?_
    refine rA 4 (up 0 3) ?_
    refine okG h (fun hb7196 h=>?_)
    refine DT 3 [] rfl rfl (v:=V.spt 1 (rws (fun n=>[I n]) a117.Head) (Int.toNat v118) 0) (fun _ hz=>(.idxSlM (f:=(fun n=>[I n])) rfl rfl rfl rfl rfl hb7196)) ?_
    refine DT 4 [] rfl rfl (v:=I (gt a117.Head v118)) (fun _ hz=>(.load rfl rfl (.sptM (f:=(fun n=>[I n])) hb7196 rfl) rfl)) ?_
    refine rA 0 [5,6] ?_
    refine DAny.nil (by kernel_rfl) ?_
    refine .go 2 ?_
    refine .len ?_
    refine .go 2 ?_
    refine Safe.loopS (fun((v122,v123,v124,v125,v126,v127):Int×Int×Int×(List Bool)×Int×Int)=>⟨Tryz.f237.ntmps,[(0,V.yld [9053]),(1,V.ptr [52,2] 0 0),(4,I v122),(5,I v123),(14,I (IntKind.i64.wrap ((a117.Next.length:Int)+1))),(15,I v124)],[([1],Obj.box a117.cells),([2],Obj.box [I 0]),([3],Obj.box [V.ref [40] 0 (rws (fun b=>[V.bool b]) v125).length]),([6],Obj.box [I v126]),([7],Obj.box [I v127]),([40],Obj.rows 1 (rws (fun b=>[V.bool b]) v125) false),([52,2],Obj.box a117.cells),([9053],Go.AM.Obj.loop Tryz.f115.ntmps [(1,V.ptr [1] 0 0),(2,V.ptr [2] 0 0),(3,V.ptr [3] 0 0),(6,V.ptr [6] 0 0),(7,V.ptr [7] 0 0)] [53,54] (rfA Tryz.f115 0) (rfB Tryz.f115 0) .ready none)],[(1,[(0,V.yld [9053])]),(Tryz.f115.ntmps,[(1,V.ptr [1] 0 0),(2,V.ptr [2] 0 0),(3,V.ptr [3] 0 0),(4,I v118),(6,V.ptr [6] 0 0),(7,V.ptr [7] 0 0),(42,V.sl 1 (rws (fun n=>[I n]) a117.Head)),(43,I (a117.Head.length:Int)),(44,I v118)])],[9053,0]⟩) h (.cov ⟨rfl,rfl,(ut (ut (ut (ut (ut (ut upT_nil)))))),(uo (uo (uo (uo (uo (uo (uo (upOb_cons rfl (by exact .loop (ut (ut (ut (ut (ut upT_nil)))))) upOb_nil)))))))),(upOut_cons rfl (ut upT_nil) (upOut_cons rfl (ut (ut (ut (ut (ut (ut (ut (ut (ut upT_nil))))))))) upOut_nil)),rfl⟩) ?_
    rintro ⟨v122,v123,v124,v125,v126,v127⟩ ohr7233 h hr7233
    rw [chain_Check_s20] at h
    refine .go 1 ?_
    refine .ifC h (fun hc7234 h=>?_) (fun hc7234 h=>?_)
    ·refine .go 3 ?_
     refine SafeOps.bjoinL 6 25 19 rfl (b:=((decide (v123 < 0))||(decide (v123≥(a117.Next.length:Int))))) (b1:=true) (b0:=decide (v123≥(a117.Next.length:Int))) (fun hc7235 K=>?_) (fun hc7235 K=>?_) bj_or ?_
     ·refine rO 6 ?_
      exact SafeOps.drop' 6 rfl rfl rfl K
     ·exact .w h (.e 3 (.K 2 6))
     refine .go 1 ?_
     refine SafeOps.ifD 26 h rfl (fun hc7236 h=>?_) (fun hc7236 h=>?_)
     ·refine .go 7 ?_
      refine rfQ.n (.inr rfl) rfl rfl (fun hbusy=>by cases hbusy) ?_
      replace h:=inr_out h hr7233
      refine .go 0 ?_
      exact .got (HJ7192 (v125,v126,v127) h) covA
     ·refine .go 3 ?_
      refine SafeOps.yield rfl rfl rfl rfl rfl rfl rfl rfl ?_
      refine .go0 1 ?_
      refine asgQ.go rfl rfl ?_
      refine .go0 2 ?_
      refine okG h (fun hb7241 h=>?_)
      refine Q0 E_good rfl (v:=V.ptr [40] (0+Int.toNat v123) 0) (.idxRefM (f:=(fun b=>[V.bool b])) (xs:=v125) rfl rfl rfl rfl rfl rfl hb7241) ?_
      refine Q0 E_good rfl (v:=V.bool (gt v125 v123)) (.load rfl rfl (.rowsM (f:=(fun b=>[V.bool b])) (xs:=v125) hb7241 rfl rfl) rfl) ?_
      refine .go 0 ?_
      refine .ifC h (fun hc7242 h=>?_) (fun hc7242 h=>?_)
      ·refine .go 1 ?_
       refine roundQ.go rfl rfl rfl rfl rfl ?_
       refine .go 3 ?_
       refine rfQ.j (.inr rfl) rfl rfl (fun hbusy=>by cases hbusy) ?_
       replace h:=inr_out h hr7233
       exact .w h (.o (.r 0))
      ·refine .go 2 ?_
       refine okG h (fun hb7243 h=>?_)
       refine Q0 E_good rfl (v:=V.ptr [40] (0+Int.toNat v123) 0) (.idxRefM (f:=(fun b=>[V.bool b])) (xs:=v125) rfl rfl rfl rfl rfl rfl hb7243) ?_
       refine SafeOps.store (z:=Obj.rows 1 (rws (fun b=>[V.bool b]) (st v125 v123 true)) false) E_good rfl rfl rfl rfl rfl rfl rfl (.rowsM (f:=(fun b=>[V.bool b])) (xs:=v125) (y:=true) hb7243 rfl rfl rfl rfl) ?_
       refine .see 55 (u:=V.ref [40] 0 (rws (fun b=>[V.bool b]) (st v125 v123 true)).length) rfl (.len (by simp [rws,st])) ?_
       refine .see 59 (u:=V.ref [40] 0 (rws (fun b=>[V.bool b]) (st v125 v123 true)).length) rfl (.len (by simp [rws,st])) ?_
       refine .seeB [3] [V.ref [40] 0 (rws (fun b=>[V.bool b]) (st v125 v123 true)).length] rfl (.cons (.len (by simp [rws,st])) .nil) ?_
       refine .go 0 ?_
       refine Safe.regionD (n:=8) [(6,[6]),(7,[7])] [] E_good mixed rfl ?_
       refine rA 4 (up 0 4) ?_
       refine okG h (fun hb7244 h=>?_)
       refine DT 4 [[6],[7]] rfl rfl (v:=V.spt 1 (rws (fun n=>[I n]) a117.Next) (Int.toNat v123) 0) (fun _ hz=>(.idxSlM (f:=(fun n=>[I n])) rfl rfl rfl rfl rfl hb7244)) ?_
       refine DT 5 [[6],[7]] rfl rfl (v:=I (gt a117.Next v123)) (fun _ hz=>(.load rfl rfl (.sptM (f:=(fun n=>[I n])) hb7244 rfl) rfl)) ?_
       refine .sto 6 ?_
       refine .sto 7 ?_
       refine DAny.nil (by kernel_rfl) ?_
       refine .go 0 ?_
       refine roundQ.go rfl rfl rfl rfl rfl ?_
       refine .go 3 ?_
       refine Safe.regionD (n:=8) [] [] E_good mixed rfl ?_
       refine rA 4 (up 0 4) ?_
       refine okG h (fun hb7245 h=>?_)
       refine DT 4 [] rfl rfl (v:=V.spt 1 (rws (fun n=>[I n]) a117.Next) (Int.toNat v123) 0) (fun _ hz=>(.idxSlM (f:=(fun n=>[I n])) rfl rfl rfl rfl rfl hb7245)) ?_
       refine DT 5 [] rfl rfl (v:=I (gt a117.Next v123)) (fun _ hz=>(.load rfl rfl (.sptM (f:=(fun n=>[I n])) hb7245 rfl) rfl)) ?_
       refine rA 0 [6,7] ?_
       refine DAny.nil (by kernel_rfl) ?_
       refine .go 2 ?_
       exact lpK ⟨_,next_out h,(.cov ⟨rfl,rfl,(ut (ut (ut (ut (ut (ut upT_nil)))))),(uo (uo (uo (uo (uo (uo (uo (upOb_cons rfl (by exact .loop (ut (ut (ut (ut (ut upT_nil)))))) upOb_nil)))))))),(upOut_cons rfl (ut upT_nil) (upOut_cons rfl (ut (ut (ut (ut (ut (ut (ut (ut (ut upT_nil))))))))) upOut_nil)),rfl⟩)⟩
    ·refine .go 0 ?_
     replace h:=inr_out h hr7233
     refine .go 0 ?_
     refine rfQ.n (.inl rfl) rfl rfl (fun hbusy=>by cases hbusy) ?_
     refine .go 0 ?_
     exact .got (HJ7192 (v125,v126,v127) h) covA
  ·exact .w h (.o (.e 1 (.l1 1 [1,2,80,81] [] [[1],[2],[40]] (fun v129 s=>s.t 82 (I v129)) fun v129=>.i 1 (.k (.Q 1 (.Q 0 (.s 5 89 (.q 3 (.i 2 (.o (.r 1)) (.n 2))) (.n 10))))) (.o (.r 1)))))
theorem heap_may_sc (a130:api_Timer) (r:Bool) (h:heap_may a130=r):SC Tryz.prog gl 186 [V.agg a130.cells] (V.bool r) :=
 .w Tryz.func186 Tryz.call186 h (.M 6 4 10 6 (.M 1 4 15 11 (.r 1)))
end Go.Proofs.YtmlcinmdkhmjhaaGreat
