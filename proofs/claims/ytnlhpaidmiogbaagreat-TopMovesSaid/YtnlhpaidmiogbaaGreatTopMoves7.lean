/- Joined texts. What each part proves stands ahead of it; no condition. -/
import Derived.Test.YtnlhpaidmiogbaaGreatLrM6
import Derived.Test.YtnlhpaidmiogbaaGreatLrM4

/- Summaries of what the laws of an aided filter reach: samples, the heading, jumps. -/
namespace Go.Proofs.YtnlhpaidmiogbaaGreat
open Go.Lr
set_option linter.unusedVariables false
noncomputable def AS0:FuncId→Option SumK:=more GX2 122 (autoP Tryz.prog GX2 Zl 9000 122)
theorem soundAS0:Sound Tryz.prog AS0:=soundGX2.more (autoP_ok soundGX2 (own_of soundGX2 Tryz.func122 (by kernel_rfl)))
noncomputable def AS1:FuncId→Option SumK:=more AS0 123 (autoP Tryz.prog AS0 Zl 9000 123)
theorem soundAS1:Sound Tryz.prog AS1:=soundAS0.more (autoP_ok soundAS0 (own_of soundAS0 Tryz.func123 (by kernel_rfl)))
noncomputable def AS2:FuncId→Option SumK:=more AS1 186 (autoP Tryz.prog AS1 Zl 9000 186)
theorem soundAS2:Sound Tryz.prog AS2:=soundAS1.more (autoP_ok soundAS1 (own_of soundAS1 Tryz.func186 (by kernel_rfl)))
noncomputable def AS3:FuncId→Option SumK:=more AS2 125 (autoP Tryz.prog AS2 Zl 9000 125)
theorem soundAS3:Sound Tryz.prog AS3:=soundAS2.more (autoP_ok soundAS2 (own_of soundAS2 Tryz.func125 (by kernel_rfl)))
noncomputable def AS4:FuncId→Option SumK:=moreG AS3 79 (autoA Tryz.prog AS3 ⟨false,false,false⟩ 20000 79)
theorem soundAS4:Sound Tryz.prog AS4:=soundAS3.moreG (autoA_ok soundAS3 (own_of soundAS3 Tryz.func79 (by kernel_rfl)))
noncomputable def AS5:FuncId→Option SumK:=moreG AS4 80 (autoA Tryz.prog AS4 ⟨false,false,false⟩ 20000 80)
theorem soundAS5:Sound Tryz.prog AS5:=soundAS4.moreG (autoA_ok soundAS4 (own_of soundAS4 Tryz.func80 (by kernel_rfl)))
noncomputable def AS6:FuncId→Option SumK:=moreG AS5 36 (orGen (narG 0 61 (autoA Tryz.prog AS5 Zl 20000 36)) (autoA Tryz.prog AS5 Zl 20000 36))
theorem soundAS6:Sound Tryz.prog AS6:=soundAS5.moreG (orGen_ok (narG_ok (autoA_ok soundAS5 (own_of soundAS5 Tryz.func36 (by kernel_rfl)))) (autoA_ok soundAS5 (own_of soundAS5 Tryz.func36 (by kernel_rfl))))
noncomputable def AS7:FuncId→Option SumK:=moreG AS6 206 (autoA Tryz.prog AS6 ⟨false,false,false⟩ 20000 206)
theorem soundAS7:Sound Tryz.prog AS7:=soundAS6.moreG (autoA_ok soundAS6 (own_of soundAS6 Tryz.func206 (by kernel_rfl)))
noncomputable def AS8:FuncId→Option SumK:=moreG AS7 236 (orGen (narG 0 61 (autoA Tryz.prog AS7 Zl 20000 236)) (autoA Tryz.prog AS7 Zl 20000 236))
theorem soundAS8:Sound Tryz.prog AS8:=soundAS7.moreG (orGen_ok (narG_ok (autoA_ok soundAS7 (own_of soundAS7 Tryz.func236 (by kernel_rfl)))) (autoA_ok soundAS7 (own_of soundAS7 Tryz.func236 (by kernel_rfl))))
noncomputable def AS9:FuncId→Option SumK:=moreG AS8 205 (orGen (narG 0 61 (autoA Tryz.prog AS8 Zl 20000 205)) (autoA Tryz.prog AS8 Zl 20000 205))
theorem soundAS9:Sound Tryz.prog AS9:=soundAS8.moreG (orGen_ok (narG_ok (autoA_ok soundAS8 (own_of soundAS8 Tryz.func205 (by kernel_rfl)))) (autoA_ok soundAS8 (own_of soundAS8 Tryz.func205 (by kernel_rfl))))
noncomputable def AS10:FuncId→Option SumK:=moreG AS9 70 (orGen (narG 0 61 (autoA Tryz.prog AS9 Zl 20000 70)) (autoA Tryz.prog AS9 Zl 20000 70))
theorem soundAS10:Sound Tryz.prog AS10:=soundAS9.moreG (orGen_ok (narG_ok (autoA_ok soundAS9 (own_of soundAS9 Tryz.func70 (by kernel_rfl)))) (autoA_ok soundAS9 (own_of soundAS9 Tryz.func70 (by kernel_rfl))))
noncomputable def AS11:FuncId→Option SumK:=moreG AS10 207 (orGen (narG 0 61 (autoA Tryz.prog AS10 Zl 20000 207)) (autoA Tryz.prog AS10 Zl 20000 207))
theorem soundAS11:Sound Tryz.prog AS11:=soundAS10.moreG (orGen_ok (narG_ok (autoA_ok soundAS10 (own_of soundAS10 Tryz.func207 (by kernel_rfl)))) (autoA_ok soundAS10 (own_of soundAS10 Tryz.func207 (by kernel_rfl))))
noncomputable def AS12:FuncId→Option SumK:=moreG AS11 249 (orGen (narG 0 61 (autoA Tryz.prog AS11 Zl 20000 249)) (autoA Tryz.prog AS11 Zl 20000 249))
theorem soundAS12:Sound Tryz.prog AS12:=soundAS11.moreG (orGen_ok (narG_ok (autoA_ok soundAS11 (own_of soundAS11 Tryz.func249 (by kernel_rfl)))) (autoA_ok soundAS11 (own_of soundAS11 Tryz.func249 (by kernel_rfl))))
noncomputable def AS13:FuncId→Option SumK:=moreG AS12 237 (orGen (narG 0 61 (autoA Tryz.prog AS12 Zl 20000 237)) (autoA Tryz.prog AS12 Zl 20000 237))
theorem soundAS13:Sound Tryz.prog AS13:=soundAS12.moreG (orGen_ok (narG_ok (autoA_ok soundAS12 (own_of soundAS12 Tryz.func237 (by kernel_rfl)))) (autoA_ok soundAS12 (own_of soundAS12 Tryz.func237 (by kernel_rfl))))
noncomputable def AS14:FuncId→Option SumK:=moreG AS13 238 (orGen (narG 0 61 (autoA Tryz.prog AS13 Zl 20000 238)) (autoA Tryz.prog AS13 Zl 20000 238))
theorem soundAS14:Sound Tryz.prog AS14:=soundAS13.moreG (orGen_ok (narG_ok (autoA_ok soundAS13 (own_of soundAS13 Tryz.func238 (by kernel_rfl)))) (autoA_ok soundAS13 (own_of soundAS13 Tryz.func238 (by kernel_rfl))))
noncomputable def AS15:FuncId→Option SumK:=moreG AS14 239 (orGen (narG 0 61 (autoA Tryz.prog AS14 Zl 20000 239)) (autoA Tryz.prog AS14 Zl 20000 239))
theorem soundAS15:Sound Tryz.prog AS15:=soundAS14.moreG (orGen_ok (narG_ok (autoA_ok soundAS14 (own_of soundAS14 Tryz.func239 (by kernel_rfl)))) (autoA_ok soundAS14 (own_of soundAS14 Tryz.func239 (by kernel_rfl))))
noncomputable def AS16:FuncId→Option SumK:=moreG AS15 23 (orGen (narG 1 61 (autoAD Tryz.prog AS15 ⟨false,false,false⟩ 20000 23 (tt 16 (nn 5 (ff 2 []))))) (autoAD Tryz.prog AS15 ⟨false,false,false⟩ 20000 23 (tt 16 (nn 5 (ff 2 [])))))
theorem soundAS16:Sound Tryz.prog AS16:=soundAS15.moreG (orGen_ok (narG_ok (autoAD_ok soundAS15 (own_of soundAS15 Tryz.func23 (by kernel_rfl)))) (autoAD_ok soundAS15 (own_of soundAS15 Tryz.func23 (by kernel_rfl))))
noncomputable def AS17:FuncId→Option SumK:=moreG AS16 243 (autoA Tryz.prog AS16 ⟨false,false,false⟩ 20000 243)
theorem soundAS17:Sound Tryz.prog AS17:=soundAS16.moreG (autoA_ok soundAS16 (own_of soundAS16 Tryz.func243 (by kernel_rfl)))
noncomputable def AS18:FuncId→Option SumK:=more AS17 217 (autoP Tryz.prog AS17 Zl 9000 217)
theorem soundAS18:Sound Tryz.prog AS18:=soundAS17.more (autoP_ok soundAS17 (own_of soundAS17 Tryz.func217 (by kernel_rfl)))
noncomputable def AS19:FuncId→Option SumK:=moreG AS18 68 (orGen (narG 0 61 (autoA Tryz.prog AS18 Zl 20000 68)) (autoA Tryz.prog AS18 Zl 20000 68))
theorem soundAS19:Sound Tryz.prog AS19:=soundAS18.moreG (orGen_ok (narG_ok (autoA_ok soundAS18 (own_of soundAS18 Tryz.func68 (by kernel_rfl)))) (autoA_ok soundAS18 (own_of soundAS18 Tryz.func68 (by kernel_rfl))))
noncomputable def AS20:FuncId→Option SumK:=moreG AS19 69 (orGen (narG 0 61 (autoA Tryz.prog AS19 Zl 20000 69)) (autoA Tryz.prog AS19 Zl 20000 69))
theorem soundAS20:Sound Tryz.prog AS20:=soundAS19.moreG (orGen_ok (narG_ok (autoA_ok soundAS19 (own_of soundAS19 Tryz.func69 (by kernel_rfl)))) (autoA_ok soundAS19 (own_of soundAS19 Tryz.func69 (by kernel_rfl))))
noncomputable def AS21:FuncId→Option SumK:=moreG AS20 67 (orGen (narG 0 61 (autoAD Tryz.prog AS20 Zl 20000 67 (nn 1 (ff 4 (nn 1 (ff 4 (nn 17 (tt 16 (nn 9 []))))))))) (autoAD Tryz.prog AS20 Zl 20000 67 (nn 1 (ff 4 (nn 1 (ff 4 (nn 17 (tt 16 (nn 9 [])))))))))
theorem soundAS21:Sound Tryz.prog AS21:=soundAS20.moreG (orGen_ok (narG_ok (autoAD_ok soundAS20 (own_of soundAS20 Tryz.func67 (by kernel_rfl)))) (autoAD_ok soundAS20 (own_of soundAS20 Tryz.func67 (by kernel_rfl))))
noncomputable def AS22:FuncId→Option SumK:=moreG AS21 165 (orGen (narG 0 61 (autoA Tryz.prog AS21 Zl 20000 165)) (autoA Tryz.prog AS21 Zl 20000 165))
theorem soundAS22:Sound Tryz.prog AS22:=soundAS21.moreG (orGen_ok (narG_ok (autoA_ok soundAS21 (own_of soundAS21 Tryz.func165 (by kernel_rfl)))) (autoA_ok soundAS21 (own_of soundAS21 Tryz.func165 (by kernel_rfl))))
noncomputable def AS23:FuncId→Option SumK:=moreG AS22 166 (orGen (narG 0 61 (autoA Tryz.prog AS22 Zl 20000 166)) (autoA Tryz.prog AS22 Zl 20000 166))
theorem soundAS23:Sound Tryz.prog AS23:=soundAS22.moreG (orGen_ok (narG_ok (autoA_ok soundAS22 (own_of soundAS22 Tryz.func166 (by kernel_rfl)))) (autoA_ok soundAS22 (own_of soundAS22 Tryz.func166 (by kernel_rfl))))
noncomputable def AS24:FuncId→Option SumK:=moreG AS23 164 (autoA Tryz.prog AS23 ⟨false,false,false⟩ 20000 164)
theorem soundAS24:Sound Tryz.prog AS24:=soundAS23.moreG (autoA_ok soundAS23 (own_of soundAS23 Tryz.func164 (by kernel_rfl)))
noncomputable def AS25:FuncId→Option SumK:=moreG AS24 176 (autoA Tryz.prog AS24 ⟨false,false,false⟩ 20000 176)
theorem soundAS25:Sound Tryz.prog AS25:=soundAS24.moreG (autoA_ok soundAS24 (own_of soundAS24 Tryz.func176 (by kernel_rfl)))
noncomputable def AS26:FuncId→Option SumK:=moreG AS25 106 (orGen (narG 1 61 (autoA Tryz.prog AS25 ⟨false,false,false⟩ 20000 106)) (autoA Tryz.prog AS25 ⟨false,false,false⟩ 20000 106))
theorem soundAS26:Sound Tryz.prog AS26:=soundAS25.moreG (orGen_ok (narG_ok (autoA_ok soundAS25 (own_of soundAS25 Tryz.func106 (by kernel_rfl)))) (autoA_ok soundAS25 (own_of soundAS25 Tryz.func106 (by kernel_rfl))))
noncomputable def AS27:FuncId→Option SumK:=moreG AS26 107 (orGen (narG 0 61 (autoA Tryz.prog AS26 Zl 20000 107)) (autoA Tryz.prog AS26 Zl 20000 107))
theorem soundAS27:Sound Tryz.prog AS27:=soundAS26.moreG (orGen_ok (narG_ok (autoA_ok soundAS26 (own_of soundAS26 Tryz.func107 (by kernel_rfl)))) (autoA_ok soundAS26 (own_of soundAS26 Tryz.func107 (by kernel_rfl))))
noncomputable def AS28:FuncId→Option SumK:=moreG AS27 73 (autoA Tryz.prog AS27 ⟨false,false,false⟩ 20000 73)
theorem soundAS28:Sound Tryz.prog AS28:=soundAS27.moreG (autoA_ok soundAS27 (own_of soundAS27 Tryz.func73 (by kernel_rfl)))
noncomputable def AS29:FuncId→Option SumK:=moreG AS28 75 (autoA Tryz.prog AS28 ⟨false,false,false⟩ 20000 75)
theorem soundAS29:Sound Tryz.prog AS29:=soundAS28.moreG (autoA_ok soundAS28 (own_of soundAS28 Tryz.func75 (by kernel_rfl)))
noncomputable def AS30:FuncId→Option SumK:=moreG AS29 33 (autoA Tryz.prog AS29 ⟨false,false,false⟩ 20000 33)
theorem soundAS30:Sound Tryz.prog AS30:=soundAS29.moreG (autoA_ok soundAS29 (own_of soundAS29 Tryz.func33 (by kernel_rfl)))
noncomputable def AS31:FuncId→Option SumK:=moreG AS30 11 (autoA Tryz.prog AS30 ⟨false,false,false⟩ 20000 11)
theorem soundAS31:Sound Tryz.prog AS31:=soundAS30.moreG (autoA_ok soundAS30 (own_of soundAS30 Tryz.func11 (by kernel_rfl)))
noncomputable def AF:FuncId→Option SumK:=moreG AS31 20 (autoAD Tryz.prog AS31 ⟨false,false,false⟩ 20000 20 [])
theorem soundAF:Sound Tryz.prog AF:=soundAS31.moreG (autoAD_ok soundAS31 (own_of soundAS31 Tryz.func20 (by kernel_rfl)))
end Go.Proofs.YtnlhpaidmiogbaaGreat

/- TopMoves: the plain part; within. -/
namespace Go.Proofs.YtnlhpaidmiogbaaGreat
open Go.Lr
set_option linter.unusedVariables false
theorem aob_nil:AllOb []:=fun q h=>by cases h
theorem aob_cons {q:Ob} {l:List Ob} (h:q.ok) (k:AllOb l):AllOb (q::l):=fun x hx=>by
 rcases List.mem_cons.1 hx with rfl | hx
 ·exact h
 ·exact k x hx
def stC (i:Nat) (l:List LV):Int:=match stepG l with
 | some (.v (.agg c))=>intAt c i
 | _=>0
def acL (v0 v1 v2 p0 p1 p2 T x:Int):List LV:=[.v (.agg [.int .i64 1073741824,.int .i64 0,.int .i64 0,.int .i64 77,.int .i64 v0,.int .i64 v1,.int .i64 v2,.int .i64 p0,.int .i64 p1,.int .i64 p2,.int .i64 0,.int .i64 0,.int .i64 0,.int .i64 0,.int .i64 0,.int .i64 0,.int .i64 267414331,.int .i64 (-23395723),.int .i64 322122547,.int .i64 0,.int .i64 0,.int .i64 0,.int .i64 0,.int .i64 0]),.v (.agg [.int .i64 T,.int .i64 8000,.int .i64 0,.int .i64 0,.int .i64 0,.int .i64 (fI2 0 x),.int .i64 0,.int .i64 (-84238486)])]
def acE (v d g:Int):Int:=clampV (fI3 (clampV v (-549755813888) 549755813888) d g) (-549755813888) 549755813888
theorem ac4 (v0 v1 v2 p0 p1 p2 T x:Int):stC 4 (acL v0 v1 v2 p0 p1 p2 T x)=acE v0 (dotV 30 [1073741824,-154,0] [subV (fI2 0 x) 0,0,-84238486]) 0:=by kernel_rfl
theorem ac5 (v0 v1 v2 p0 p1 p2 T x:Int):stC 5 (acL v0 v1 v2 p0 p1 p2 T x)=acE v1 (dotV 30 [154,1073741824,0] [subV (fI2 0 x) 0,0,-84238486]) 0:=by kernel_rfl
theorem ac6 (v0 v1 v2 p0 p1 p2 T x:Int):stC 6 (acL v0 v1 v2 p0 p1 p2 T x)=acE v2 (dotV 30 [0,0,1073741824] [subV (fI2 0 x) 0,0,-84238486]) 84238486:=by kernel_rfl
def acU (x:Int):Int:=rndV (154*x) 30
theorem ac_f2 {x:Int} (h0: -1152921504606846976≤x) (h1:x≤1152921504606846976):fI2 0 x=x:=by
 show satV (satV 0+(satV x+0))=x
 rw [sat_in (a:=0) (by omega) (by omega),sat_in h0 h1,Int.add_zero,Int.zero_add,sat_in h0 h1]
theorem ac_sub {x:Int} (h0: -1152921504606846976≤x) (h1:x≤1152921504606846976):subV x 0=x:=by
 unfold subV
 rw [sat_in (a:=0) (by omega) (by omega),sat_in h0 h1,Int.sub_zero,sat_in h0 h1]
theorem ac_dot (a b c x y z:Int):dotV 30 [a,b,c] [x,y,z]=rndS (satV a*satV x+(satV b*satV y+(satV c*satV z+0))) 30:=rfl
theorem ac_rnd {w:Int} (h: -1000000000000000000≤rndV w 30) (k:rndV w 30≤1000000000000000000):rndS w 30=rndV w 30:=by
 unfold rndS
 rw [if_neg (by decide),if_neg (by decide)]
 exact sat_in (by show _≤rndV w 30;omega) (by show rndV w 30≤_;omega)
theorem ac_rb (w:Int): -1073741824≤2*(rndV w 30*1073741824 - w)∧2*(rndV w 30*1073741824 - w)≤1073741824:=rnd_bd w 30
theorem ac_d4 {x:Int} (h0: -134217728≤x) (h1:x≤134217728):dotV 30 [1073741824,-154,0] [subV (fI2 0 x) 0,0,-84238486]=x:=by
 rw [ac_f2 (by omega) (by omega),ac_sub (by omega) (by omega),ac_dot,sat_in (a:=x) (by omega) (by omega),sat_in (a:=1073741824) (by omega) (by omega),sat_in (a:= -154) (by omega) (by omega),sat_in (a:=0) (by omega) (by omega),sat_in (a:= -84238486) (by omega) (by omega)]
 have b:=ac_rb (1073741824*x+(-154*0+(0 * -84238486+0)))
 rw [ac_rnd (by omega) (by omega)]
 omega
theorem ac_u {x:Int} (h0: -67108864≤x) (h1:x≤67108864): -16≤acU x∧acU x≤16:=by
 have b:=ac_rb (154*x)
 unfold acU
 omega
theorem ac_d5 {x:Int} (h0: -67108864≤x) (h1:x≤67108864):dotV 30 [154,1073741824,0] [subV (fI2 0 x) 0,0,-84238486]=acU x:=by
 rw [ac_f2 (by omega) (by omega),ac_sub (by omega) (by omega),ac_dot,sat_in (a:=x) (by omega) (by omega),sat_in (a:=1073741824) (by omega) (by omega),sat_in (a:=154) (by omega) (by omega),sat_in (a:=0) (by omega) (by omega),sat_in (a:= -84238486) (by omega) (by omega)]
 have e:154*x+(1073741824*0+(0 * -84238486+0))=154*x:=by omega
 rw [e]
 have b:=ac_u h0 h1
 unfold acU at *
 rw [ac_rnd (by omega) (by omega)]
theorem ac_d6 {x:Int} (h0: -134217728≤x) (h1:x≤134217728):dotV 30 [0,0,1073741824] [subV (fI2 0 x) 0,0,-84238486] = -84238486:=by
 rw [ac_f2 (by omega) (by omega),ac_sub (by omega) (by omega),ac_dot,sat_in (a:=x) (by omega) (by omega),sat_in (a:=1073741824) (by omega) (by omega),sat_in (a:=0) (by omega) (by omega),sat_in (a:= -84238486) (by omega) (by omega)]
 have b:=ac_rb (0*x+(0*0+(1073741824 * -84238486+0)))
 rw [ac_rnd (by omega) (by omega)]
 omega
theorem ac_cl {v:Int} (h0: -549755813888≤v) (h1:v≤549755813888):clampV v (-549755813888) 549755813888=v:=by
 unfold clampV
 rw [if_neg (by omega),if_neg (by omega),if_neg (by omega)]
theorem ac_e {v d g:Int} (h0: -274877906944≤v) (h1:v≤274877906944) (h2: -134217728≤d) (h3:d≤134217728) (h4: -134217728≤g) (h5:g≤134217728):acE v d g=v+d+g:=by
 unfold acE
 rw [ac_cl (v:=v) (by omega) (by omega)]
 have e:fI3 v d g=v+d+g:=by
  show satV (satV v+(satV d+(satV g+0)))=_
  rw [sat_in (a:=v) (by omega) (by omega),sat_in (a:=d) (by omega) (by omega),sat_in (a:=g) (by omega) (by omega),sat_in (by omega) (by omega)]
  omega
 rw [e,ac_cl (by omega) (by omega)]
structure AcH (x:Int):Prop where
 lo: -67108864≤x
 hi:x≤67108864
theorem AcH.v4 {x:Int} (h:AcH x) {v:Int} (v1 v2 p0 p1 p2 T:Int) {r:Int} (h0: -2147483648≤v) (h1:v≤2147483648) (e:v+x=r):stC 4 (acL v v1 v2 p0 p1 p2 T x)=r:=by
 obtain ⟨a,b⟩:=h
 rw [ac4,ac_d4 (by omega) (by omega),ac_e (by omega) (by omega) (by omega) (by omega) (by omega) (by omega)]
 omega
theorem AcH.v5 {x:Int} (h:AcH x) (v0:Int) {v:Int} (v2 p0 p1 p2 T:Int) {r:Int} (h0: -2147483648≤v) (h1:v≤2147483648) (e:v+acU x=r):stC 5 (acL v0 v v2 p0 p1 p2 T x)=r:=by
 obtain ⟨a,b⟩:=h
 have c:=ac_u a b
 rw [ac5,ac_d5 a b,ac_e (by omega) (by omega) (by omega) (by omega) (by omega) (by omega)]
 omega
theorem AcH.v6 {x:Int} (h:AcH x) (v0 v1 p0 p1 p2 T:Int):stC 6 (acL v0 v1 0 p0 p1 p2 T x)=0:=by
 obtain ⟨a,b⟩:=h
 rw [ac6,ac_d6 (by omega) (by omega),ac_e (by omega) (by omega) (by omega) (by omega) (by omega) (by omega)]
 omega
theorem ac_g {x:Int} (h:AcH x) {T:Int} (hT:decide (T≥0)=true) (hT2:decide (T≤1125899906842624)=true):goodB T 8000 0 0 0 x 0 (-84238486)=true:=by
 have e:decide (fabsV x>34359738368)=false:=by
  obtain ⟨a,b⟩:=h
  refine decide_eq_false ?_
  unfold fabsV
  split <;> (try split) <;> (try split) <;> omega
 unfold goodB
 rw [hT,hT2,e]
 rfl
def mvV (x:Int):Int:=mulDivV x 1073741824 1000
def mvW (x:Int):Int:=rndV (2*mvV x*4294968) 30
def mvC (x:Int):Int:=clampV x (-549755813888) 549755813888
def mvP (p v d:Int):Int:=clampV (fI2 (clampV p (-9007199254740992) 9007199254740992) (mulV (fI2 (mvC v) (fI3 (mvC v) d 0)) 4294968 30)) (-9007199254740992) 9007199254740992
theorem mv7 (v0 v1 v2 p0 p1 p2 T x:Int):stC 7 (acL v0 v1 v2 p0 p1 p2 T x)=clampV (fI2 (clampV p0 (-9007199254740992) 9007199254740992) (mulV (fI2 (mvC v0) (fI3 (mvC v0) (dotV 30 [1073741824,-154,0] [subV (fI2 0 x) 0,0,-84238486]) 0)) 4294968 30)) (-9007199254740992) 9007199254740992:=by kernel_rfl
theorem mv8 (v0 v1 v2 p0 p1 p2 T x:Int):stC 8 (acL v0 v1 v2 p0 p1 p2 T x)=clampV (fI2 (clampV p1 (-9007199254740992) 9007199254740992) (mulV (fI2 (mvC v1) (fI3 (mvC v1) (dotV 30 [154,1073741824,0] [subV (fI2 0 x) 0,0,-84238486]) 0)) 4294968 30)) (-9007199254740992) 9007199254740992:=by kernel_rfl
theorem mv_dv (w:Int): -1000≤2*(divV w 1000*1000 - w)∧2*(divV w 1000*1000 - w)≤1000:=by
 by_cases h:0≤w
 ·rw [div_pos h (by omega)];exact quo_bd h (by omega)
 ·have k:=quo_bd (a:= -w) (b:=1000) (by omega) (by omega)
  have e:divV w 1000 = -(quoR (-w) 1000):=by
   unfold divV
   rw [show decide (w<0)=true by simpa using h,show decide ((1000:Int)<0)=false from rfl,show absV w = -w by unfold absV;rw [if_pos (by omega)],show absV 1000=1000 from rfl]
   rfl
  rw [e]
  omega
theorem mv_bd {x:Int} (h0: -1000≤x) (h1:x≤1000): -1000≤2*(mvV x*1000 - x*1073741824)∧2*(mvV x*1000 - x*1073741824)≤1000:=by
 have b:=mv_dv (x*1073741824)
 have e:mvV x=divV (x*1073741824) 1000:=by
  unfold mvV mulDivV byV
  rw [sat_in (a:=x) (by omega) (by omega),sat_in (a:=1073741824) (by omega) (by omega),sat_in (a:=1000) (by omega) (by omega),if_neg (by omega),sat_in (by omega) (by omega)]
 rw [e];exact b
structure MvH (x:Int):Prop where
 lo: -1000≤x
 hi:x≤1000
theorem MvH.v {x:Int} (h:MvH x): -1073741825≤mvV x∧mvV x≤1073741825:=by
 have b:=mv_bd h.lo h.hi
 have:=h.lo;have:=h.hi
 omega
theorem MvH.wb {x:Int} (h:MvH x): -8589960≤mvW x∧mvW x≤8589960:=by
 have b:=h.v
 have c:=ac_rb (2*mvV x*4294968)
 unfold mvW
 omega
theorem MvH.up {x:Int} (h:MvH x) (g:100≤x):0<mvW x:=by
 have b:=mv_bd h.lo h.hi
 have c:=ac_rb (2*mvV x*4294968)
 unfold mvW
 omega
theorem MvH.dn {x:Int} (h:MvH x) (g:x≤ -100):mvW x<0:=by
 have b:=mv_bd h.lo h.hi
 have c:=ac_rb (2*mvV x*4294968)
 unfold mvW
 omega
theorem MvH.c {x:Int} (h:MvH x):mvC (mvC (mvC (mvC (mvV x))))=mvV x:=by
 have b:=h.v
 have e:mvC (mvV x)=mvV x:=ac_cl (by omega) (by omega)
 rw [e,e,e,e]
theorem acH0:AcH 0:=⟨by omega,by omega⟩
theorem acU0:acU 0=0:=by kernel_rfl
theorem MvH.v4 {x:Int} (h:MvH x) (v1 v2 p0 p1 p2 T:Int):stC 4 (acL (mvV x) v1 v2 p0 p1 p2 T 0)=mvV x:=by
 have b:=h.v
 exact acH0.v4 _ _ _ _ _ _ (by omega) (by omega) (by omega)
theorem MvH.v5 {x:Int} (h:MvH x) (v0 v2 p0 p1 p2 T:Int):stC 5 (acL v0 (mvV x) v2 p0 p1 p2 T 0)=mvV x:=by
 have b:=h.v
 exact acH0.v5 _ _ _ _ _ _ (by omega) (by omega) (by rw [acU0];omega)
theorem mv_pl {p v:Int} (h0: -1073741825≤v) (h1:v≤1073741825) (h2: -1000000000≤p) (h3:p≤1000000000):mvP p v 0=p+rndV (2*v*4294968) 30:=by
 unfold mvP mvC
 have e1:fI3 v 0 0=v:=by
  show satV (satV v+(satV 0+(satV 0+0)))=v
  rw [sat_in (a:=v) (by omega) (by omega),sat_in (a:=0) (by omega) (by omega),sat_in (by omega) (by omega)]
  omega
 have e2:fI2 v v=2*v:=by
  show satV (satV v+(satV v+0))=_
  rw [sat_in (a:=v) (by omega) (by omega),sat_in (by omega) (by omega)]
  omega
 have c:=ac_rb (2*v*4294968)
 have e3:mulV (2*v) 4294968 30=rndV (2*v*4294968) 30:=by
  unfold mulV
  rw [sat_in (a:=2*v) (by omega) (by omega),sat_in (a:=4294968) (by omega) (by omega)]
  exact ac_rnd (by omega) (by omega)
 have cp:∀y:Int,-9007199254740992≤y→y≤9007199254740992→clampV y (-9007199254740992) 9007199254740992=y:=by
  intro y a b
  unfold clampV
  rw [if_neg (by omega),if_neg (by omega),if_neg (by omega)]
 rw [ac_cl (by omega) (by omega),e1,e2,e3,cp p (by omega) (by omega)]
 generalize rndV (2*v*4294968) 30=r at *
 have e4:fI2 p r=p+r:=by
  show satV (satV p+(satV r+0))=_
  rw [sat_in (a:=p) (by omega) (by omega),sat_in (a:=r) (by omega) (by omega),sat_in (by omega) (by omega)]
  omega
 rw [e4,cp _ (by omega) (by omega)]
theorem MvH.p7 {x:Int} (h:MvH x) (v1 v2:Int) {p:Int} (p1 p2 T:Int) {r:Int} (h0: -1000000000≤p) (h1:p≤1000000000) (e:p+mvW x=r):stC 7 (acL (mvV x) v1 v2 p p1 p2 T 0)=r:=by
 have b:=h.v
 rw [mv7,ac_d4 (by omega) (by omega)]
 have:=mv_pl (p:=p) b.1 b.2 h0 h1
 unfold mvP at this
 rw [this]
 exact e
theorem MvH.p8 {x:Int} (h:MvH x) (v0 v2 p0:Int) {p:Int} (p2 T:Int) {r:Int} (h0: -1000000000≤p) (h1:p≤1000000000) (e:p+mvW x=r):stC 8 (acL v0 (mvV x) v2 p0 p p2 T 0)=r:=by
 have b:=h.v
 rw [mv8,ac_d5 (by omega) (by omega),acU0]
 have:=mv_pl (p:=p) b.1 b.2 h0 h1
 unfold mvP at this
 rw [this]
 exact e
def wiB (a b m:Int):Bool:=decide (wr .i64 (a - b)≤m)&&decide (wr .i64 (b - a)≤m)
def withinS:List LV→Option (LV×List (Bool×Bool))
 | [.v (.one (.int .i64 a)),.v (.one (.int .i64 b)),.v (.one (.int .i64 m))]=>some (.v (.one (.bool true)),[(wiB a b m,true)])
 | _=>none
theorem withinR (a b m:Int):(runF Tryz.prog K2 Zl 4000 17 [I a,I b,I m] [] 0 (tt 6 [])).map (fun r=>(r.1,r.2.2.2))=some (.v (.one (.bool (decide (wr .i64 (b - a)≤m)))),ra 6 (decide (wr .i64 (a - b)≤m),true) []):=by kernel_rfl
theorem sumWithin:SumOK Tryz.prog 17 (pureSum withinS):=by
 refine pureSum_run (z:=Zl) soundK2 (own_of soundK2 Tryz.func17 (by kernel_rfl)) fun args v cs hF hc=> ?_
 unfold withinS at hF
 split at hF
 ·rename_i a b m
  cases hF
  have h:=hd_of hc
  simp only [wiB,Bool.and_eq_true] at h
  have r:=withinR a b m
  rw [h.2] at r
  exact ⟨4000,_,_,r,ra_ok h.1 ae_nil _⟩
 ·cases hF
noncomputable def AW:FuncId→Option SumK:=more AF 17 (pureSum withinS)
theorem soundAW:Sound Tryz.prog AW:=soundAF.more sumWithin
theorem wi_eq {a b m:Int} (e:a=b) (h:0≤m):wiB a b m=true:=by
 subst e
 unfold wiB
 rw [Int.sub_self,show wr .i64 0=0 from rfl,decide_eq_true h]
 rfl
end Go.Proofs.YtnlhpaidmiogbaaGreat

/- TopMoves: the states; aided, stage by stage. -/
namespace Go.Proofs.YtnlhpaidmiogbaaGreat
open Go.Lr
set_option linter.unusedVariables false
def zvPar:List Go.Lr.P2:=[qI 8000,qI 0,qI 16]++rq 7 (qI 5)++[qI 1000000,qI 1000000,qI 1000000,qI 1000000,qI 1000000,qI 1000000,qI 1048576,qI 1048576,qI 1048576,qI 1048576,qI 17179869184,qI 17179869184,qI 17179869184,qI 16384,qI 16384,qI 16384,qI 1024,qI 1024,qI 1024,qI 65536,qI 65536,qI 65536,qI 16384,qI 16384,qI 16384,qI 16384,qI 16384,qI 16384,qI 17179869184,qI 17179869184,qI 68719476736,qI 68719476736,qI 68719476736,qI 68719476736,qI 17592186044416,qI 17592186044416,qI 17592186044416,qI 17592186044416,qI 17592186044416,qI 17592186044416,qI 67108864,qI 67108864,qI 67108864,qI 4294967296,qI 4294967296,qI 4294967296,qI 17179869184,qI 17179869184,qI 17179869184,qI 17179869184,qI 17179869184,qI 17179869184,qI 17592186044416,qI 17592186044416,qI 5000000,qI 68719476736,qI 1,qI 268435456,qI 32,qI 0,qI 0,qI 0]
def zvVar:List Go.Lr.P2:=[qI 68719476736,qI 68719476736,qI 68719476736,qI 68719476736,qI 17592186044416,qI 17592186044416,qI 17592186044416,qI 17592186044416,qI 17592186044416,qI 17592186044416,qI 67108864,qI 67108864,qI 67108864,qI 4294967296,qI 4294967296,qI 4294967296,qI 17179869184,qI 17179869184,qI 17179869184,qI 17179869184,qI 17179869184,qI 17179869184,qI 17592186044416,qI 17592186044416]
def zvMon:List Go.Lr.P2:=[qI 0,qI 0,qB false,qI 0,qI 1000000,qI 5,qI 0,qI 0,qB false,qI 1,qI 1000000,qI 5,qI 0,qI 0,qB false,qI 2,qI 1000000,qI 5,qI 0,qI 0,qB false,qI 3,qI 1000000,qI 5,qI 0,qI 0,qB false,qI 4,qI 1000000,qI 5,qI 0,qI 0,qB false,qI 5,qI 1000000,qI 5,qI 0]
def zvR (b:Nat) (t:Int):Nat×PB2:=(b,⟨171,(0,0),0,[qI 0,qI 0,qI 0,qI 0,qI 0,qI 16,qL .nilsl,qI t],none⟩)
def zvO:List Int→List Go.Lr.P2
 | []=>[]
 | t::l=>qI t::(rq 10 qH++zvO l)
def zvB0:Nat×PB2:=(14,⟨97,(0,0),0,zvPar++[qB false,qI 1073741824]++rq 299 (qI 0)++zvVar++[qL (.ptr 21 0),qL (.ptr 22 0),qL .nilsl,qL (.ptr 25 0),qL (.ptr 26 0),qL (.ptr 27 0),qL (.ptr 28 0),qL (.ptr 29 0),qL (.ptr 30 0),qL (.ptr 23 0),qI 0,qI 0,qB false,qB false,qL (.ptr 24 0),qB false,qI 0,qI 0,qI 0,qI 0,qB false,qB false,qB false,qI 0,qI 0,qI 0,qI 1073741824]++rq 9 (qI 0)++[qL .nilsl],none⟩)
def zvB1:Nat×PB2:=(21,⟨129,(0,0),0,[qI 0,qI 0,qI 0,qI 12157770197,qI 12239707452],none⟩)
def zvB2:Nat×PB2:=(22,⟨207,(0,0),0,[qI 8000]++rq 8 (qI 0)++[qB false],none⟩)
def zvB3:Nat×PB2:=(23,⟨184,(0,0),0,zvMon,none⟩)
def zvB4:Nat×PB2:=(24,⟨210,(0,0),0,[qI 32,qI 268435456,qL .nilsl],none⟩)
def zvB5:Nat×PB2:=(25,⟨171,(0,0),0,[qI 0,qI 0,qI 0,qI 0,qI 0,qI 16,qL .nilsl,qI (-9223372036854775808)],none⟩)
def zvB6:Nat×PB2:=(26,⟨171,(0,0),0,[qI 0,qI 0,qI 0,qI 0,qI 0,qI 16,qL .nilsl,qI (-9223372036854775808)],none⟩)
def zvB7:Nat×PB2:=(27,⟨171,(0,0),0,[qI 0,qI 0,qI 0,qI 0,qI 0,qI 16,qL .nilsl,qI (-9223372036854775808)],none⟩)
def zvB8:Nat×PB2:=(28,⟨171,(0,0),0,[qI 0,qI 0,qI 0,qI 0,qI 0,qI 16,qL .nilsl,qI (-9223372036854775808)],none⟩)
def zvB9:Nat×PB2:=(29,⟨171,(0,0),0,[qI 0,qI 0,qI 0,qI 0,qI 0,qI 16,qL .nilsl,qI (-9223372036854775808)],none⟩)
def zvB10:Nat×PB2:=(30,⟨171,(0,0),0,[qI 0,qI 0,qI 0,qI 0,qI 0,qI 16,qL .nilsl,qI (-9223372036854775808)],none⟩)
def zvB11:Nat×PB2:=(31,⟨27,(0,0),0,[qL (.ptr 14 0),qI 0,qI 0,qB false],none⟩)
def zvB12:Nat×PB2:=(14,⟨97,(0,0),0,zvPar++[qO,qI 1073741824]++rq 23 (qI 0)++rq 300 (qH)++[qL (.ptr 21 0),qL (.ptr 22 0),qL (.slu 163 0),qL (.ptr 25 0),qL (.ptr 26 0),qL (.ptr 27 0),qL (.ptr 28 0),qL (.ptr 29 0),qL (.ptr 30 0),qL (.ptr 23 0),qI 1,qI 0,qB false,qB false,qL (.ptr 24 0),qB true,qI 10,qI 0,qI 0,qI (-842384860),qB true,qB false,qB false,qI 0,qI 88000,qI 0,qI 1073741824]++rq 9 (qI 0)++[qL .nilsl],none⟩)
def zvB13:Nat×PB2:=(22,⟨207,(0,0),0,[qI 8000,qI 88000]++rq 7 (qI 0)++[qB true],none⟩)
def zvB14:Nat×PB2:=(24,⟨210,(0,0),0,[qI 32,qI 268435456,qL (.slu 170 2)],none⟩)
def zvB15:Nat×PB2:=(31,⟨27,(0,0),0,[qL (.ptr 14 0),qI 88000,qI 11,qB false],none⟩)
def zvB16:Nat×PB2:=(170,⟨79,(0,0),11,zvO [80000,88000],none⟩)
def zvB17:Nat×PB2:=(28,⟨171,(0,0),0,[qI 1,qI 0,qI 0,qI 0,qI 0,qI 16,qL (.slu 190 1),qI 88000],none⟩)
def zvB18:Nat×PB2:=(190,⟨31,(0,0),9,[qI 88001,qI 249049,qI (-21789),qI 300000,qI 1000,qI 0,qI 0,qI 0,qI 0],none⟩)
def zvB19:Nat×PB2:=(23,⟨184,(0,0),0,[qI 0,qI 0,qB false,qI 0,qI 1000000,qI 5,qI 0,qI 0,qB false,qI 1,qI 1000000,qI 5,qI 0,qI 0,qB false,qI 2,qI 1000000,qI 5,qI 96000,qI 0,qB true,qI 3,qI 1000000,qI 5,qI 0,qI 0,qB false,qI 4,qI 1000000,qI 5,qI 0,qI 0,qB false,qI 5,qI 1000000,qI 5,qI 0],none⟩)
def zvB20:Nat×PB2:=(190,⟨31,(0,0),9,rq 9 (qI 0),none⟩)
def zvB21:Nat×PB2:=(14,⟨97,(0,0),0,zvPar++[qO,qI 1073741824,qI 0,qI 0,qI 77]++rq 12 (qI 0)++[qI 267414331,qI (-23395723),qI 322122547,qI 0,qI 0,qI 0,qI 0,qI 0]++rq 300 (qH)++[qL (.ptr 21 0),qL (.ptr 22 0),qL (.slu 321 0),qL (.ptr 25 0),qL (.ptr 26 0),qL (.ptr 27 0),qL (.ptr 28 0),qL (.ptr 29 0),qL (.ptr 30 0),qL (.ptr 23 0),qI 2,qI 1,qB false,qB true,qL (.ptr 24 0),qB true,qI 10,qI 0,qI 0,qI (-842384860),qB true,qB true,qB false,qI 0,qI 104000,qI 1,qI 1073741824,qI 0,qI 0,qI 77,qI 0,qI 0,qI 0,qI 0,qI 0,qI 0,qL .nilsl],none⟩)
def zvB22:Nat×PB2:=(22,⟨207,(0,0),0,[qI 8000,qI 104000]++rq 7 (qI 0)++[qB true],none⟩)
def zvB23:Nat×PB2:=(24,⟨210,(0,0),0,[qI 32,qI 268435456,qL (.slu 328 4)],none⟩)
def zvB24:Nat×PB2:=(28,⟨171,(0,0),0,[qI 1,qI 0,qI 0,qI 0,qI 1,qI 16,qL (.slu 190 0),qI 104000],none⟩)
def zvB25:Nat×PB2:=(31,⟨27,(0,0),0,[qL (.ptr 14 0),qI 104000,qI 13,qB false],none⟩)
def zvB26:Nat×PB2:=(328,⟨79,(0,0),11,zvO [80000,88000,96000,104000],none⟩)
def zvB27:Nat×PB2:=(25,⟨171,(0,0),0,[qI 1,qI 0,qI 0,qI 0,qI 0,qI 16,qL (.slu 337 1),qI 104000],none⟩)
def zvB28:Nat×PB2:=(23,⟨184,(0,0),0,[qI 112000,qI 0,qB true,qI 0,qI 1000000,qI 5,qI 0,qI 0,qB false,qI 1,qI 1000000,qI 5,qI 0,qI 0,qB false,qI 2,qI 1000000,qI 5,qI 96000,qI 0,qB true,qI 3,qI 1000000,qI 5,qI 0,qI 0,qB false,qI 4,qI 1000000,qI 5,qI 0,qI 0,qB false,qI 5,qI 1000000,qI 5,qI 0],none⟩)
def zvB29:Nat×PB2:=(337,⟨31,(0,0),9,rq 9 (qI 0),none⟩)
def zvB30:Nat×PB2:=(22,⟨207,(0,0),0,[qI 8000,qI 120000]++rq 7 (qI 0)++[qB true],none⟩)
def zvB31:Nat×PB2:=(24,⟨210,(0,0),0,[qI 32,qI 268435456,qL (.slu 543 6)],none⟩)
def zvB32:Nat×PB2:=(25,⟨171,(0,0),0,[qI 1,qI 0,qI 0,qI 0,qI 1,qI 16,qL (.slu 337 0),qI 120000],none⟩)
def zvB33:Nat×PB2:=(28,⟨171,(0,0),0,[qI 1,qI 0,qI 0,qI 0,qI 1,qI 16,qL (.slu 190 0),qI 120000],none⟩)
def zvB34:Nat×PB2:=(31,⟨27,(0,0),0,[qL (.ptr 14 0),qI 120000,qI 15,qB false],none⟩)
def zvB35:Nat×PB2:=(543,⟨79,(0,0),11,zvO [80000,88000,96000,104000,112000,120000],none⟩)
def zvM0 (vn ve:Int):List (Nat×PB2):=[(4,⟨51,(0,0),0,zvPar,none⟩),(5,⟨29,(0,0),0,[qI 0,qI 0,qI 0,qS vn,qS ve,qI 0,qI 1000,qI 100],none⟩)]
def zvM1 (vn ve:Int):List (Nat×PB2):=[(4,⟨51,(0,0),0,zvPar,none⟩),(5,⟨29,(0,0),0,[qI 0,qI 0,qI 0,qS vn,qS ve,qI 0,qI 1000,qI 100],none⟩),zvB0,zvB1,zvB2,zvB3,zvB4,zvB5,zvB6,zvB7,zvB8,zvB9,zvB10,zvB11]
def zvM2 (vn ve:Int):List (Nat×PB2):=[(4,⟨51,(0,0),0,zvPar,none⟩),(5,⟨29,(0,0),0,[qI 0,qI 0,qI 0,qS vn,qS ve,qI 0,qI 1000,qI 100],none⟩),(14,⟨97,(0,0),0,zvPar++[qB false,qI 1073741824]++rq 299 (qI 0)++zvVar++[qL (.ptr 21 0),qL (.ptr 22 0),qL (.slu 36 0),qL (.ptr 25 0),qL (.ptr 26 0),qL (.ptr 27 0),qL (.ptr 28 0),qL (.ptr 29 0),qL (.ptr 30 0),qL (.ptr 23 0),qI 0,qI 0,qB false,qB false,qL (.ptr 24 0),qB false,qI 1,qI 0,qI 0,qI (-84238486),qB false,qB false,qB false,qI 0,qI 8000,qI 0,qI 1073741824]++rq 9 (qI 0)++[qL .nilsl],none⟩),zvB1,(22,⟨207,(0,0),0,[qI 8000,qI 8000]++rq 7 (qI 0)++[qB true],none⟩),zvB3,zvB4,zvR 25 8000,zvR 26 8000,zvR 27 8000,zvR 28 8000,zvR 29 8000,zvR 30 8000,(31,⟨27,(0,0),0,[qL (.ptr 14 0),qI 8000,qI 1,qB false],none⟩),(36,⟨66,(0,0),8,[],none⟩)]
def zvM3 (vn ve:Int):List (Nat×PB2):=[(4,⟨51,(0,0),0,zvPar,none⟩),(5,⟨29,(0,0),0,[qI 0,qI 0,qI 0,qS vn,qS ve,qI 0,qI 1000,qI 100],none⟩),(14,⟨97,(0,0),0,zvPar++[qB false,qI 1073741824]++rq 299 (qI 0)++zvVar++[qL (.ptr 21 0),qL (.ptr 22 0),qL (.slu 48 0),qL (.ptr 25 0),qL (.ptr 26 0),qL (.ptr 27 0),qL (.ptr 28 0),qL (.ptr 29 0),qL (.ptr 30 0),qL (.ptr 23 0),qI 0,qI 0,qB false,qB false,qL (.ptr 24 0),qB false,qI 2,qI 0,qI 0,qI (-168476972),qB false,qB false,qB false,qI 0,qI 16000,qI 0,qI 1073741824]++rq 9 (qI 0)++[qL .nilsl],none⟩),zvB1,(22,⟨207,(0,0),0,[qI 8000,qI 16000]++rq 7 (qI 0)++[qB true],none⟩),zvB3,zvB4,zvR 25 16000,zvR 26 16000,zvR 27 16000,zvR 28 16000,zvR 29 16000,zvR 30 16000,(31,⟨27,(0,0),0,[qL (.ptr 14 0),qI 16000,qI 2,qB false],none⟩),(48,⟨66,(0,0),8,[],none⟩)]
def zvM4 (vn ve:Int):List (Nat×PB2):=[(4,⟨51,(0,0),0,zvPar,none⟩),(5,⟨29,(0,0),0,[qI 0,qI 0,qI 0,qS vn,qS ve,qI 0,qI 1000,qI 100],none⟩),(14,⟨97,(0,0),0,zvPar++[qB false,qI 1073741824]++rq 299 (qI 0)++zvVar++[qL (.ptr 21 0),qL (.ptr 22 0),qL (.slu 60 0),qL (.ptr 25 0),qL (.ptr 26 0),qL (.ptr 27 0),qL (.ptr 28 0),qL (.ptr 29 0),qL (.ptr 30 0),qL (.ptr 23 0),qI 0,qI 0,qB false,qB false,qL (.ptr 24 0),qB false,qI 3,qI 0,qI 0,qI (-252715458),qB false,qB false,qB false,qI 0,qI 24000,qI 0,qI 1073741824]++rq 9 (qI 0)++[qL .nilsl],none⟩),zvB1,(22,⟨207,(0,0),0,[qI 8000,qI 24000]++rq 7 (qI 0)++[qB true],none⟩),zvB3,zvB4,zvR 25 24000,zvR 26 24000,zvR 27 24000,zvR 28 24000,zvR 29 24000,zvR 30 24000,(31,⟨27,(0,0),0,[qL (.ptr 14 0),qI 24000,qI 3,qB false],none⟩),(60,⟨66,(0,0),8,[],none⟩)]
def zvM5 (vn ve:Int):List (Nat×PB2):=[(4,⟨51,(0,0),0,zvPar,none⟩),(5,⟨29,(0,0),0,[qI 0,qI 0,qI 0,qS vn,qS ve,qI 0,qI 1000,qI 100],none⟩),(14,⟨97,(0,0),0,zvPar++[qB false,qI 1073741824]++rq 299 (qI 0)++zvVar++[qL (.ptr 21 0),qL (.ptr 22 0),qL (.slu 72 0),qL (.ptr 25 0),qL (.ptr 26 0),qL (.ptr 27 0),qL (.ptr 28 0),qL (.ptr 29 0),qL (.ptr 30 0),qL (.ptr 23 0),qI 0,qI 0,qB false,qB false,qL (.ptr 24 0),qB false,qI 4,qI 0,qI 0,qI (-336953944),qB false,qB false,qB false,qI 0,qI 32000,qI 0,qI 1073741824]++rq 9 (qI 0)++[qL .nilsl],none⟩),zvB1,(22,⟨207,(0,0),0,[qI 8000,qI 32000]++rq 7 (qI 0)++[qB true],none⟩),zvB3,zvB4,zvR 25 32000,zvR 26 32000,zvR 27 32000,zvR 28 32000,zvR 29 32000,zvR 30 32000,(31,⟨27,(0,0),0,[qL (.ptr 14 0),qI 32000,qI 4,qB false],none⟩),(72,⟨66,(0,0),8,[],none⟩)]
def zvM6 (vn ve:Int):List (Nat×PB2):=[(4,⟨51,(0,0),0,zvPar,none⟩),(5,⟨29,(0,0),0,[qI 0,qI 0,qI 0,qS vn,qS ve,qI 0,qI 1000,qI 100],none⟩),(14,⟨97,(0,0),0,zvPar++[qB false,qI 1073741824]++rq 299 (qI 0)++zvVar++[qL (.ptr 21 0),qL (.ptr 22 0),qL (.slu 84 0),qL (.ptr 25 0),qL (.ptr 26 0),qL (.ptr 27 0),qL (.ptr 28 0),qL (.ptr 29 0),qL (.ptr 30 0),qL (.ptr 23 0),qI 0,qI 0,qB false,qB false,qL (.ptr 24 0),qB false,qI 5,qI 0,qI 0,qI (-421192430),qB false,qB false,qB false,qI 0,qI 40000,qI 0,qI 1073741824]++rq 9 (qI 0)++[qL .nilsl],none⟩),zvB1,(22,⟨207,(0,0),0,[qI 8000,qI 40000]++rq 7 (qI 0)++[qB true],none⟩),zvB3,zvB4,zvR 25 40000,zvR 26 40000,zvR 27 40000,zvR 28 40000,zvR 29 40000,zvR 30 40000,(31,⟨27,(0,0),0,[qL (.ptr 14 0),qI 40000,qI 5,qB false],none⟩),(84,⟨66,(0,0),8,[],none⟩)]
def zvM7 (vn ve:Int):List (Nat×PB2):=[(4,⟨51,(0,0),0,zvPar,none⟩),(5,⟨29,(0,0),0,[qI 0,qI 0,qI 0,qS vn,qS ve,qI 0,qI 1000,qI 100],none⟩),(14,⟨97,(0,0),0,zvPar++[qB false,qI 1073741824]++rq 299 (qI 0)++zvVar++[qL (.ptr 21 0),qL (.ptr 22 0),qL (.slu 96 0),qL (.ptr 25 0),qL (.ptr 26 0),qL (.ptr 27 0),qL (.ptr 28 0),qL (.ptr 29 0),qL (.ptr 30 0),qL (.ptr 23 0),qI 0,qI 0,qB false,qB false,qL (.ptr 24 0),qB false,qI 6,qI 0,qI 0,qI (-505430916),qB false,qB false,qB false,qI 0,qI 48000,qI 0,qI 1073741824]++rq 9 (qI 0)++[qL .nilsl],none⟩),zvB1,(22,⟨207,(0,0),0,[qI 8000,qI 48000]++rq 7 (qI 0)++[qB true],none⟩),zvB3,zvB4,zvR 25 48000,zvR 26 48000,zvR 27 48000,zvR 28 48000,zvR 29 48000,zvR 30 48000,(31,⟨27,(0,0),0,[qL (.ptr 14 0),qI 48000,qI 6,qB false],none⟩),(96,⟨66,(0,0),8,[],none⟩)]
def zvM8 (vn ve:Int):List (Nat×PB2):=[(4,⟨51,(0,0),0,zvPar,none⟩),(5,⟨29,(0,0),0,[qI 0,qI 0,qI 0,qS vn,qS ve,qI 0,qI 1000,qI 100],none⟩),(14,⟨97,(0,0),0,zvPar++[qB false,qI 1073741824]++rq 299 (qI 0)++zvVar++[qL (.ptr 21 0),qL (.ptr 22 0),qL (.slu 108 0),qL (.ptr 25 0),qL (.ptr 26 0),qL (.ptr 27 0),qL (.ptr 28 0),qL (.ptr 29 0),qL (.ptr 30 0),qL (.ptr 23 0),qI 0,qI 0,qB false,qB false,qL (.ptr 24 0),qB false,qI 7,qI 0,qI 0,qI (-589669402),qB false,qB false,qB false,qI 0,qI 56000,qI 0,qI 1073741824]++rq 9 (qI 0)++[qL .nilsl],none⟩),zvB1,(22,⟨207,(0,0),0,[qI 8000,qI 56000]++rq 7 (qI 0)++[qB true],none⟩),zvB3,zvB4,zvR 25 56000,zvR 26 56000,zvR 27 56000,zvR 28 56000,zvR 29 56000,zvR 30 56000,(31,⟨27,(0,0),0,[qL (.ptr 14 0),qI 56000,qI 7,qB false],none⟩),(108,⟨66,(0,0),8,[],none⟩)]
def zvM9 (vn ve:Int):List (Nat×PB2):=[(4,⟨51,(0,0),0,zvPar,none⟩),(5,⟨29,(0,0),0,[qI 0,qI 0,qI 0,qS vn,qS ve,qI 0,qI 1000,qI 100],none⟩),(14,⟨97,(0,0),0,zvPar++[qB false,qI 1073741824]++rq 299 (qI 0)++zvVar++[qL (.ptr 21 0),qL (.ptr 22 0),qL (.slu 120 0),qL (.ptr 25 0),qL (.ptr 26 0),qL (.ptr 27 0),qL (.ptr 28 0),qL (.ptr 29 0),qL (.ptr 30 0),qL (.ptr 23 0),qI 0,qI 0,qB false,qB false,qL (.ptr 24 0),qB false,qI 8,qI 0,qI 0,qI (-673907888),qB false,qB false,qB false,qI 0,qI 64000,qI 0,qI 1073741824]++rq 9 (qI 0)++[qL .nilsl],none⟩),zvB1,(22,⟨207,(0,0),0,[qI 8000,qI 64000]++rq 7 (qI 0)++[qB true],none⟩),zvB3,zvB4,zvR 25 64000,zvR 26 64000,zvR 27 64000,zvR 28 64000,zvR 29 64000,zvR 30 64000,(31,⟨27,(0,0),0,[qL (.ptr 14 0),qI 64000,qI 8,qB false],none⟩),(120,⟨66,(0,0),8,[],none⟩)]
def zvM10 (vn ve:Int):List (Nat×PB2):=[(4,⟨51,(0,0),0,zvPar,none⟩),(5,⟨29,(0,0),0,[qI 0,qI 0,qI 0,qS vn,qS ve,qI 0,qI 1000,qI 100],none⟩),(14,⟨97,(0,0),0,zvPar++[qB false,qI 1073741824]++rq 299 (qI 0)++zvVar++[qL (.ptr 21 0),qL (.ptr 22 0),qL (.slu 132 0),qL (.ptr 25 0),qL (.ptr 26 0),qL (.ptr 27 0),qL (.ptr 28 0),qL (.ptr 29 0),qL (.ptr 30 0),qL (.ptr 23 0),qI 0,qI 0,qB false,qB false,qL (.ptr 24 0),qB false,qI 9,qI 0,qI 0,qI (-758146374),qB false,qB false,qB false,qI 0,qI 72000,qI 0,qI 1073741824]++rq 9 (qI 0)++[qL .nilsl],none⟩),zvB1,(22,⟨207,(0,0),0,[qI 8000,qI 72000]++rq 7 (qI 0)++[qB true],none⟩),zvB3,zvB4,zvR 25 72000,zvR 26 72000,zvR 27 72000,zvR 28 72000,zvR 29 72000,zvR 30 72000,(31,⟨27,(0,0),0,[qL (.ptr 14 0),qI 72000,qI 9,qB false],none⟩),(132,⟨66,(0,0),8,[],none⟩)]
def zvM11 (vn ve:Int):List (Nat×PB2):=[(4,⟨51,(0,0),0,zvPar,none⟩),(5,⟨29,(0,0),0,[qI 0,qI 0,qI 0,qS vn,qS ve,qI 0,qI 1000,qI 100],none⟩),(14,⟨97,(0,0),0,zvPar++[qO,qI 1073741824]++rq 23 (qI 0)++rq 300 (qH)++[qL (.ptr 21 0),qL (.ptr 22 0),qL (.slu 153 0),qL (.ptr 25 0),qL (.ptr 26 0),qL (.ptr 27 0),qL (.ptr 28 0),qL (.ptr 29 0),qL (.ptr 30 0),qL (.ptr 23 0),qI 1,qI 0,qB false,qB false,qL (.ptr 24 0),qB true,qI 10,qI 0,qI 0,qI (-842384860),qB true,qB false,qB false,qI 0,qI 80000,qI 0,qI 1073741824]++rq 9 (qI 0)++[qL .nilsl],none⟩),zvB1,(22,⟨207,(0,0),0,[qI 8000,qI 80000]++rq 7 (qI 0)++[qB true],none⟩),zvB3,(24,⟨210,(0,0),0,[qI 32,qI 268435456,qL (.sl 142 0 1 1)],none⟩),zvR 25 80000,zvR 26 80000,zvR 27 80000,zvR 28 80000,zvR 29 80000,zvR 30 80000,(31,⟨27,(0,0),0,[qL (.ptr 14 0),qI 80000,qI 10,qB false],none⟩),(142,⟨79,(0,0),0,zvO [80000],none⟩),(153,⟨66,(0,0),8,[],none⟩)]
def zvM12 (vn ve:Int):List (Nat×PB2):=[(4,⟨51,(0,0),0,zvPar,none⟩),(5,⟨29,(0,0),0,[qI 0,qI 0,qI 0,qS vn,qS ve,qI 0,qI 1000,qI 100],none⟩),zvB12,zvB1,zvB13,zvB3,zvB14,zvR 25 88000,zvR 26 88000,zvR 27 88000,zvR 28 88000,zvR 29 88000,zvR 30 88000,zvB15,(163,⟨66,(0,0),8,[],none⟩),zvB16]
def zvM13 (vn ve:Int):List (Nat×PB2):=[(4,⟨51,(0,0),0,zvPar,none⟩),(5,⟨29,(0,0),0,[qI 0,qI 0,qI 0,qS vn,qS ve,qI 0,qI 1000,qI 100],none⟩),zvB12,zvB1,zvB13,zvB3,zvB14,zvR 25 88000,zvR 26 88000,zvR 27 88000,zvR 28 88000,zvR 29 88000,zvR 30 88000,zvB15,(163,⟨66,(0,0),8,[],none⟩),zvB16,(176,⟨61,(0,0),0,[qB false],none⟩)]
def zvM14 (vn ve:Int):List (Nat×PB2):=[(5,⟨29,(0,0),0,[qI 0,qI 0,qI 0,qS vn,qS ve,qI 0,qI 1000,qI 100],none⟩),zvB12,zvB1,zvB13,zvB3,zvB14,zvR 25 88000,zvR 26 88000,zvR 27 88000,zvR 28 88000,zvR 29 88000,zvR 30 88000,zvB15,(163,⟨66,(0,0),8,[],none⟩),zvB16,(176,⟨61,(0,0),0,[qB false],none⟩),(185,⟨37,(0,0),0,[qI 267413978,qI (-23395692),qI 0],none⟩)]
def zvM15 (vn ve:Int):List (Nat×PB2):=[(5,⟨29,(0,0),0,[qI 0,qI 0,qI 0,qS vn,qS ve,qI 0,qI 1000,qI 100],none⟩),zvB12,zvB1,zvB13,zvB3,zvB14,zvR 25 88000,zvR 26 88000,zvR 27 88000,zvR 28 88000,zvR 29 88000,zvR 30 88000,zvB15,(163,⟨66,(0,0),8,[],none⟩),zvB16,(186,⟨29,(0,0),0,[qI 249049,qI (-21789),qI 300000,qI 1000,qI 0,qI 0,qI 0,qI 0],none⟩)]
def zvM16 (vn ve:Int):List (Nat×PB2):=[(5,⟨29,(0,0),0,[qI 0,qI 0,qI 0,qS vn,qS ve,qI 0,qI 1000,qI 100],none⟩),zvB12,zvB1,zvB13,zvB3,zvB14,zvR 25 88000,zvR 26 88000,zvR 27 88000,zvB17,zvR 29 88000,zvR 30 88000,zvB15,(163,⟨66,(0,0),8,[],none⟩),zvB16,zvB18]
def zvM17 (vn ve:Int):List (Nat×PB2):=[(5,⟨29,(0,0),0,[qI 0,qI 0,qI 0,qS vn,qS ve,qI 0,qI 1000,qI 100],none⟩),(14,⟨97,(0,0),0,zvPar++[qO,qI 1073741824,qI 0,qI 0,qI 77]++rq 12 (qI 0)++[qI 267414331,qI (-23395723),qI 322122547,qI 0,qI 0,qI 0,qI 0,qI 0]++rq 300 (qH)++[qL (.ptr 21 0),qL (.ptr 22 0),qL (.slu 305 0),qL (.ptr 25 0),qL (.ptr 26 0),qL (.ptr 27 0),qL (.ptr 28 0),qL (.ptr 29 0),qL (.ptr 30 0),qL (.ptr 23 0),qI 2,qI 1,qB false,qB true,qL (.ptr 24 0),qB true,qI 10,qI 0,qI 0,qI (-842384860),qB true,qB true,qB false,qI 0,qI 96000,qI 1,qI 1073741824,qI 0,qI 0,qI 77,qI 0,qI 0,qI 0,qI 0,qI 0,qI 0,qL (.slu 265 1)],none⟩),zvB1,(22,⟨207,(0,0),0,[qI 8000,qI 96000]++rq 7 (qI 0)++[qB true],none⟩),zvB19,(24,⟨210,(0,0),0,[qI 32,qI 268435456,qL (.slu 312 3)],none⟩),zvR 25 96000,zvR 26 96000,zvR 27 96000,(28,⟨171,(0,0),0,[qI 1,qI 0,qI 0,qI 0,qI 1,qI 16,qL (.slu 190 0),qI 96000],none⟩),zvR 29 96000,zvR 30 96000,(31,⟨27,(0,0),0,[qL (.ptr 14 0),qI 96000,qI 12,qB false],none⟩),zvB20,(265,⟨39,(0,0),10,[qI 1073741824,qI 0,qI 0,qI 77,qI 0,qI 0,qI 0,qI 0,qI 0,qI 0],none⟩),(305,⟨66,(0,0),8,[],none⟩),(312,⟨79,(0,0),11,zvO [80000,88000,96000],none⟩)]
def zvM18 (vn ve:Int):List (Nat×PB2):=[(5,⟨29,(0,0),0,[qI 0,qI 0,qI 0,qS vn,qS ve,qI 0,qI 1000,qI 100],none⟩),zvB21,zvB1,zvB22,zvB19,zvB23,zvR 25 104000,zvR 26 104000,zvR 27 104000,zvB24,zvR 29 104000,zvR 30 104000,zvB25,zvB20,(321,⟨66,(0,0),8,[],none⟩),zvB26]
def zvM19 (vn ve:Int):List (Nat×PB2):=[zvB21,zvB1,zvB22,zvB19,zvB23,zvB27,zvR 26 104000,zvR 27 104000,zvB24,zvR 29 104000,zvR 30 104000,zvB25,zvB20,(321,⟨66,(0,0),8,[],none⟩),zvB26,(337,⟨31,(0,0),9,[qI 104001,qI 0,qI 0,qI 0,qS vn,qS ve,qI 0,qI 1000,qI 100],none⟩)]
def zvM20 (vn ve:Int):List (Nat×PB2):=[(14,⟨97,(0,0),0,zvPar++[qO,qI 1073741824,qI 0,qI 0,qI 77,qS (mvV vn),qS (mvV ve)]++rq 10 (qI 0)++[qI 267414331,qI (-23395723),qI 322122547,qI 0,qI 0,qI 0,qI 0,qI 0]++rq 300 (qH)++[qL (.ptr 21 0),qL (.ptr 22 0),qL (.slu 519 0),qL (.ptr 25 0),qL (.ptr 26 0),qL (.ptr 27 0),qL (.ptr 28 0),qL (.ptr 29 0),qL (.ptr 30 0),qL (.ptr 23 0),qI 3,qI 2,qB true,qB false,qL (.ptr 24 0),qB true,qI 10,qI 0,qI 0,qI (-842384860),qB true,qB true,qB true,qI 112000,qI 112000,qI 3,qI 1073741824,qI 0,qI 0,qI 77,qH,qH,qI 0,qI 0,qI 0,qI 0,qL (.slu 461 2)],none⟩),zvB1,(22,⟨207,(0,0),0,[qI 8000,qI 112000]++rq 7 (qI 0)++[qB true],none⟩),zvB28,(24,⟨210,(0,0),0,[qI 32,qI 268435456,qL (.slu 526 5)],none⟩),(25,⟨171,(0,0),0,[qI 1,qI 0,qI 0,qI 0,qI 1,qI 16,qL (.slu 337 0),qI 112000],none⟩),zvR 26 112000,zvR 27 112000,(28,⟨171,(0,0),0,[qI 1,qI 0,qI 0,qI 0,qI 1,qI 16,qL (.slu 190 0),qI 112000],none⟩),zvR 29 112000,zvR 30 112000,(31,⟨27,(0,0),0,[qL (.ptr 14 0),qI 112000,qI 14,qB false],none⟩),zvB20,zvB29,(461,⟨39,(0,0),10,[qI 1073741824,qI 0,qI 0,qI 0,qH,qH,qI 0,qI 0,qI 0,qI 0,qI 1073741824]++rq 9 (qI 0),none⟩),(519,⟨66,(0,0),8,[],none⟩),(526,⟨79,(0,0),11,zvO [80000,88000,96000,104000,112000],none⟩)]
def zvM21 (vn ve:Int):List (Nat×PB2):=[(14,⟨97,(0,0),0,zvPar++[qO,qI 1073741824,qI 0,qI 0,qI 77,qS (mvV vn),qS (mvV ve),qI 0,qS (1*mvW vn),qS (1*mvW ve)]++rq 7 (qI 0)++[qI 267414331,qI (-23395723),qI 322122547,qI 0,qI 0,qI 0,qI 0,qI 0]++rq 300 (qH)++[qL (.ptr 21 0),qL (.ptr 22 0),qL (.slu 536 0),qL (.ptr 25 0),qL (.ptr 26 0),qL (.ptr 27 0),qL (.ptr 28 0),qL (.ptr 29 0),qL (.ptr 30 0),qL (.ptr 23 0),qI 3,qI 2,qB true,qB false,qL (.ptr 24 0),qB true,qI 10,qI 0,qI 0,qI (-842384860),qB true,qB true,qB true,qI 112000,qI 120000,qI 3,qI 1073741824,qI 0,qI 0,qI 77,qH,qH,qI 0,qI 0,qI 0,qI 0,qL .nilsl],none⟩),zvB1,zvB30,zvB28,zvB31,zvB32,zvR 26 120000,zvR 27 120000,zvB33,zvR 29 120000,zvR 30 120000,zvB34,zvB20,zvB29,(536,⟨66,(0,0),8,[],none⟩),zvB35]
def zvM22 (vn ve:Int):List (Nat×PB2):=[(14,⟨97,(0,0),0,zvPar++[qO,qI 1073741824,qI 0,qI 0,qI 77,qS (mvV vn),qS (mvV ve),qI 0,qS (2*mvW vn),qS (2*mvW ve)]++rq 7 (qI 0)++[qI 267414331,qI (-23395723),qI 322122547,qI 0,qI 0,qI 0,qI 0,qI 0]++rq 300 (qH)++[qL (.ptr 21 0),qL (.ptr 22 0),qL (.slu 553 0),qL (.ptr 25 0),qL (.ptr 26 0),qL (.ptr 27 0),qL (.ptr 28 0),qL (.ptr 29 0),qL (.ptr 30 0),qL (.ptr 23 0),qI 3,qI 2,qB true,qB false,qL (.ptr 24 0),qB true,qI 10,qI 0,qI 0,qI (-842384860),qB true,qB true,qB true,qI 112000,qI 128000,qI 3,qI 1073741824,qI 0,qI 0,qI 77,qH,qH,qI 0,qI 0,qI 0,qI 0,qL .nilsl],none⟩),zvB1,(22,⟨207,(0,0),0,[qI 8000,qI 128000]++rq 7 (qI 0)++[qB true],none⟩),zvB28,(24,⟨210,(0,0),0,[qI 32,qI 268435456,qL (.slu 560 7)],none⟩),(25,⟨171,(0,0),0,[qI 1,qI 0,qI 0,qI 0,qI 1,qI 16,qL (.slu 337 0),qI 128000],none⟩),zvR 26 128000,zvR 27 128000,(28,⟨171,(0,0),0,[qI 1,qI 0,qI 0,qI 0,qI 1,qI 16,qL (.slu 190 0),qI 128000],none⟩),zvR 29 128000,zvR 30 128000,(31,⟨27,(0,0),0,[qL (.ptr 14 0),qI 128000,qI 16,qB false],none⟩),zvB20,zvB29,(553,⟨66,(0,0),8,[],none⟩),(560,⟨79,(0,0),11,zvO [80000,88000,96000,104000,112000,120000,128000],none⟩)]
def zvM23 (vn ve:Int):List (Nat×PB2):=[(14,⟨97,(0,0),0,zvPar++[qO,qI 1073741824,qI 0,qI 0,qI 77,qS (mvV vn),qS (mvV ve),qI 0,qS (3*mvW vn),qS (3*mvW ve)]++rq 7 (qI 0)++[qI 267414331,qI (-23395723),qI 322122547,qI 0,qI 0,qI 0,qI 0,qI 0]++rq 300 (qH)++[qL (.ptr 21 0),qL (.ptr 22 0),qL (.slu 570 0),qL (.ptr 25 0),qL (.ptr 26 0),qL (.ptr 27 0),qL (.ptr 28 0),qL (.ptr 29 0),qL (.ptr 30 0),qL (.ptr 23 0),qI 3,qI 2,qB true,qB false,qL (.ptr 24 0),qB true,qI 10,qI 0,qI 0,qI (-842384860),qB true,qB true,qB true,qI 112000,qI 136000,qI 3,qI 1073741824,qI 0,qI 0,qI 77,qH,qH,qI 0,qI 0,qI 0,qI 0,qL .nilsl],none⟩),zvB1,(22,⟨207,(0,0),0,[qI 8000,qI 136000]++rq 7 (qI 0)++[qB true],none⟩),zvB28,(24,⟨210,(0,0),0,[qI 32,qI 268435456,qL (.slu 577 8)],none⟩),(25,⟨171,(0,0),0,[qI 1,qI 0,qI 0,qI 0,qI 1,qI 16,qL (.slu 337 0),qI 136000],none⟩),zvR 26 136000,zvR 27 136000,(28,⟨171,(0,0),0,[qI 1,qI 0,qI 0,qI 0,qI 1,qI 16,qL (.slu 190 0),qI 136000],none⟩),zvR 29 136000,zvR 30 136000,(31,⟨27,(0,0),0,[qL (.ptr 14 0),qI 136000,qI 17,qB false],none⟩),zvB20,zvB29,(570,⟨66,(0,0),8,[],none⟩),(577,⟨79,(0,0),11,zvO [80000,88000,96000,104000,112000,120000,128000,136000],none⟩)]
def zvM24 (vn ve:Int):List (Nat×PB2):=[(14,⟨97,(0,0),0,zvPar++[qO,qI 1073741824,qI 0,qI 0,qI 77,qS (mvV vn),qS (mvV ve),qI 0,qS (4*mvW vn),qS (4*mvW ve)]++rq 7 (qI 0)++[qI 267414331,qI (-23395723),qI 322122547,qI 0,qI 0,qI 0,qI 0,qI 0]++rq 300 (qH)++[qL (.ptr 21 0),qL (.ptr 22 0),qL (.slu 587 0),qL (.ptr 25 0),qL (.ptr 26 0),qL (.ptr 27 0),qL (.ptr 28 0),qL (.ptr 29 0),qL (.ptr 30 0),qL (.ptr 23 0),qI 3,qI 2,qB true,qB false,qL (.ptr 24 0),qB true,qI 10,qI 0,qI 0,qI (-842384860),qB true,qB true,qB true,qI 112000,qI 144000,qI 3,qI 1073741824,qI 0,qI 0,qI 77,qH,qH,qI 0,qI 0,qI 0,qI 0,qL .nilsl],none⟩),zvB1,(22,⟨207,(0,0),0,[qI 8000,qI 144000]++rq 7 (qI 0)++[qB true],none⟩),zvB28,(24,⟨210,(0,0),0,[qI 32,qI 268435456,qL (.slu 594 9)],none⟩),(25,⟨171,(0,0),0,[qI 1,qI 0,qI 0,qI 0,qI 1,qI 16,qL (.slu 337 0),qI 144000],none⟩),zvR 26 144000,zvR 27 144000,(28,⟨171,(0,0),0,[qI 1,qI 0,qI 0,qI 0,qI 1,qI 16,qL (.slu 190 0),qI 144000],none⟩),zvR 29 144000,zvR 30 144000,(31,⟨27,(0,0),0,[qL (.ptr 14 0),qI 144000,qI 18,qB false],none⟩),zvB20,zvB29,(587,⟨66,(0,0),8,[],none⟩),(594,⟨79,(0,0),11,zvO [80000,88000,96000,104000,112000,120000,128000,136000,144000],none⟩)]
def zvM25 (vn ve:Int):List (Nat×PB2):=[(14,⟨97,(0,0),0,zvPar++[qO,qI 1073741824,qI 0,qI 0,qI 77,qS (mvV vn),qS (mvV ve),qI 0,qS (5*mvW vn),qS (5*mvW ve)]++rq 7 (qI 0)++[qI 267414331,qI (-23395723),qI 322122547,qI 0,qI 0,qI 0,qI 0,qI 0]++rq 300 (qH)++[qL (.ptr 21 0),qL (.ptr 22 0),qL (.slu 604 0),qL (.ptr 25 0),qL (.ptr 26 0),qL (.ptr 27 0),qL (.ptr 28 0),qL (.ptr 29 0),qL (.ptr 30 0),qL (.ptr 23 0),qI 3,qI 2,qB true,qB false,qL (.ptr 24 0),qB true,qI 10,qI 0,qI 0,qI (-842384860),qB true,qB true,qB true,qI 112000,qI 152000,qI 3,qI 1073741824,qI 0,qI 0,qI 77,qH,qH,qI 0,qI 0,qI 0,qI 0,qL .nilsl],none⟩),zvB1,(22,⟨207,(0,0),0,[qI 8000,qI 152000]++rq 7 (qI 0)++[qB true],none⟩),zvB28,(24,⟨210,(0,0),0,[qI 32,qI 268435456,qL (.slu 611 10)],none⟩),(25,⟨171,(0,0),0,[qI 1,qI 0,qI 0,qI 0,qI 1,qI 16,qL (.slu 337 0),qI 152000],none⟩),zvR 26 152000,zvR 27 152000,(28,⟨171,(0,0),0,[qI 1,qI 0,qI 0,qI 0,qI 1,qI 16,qL (.slu 190 0),qI 152000],none⟩),zvR 29 152000,zvR 30 152000,(31,⟨27,(0,0),0,[qL (.ptr 14 0),qI 152000,qI 19,qB false],none⟩),zvB20,zvB29,(604,⟨66,(0,0),8,[],none⟩),(611,⟨79,(0,0),11,zvO [80000,88000,96000,104000,112000,120000,128000,136000,144000,152000],none⟩)]
def zvM26 (vn ve:Int):List (Nat×PB2):=[(14,⟨97,(0,0),0,zvPar++[qO,qI 1073741824,qI 0,qI 0,qI 77,qS (mvV vn),qS (mvV ve),qI 0,qS (6*mvW vn),qS (6*mvW ve)]++rq 7 (qI 0)++[qI 267414331,qI (-23395723),qI 322122547,qI 0,qI 0,qI 0,qI 0,qI 0]++rq 300 (qH)++[qL (.ptr 21 0),qL (.ptr 22 0),qL (.slu 621 0),qL (.ptr 25 0),qL (.ptr 26 0),qL (.ptr 27 0),qL (.ptr 28 0),qL (.ptr 29 0),qL (.ptr 30 0),qL (.ptr 23 0),qI 3,qI 2,qB true,qB false,qL (.ptr 24 0),qB true,qI 10,qI 0,qI 0,qI (-842384860),qB true,qB true,qB true,qI 112000,qI 160000,qI 3,qI 1073741824,qI 0,qI 0,qI 77,qH,qH,qI 0,qI 0,qI 0,qI 0,qL .nilsl],none⟩),zvB1,(22,⟨207,(0,0),0,[qI 8000,qI 160000]++rq 7 (qI 0)++[qB true],none⟩),zvB28,(24,⟨210,(0,0),0,[qI 32,qI 268435456,qL (.slu 628 11)],none⟩),(25,⟨171,(0,0),0,[qI 1,qI 0,qI 0,qI 0,qI 1,qI 16,qL (.slu 337 0),qI 160000],none⟩),zvR 26 160000,zvR 27 160000,(28,⟨171,(0,0),0,[qI 1,qI 0,qI 0,qI 0,qI 1,qI 16,qL (.slu 190 0),qI 160000],none⟩),zvR 29 160000,zvR 30 160000,(31,⟨27,(0,0),0,[qL (.ptr 14 0),qI 160000,qI 20,qB false],none⟩),zvB20,zvB29,(621,⟨66,(0,0),8,[],none⟩),(628,⟨79,(0,0),11,zvO [80000,88000,96000,104000,112000,120000,128000,136000,144000,152000,160000],none⟩)]
theorem zv_a0 (s:Asg) {vn:Int} {ve:Int}:ToP Tryz.prog 108 (c1 ((bodyF Tryz.prog 14))) (filS2 s ⟨[(0,.agg (zvPar)),(1,.one (qI 0)),(2,.agg [qI 0,qI 0,qI 0,qS vn,qS ve,qI 0,qI 1000,qI 100])],[],4⟩) .normal (Fil2 ⟨[(1,.one (qI 0)),(3,.one (qL (.ptr 4 0))),(5,.one (qL (.ptr 5 0)))],zvM0 vn ve,6⟩):=
 ToP.run2 (z:=⟨false,false,false⟩) (n:=20000) (dec:=[]) (mask:=[]) (os:=[]) (es:=[.oi vn vn,.oi ve ve]) soundAF (fun dead=>by kernel_rfl) ae_nil (aob_cons rfl (aob_cons rfl aob_nil)) (fun s=>canB_ok (by kernel_rfl)) (by kernel_rfl)
theorem zv_a1 (s:Asg) {vn:Int} {ve:Int}:ToP Tryz.prog 108 (c1 (c2 ((bodyF Tryz.prog 14)))) (filS2 s ⟨[(1,.one (qI 0)),(3,.one (qL (.ptr 4 0))),(5,.one (qL (.ptr 5 0)))],zvM0 vn ve,6⟩) .normal (Fil2 ⟨[(1,.one (qI 0)),(3,.one (qL (.ptr 4 0))),(5,.one (qL (.ptr 5 0))),(7,.one (qL (.ptr 31 0)))],zvM1 vn ve,32⟩):=
 ToP.run2 (z:=⟨false,false,false⟩) (n:=20000) (dec:=[]) (mask:=[]) (os:=[]) (es:=[.oi vn vn,.oi ve ve]) soundAF (fun dead=>by kernel_rfl) ae_nil (aob_cons rfl (aob_cons rfl aob_nil)) (fun s=>canB_ok (by kernel_rfl)) (by kernel_rfl)
theorem zv_a2 (s:Asg) {vn:Int} {ve:Int}:ToP Tryz.prog 108 (c1 (c2 (c2 ((bodyF Tryz.prog 14))))) (filS2 s ⟨[(1,.one (qI 0)),(3,.one (qL (.ptr 4 0))),(5,.one (qL (.ptr 5 0))),(7,.one (qL (.ptr 31 0)))],zvM1 vn ve,32⟩) .normal (Fil2 ⟨[(1,.one (qI 0)),(3,.one (qL (.ptr 4 0))),(5,.one (qL (.ptr 5 0))),(7,.one (qL (.ptr 31 0)))],zvM1 vn ve,32⟩):=
 ToP.run2 (z:=⟨false,false,false⟩) (n:=20000) (dec:=[]) (mask:=[]) (os:=[]) (es:=[.oi vn vn,.oi ve ve]) soundAF (fun dead=>by kernel_rfl) ae_nil (aob_cons rfl (aob_cons rfl aob_nil)) (fun s=>canB_ok (by kernel_rfl)) (by kernel_rfl)
theorem zv_a3 (s:Asg) {vn:Int} {ve:Int}:ToP Tryz.prog 108 (c1 (c2 (c2 (c2 ((bodyF Tryz.prog 14)))))) (filS2 s ⟨[(1,.one (qI 0)),(3,.one (qL (.ptr 4 0))),(5,.one (qL (.ptr 5 0))),(7,.one (qL (.ptr 31 0)))],zvM1 vn ve,32⟩) .normal (Fil2 ⟨[(1,.one (qI 0)),(3,.one (qL (.ptr 4 0))),(5,.one (qL (.ptr 5 0))),(7,.one (qL (.ptr 31 0))),(8,.one (qI 0))],zvM1 vn ve,32⟩):=
 ToP.run2 (z:=⟨false,false,false⟩) (n:=20000) (dec:=[]) (mask:=[]) (os:=[]) (es:=[.oi vn vn,.oi ve ve]) soundAF (fun dead=>by kernel_rfl) ae_nil (aob_cons rfl (aob_cons rfl aob_nil)) (fun s=>canB_ok (by kernel_rfl)) (by kernel_rfl)
theorem zv_a4 (s:Asg) {vn:Int} {ve:Int}:ToP Tryz.prog 108 (c1 (c1 (c2 (c2 (c2 (c2 ((bodyF Tryz.prog 14)))))))) (filS2 s ⟨[(1,.one (qI 0)),(3,.one (qL (.ptr 4 0))),(5,.one (qL (.ptr 5 0))),(7,.one (qL (.ptr 31 0))),(8,.one (qI 0))],zvM1 vn ve,32⟩) .normal (Fil2 ⟨[(1,.one (qI 0)),(3,.one (qL (.ptr 4 0))),(5,.one (qL (.ptr 5 0))),(7,.one (qL (.ptr 31 0))),(8,.one (qI 0)),(9,.one (qI 0))],zvM1 vn ve,32⟩):=
 ToP.run2 (z:=⟨false,false,false⟩) (n:=20000) (dec:=[]) (mask:=[]) (os:=[]) (es:=[.oi vn vn,.oi ve ve]) soundAF (fun dead=>by kernel_rfl) ae_nil (aob_cons rfl (aob_cons rfl aob_nil)) (fun s=>canB_ok (by kernel_rfl)) (by kernel_rfl)
theorem zv_r1 (s:Asg) {vn:Int} {ve:Int}:ToP Tryz.prog 108 (c1 (c1 (c2 (c1 (c2 (c2 (c2 (c2 ((bodyF Tryz.prog 14)))))))))) (filS2 s ⟨[(1,.one (qI 0)),(3,.one (qL (.ptr 4 0))),(5,.one (qL (.ptr 5 0))),(7,.one (qL (.ptr 31 0))),(8,.one (qI 0)),(9,.one (qI 0))],zvM1 vn ve,32⟩) .normal (Fil2 ⟨[(1,.one (qI 0)),(3,.one (qL (.ptr 4 0))),(5,.one (qL (.ptr 5 0))),(7,.one (qL (.ptr 31 0))),(8,.one (qI 0)),(9,.one (qI 1))],zvM2 vn ve,44⟩):=
 ToP.run2 (z:=⟨false,false,false⟩) (n:=20000) (dec:=[]) (mask:=(mskC 3 [])) (os:=[]) (es:=[.oi vn vn,.oi ve ve]) soundAF (fun dead=>by kernel_rfl) ae_nil (aob_cons rfl (aob_cons rfl aob_nil)) (fun s=>canB_ok (by kernel_rfl)) (by kernel_rfl)
theorem zv_r2 (s:Asg) {vn:Int} {ve:Int}:ToP Tryz.prog 108 (c1 (c1 (c2 (c1 (c2 (c2 (c2 (c2 ((bodyF Tryz.prog 14)))))))))) (filS2 s ⟨[(1,.one (qI 0)),(3,.one (qL (.ptr 4 0))),(5,.one (qL (.ptr 5 0))),(7,.one (qL (.ptr 31 0))),(8,.one (qI 0)),(9,.one (qI 1))],zvM2 vn ve,44⟩) .normal (Fil2 ⟨[(1,.one (qI 0)),(3,.one (qL (.ptr 4 0))),(5,.one (qL (.ptr 5 0))),(7,.one (qL (.ptr 31 0))),(8,.one (qI 0)),(9,.one (qI 2))],zvM3 vn ve,56⟩):=
 ToP.run2 (z:=⟨false,false,false⟩) (n:=20000) (dec:=[]) (mask:=(mskC 3 [])) (os:=[]) (es:=[.oi vn vn,.oi ve ve]) soundAF (fun dead=>by kernel_rfl) ae_nil (aob_cons rfl (aob_cons rfl aob_nil)) (fun s=>canB_ok (by kernel_rfl)) (by kernel_rfl)
theorem zv_r3 (s:Asg) {vn:Int} {ve:Int}:ToP Tryz.prog 108 (c1 (c1 (c2 (c1 (c2 (c2 (c2 (c2 ((bodyF Tryz.prog 14)))))))))) (filS2 s ⟨[(1,.one (qI 0)),(3,.one (qL (.ptr 4 0))),(5,.one (qL (.ptr 5 0))),(7,.one (qL (.ptr 31 0))),(8,.one (qI 0)),(9,.one (qI 2))],zvM3 vn ve,56⟩) .normal (Fil2 ⟨[(1,.one (qI 0)),(3,.one (qL (.ptr 4 0))),(5,.one (qL (.ptr 5 0))),(7,.one (qL (.ptr 31 0))),(8,.one (qI 0)),(9,.one (qI 3))],zvM4 vn ve,68⟩):=
 ToP.run2 (z:=⟨false,false,false⟩) (n:=20000) (dec:=[]) (mask:=(mskC 3 [])) (os:=[]) (es:=[.oi vn vn,.oi ve ve]) soundAF (fun dead=>by kernel_rfl) ae_nil (aob_cons rfl (aob_cons rfl aob_nil)) (fun s=>canB_ok (by kernel_rfl)) (by kernel_rfl)
theorem zv_r4 (s:Asg) {vn:Int} {ve:Int}:ToP Tryz.prog 108 (c1 (c1 (c2 (c1 (c2 (c2 (c2 (c2 ((bodyF Tryz.prog 14)))))))))) (filS2 s ⟨[(1,.one (qI 0)),(3,.one (qL (.ptr 4 0))),(5,.one (qL (.ptr 5 0))),(7,.one (qL (.ptr 31 0))),(8,.one (qI 0)),(9,.one (qI 3))],zvM4 vn ve,68⟩) .normal (Fil2 ⟨[(1,.one (qI 0)),(3,.one (qL (.ptr 4 0))),(5,.one (qL (.ptr 5 0))),(7,.one (qL (.ptr 31 0))),(8,.one (qI 0)),(9,.one (qI 4))],zvM5 vn ve,80⟩):=
 ToP.run2 (z:=⟨false,false,false⟩) (n:=20000) (dec:=[]) (mask:=(mskC 3 [])) (os:=[]) (es:=[.oi vn vn,.oi ve ve]) soundAF (fun dead=>by kernel_rfl) ae_nil (aob_cons rfl (aob_cons rfl aob_nil)) (fun s=>canB_ok (by kernel_rfl)) (by kernel_rfl)
theorem zv_r5 (s:Asg) {vn:Int} {ve:Int}:ToP Tryz.prog 108 (c1 (c1 (c2 (c1 (c2 (c2 (c2 (c2 ((bodyF Tryz.prog 14)))))))))) (filS2 s ⟨[(1,.one (qI 0)),(3,.one (qL (.ptr 4 0))),(5,.one (qL (.ptr 5 0))),(7,.one (qL (.ptr 31 0))),(8,.one (qI 0)),(9,.one (qI 4))],zvM5 vn ve,80⟩) .normal (Fil2 ⟨[(1,.one (qI 0)),(3,.one (qL (.ptr 4 0))),(5,.one (qL (.ptr 5 0))),(7,.one (qL (.ptr 31 0))),(8,.one (qI 0)),(9,.one (qI 5))],zvM6 vn ve,92⟩):=
 ToP.run2 (z:=⟨false,false,false⟩) (n:=20000) (dec:=[]) (mask:=(mskC 3 [])) (os:=[]) (es:=[.oi vn vn,.oi ve ve]) soundAF (fun dead=>by kernel_rfl) ae_nil (aob_cons rfl (aob_cons rfl aob_nil)) (fun s=>canB_ok (by kernel_rfl)) (by kernel_rfl)
theorem zv_r6 (s:Asg) {vn:Int} {ve:Int}:ToP Tryz.prog 108 (c1 (c1 (c2 (c1 (c2 (c2 (c2 (c2 ((bodyF Tryz.prog 14)))))))))) (filS2 s ⟨[(1,.one (qI 0)),(3,.one (qL (.ptr 4 0))),(5,.one (qL (.ptr 5 0))),(7,.one (qL (.ptr 31 0))),(8,.one (qI 0)),(9,.one (qI 5))],zvM6 vn ve,92⟩) .normal (Fil2 ⟨[(1,.one (qI 0)),(3,.one (qL (.ptr 4 0))),(5,.one (qL (.ptr 5 0))),(7,.one (qL (.ptr 31 0))),(8,.one (qI 0)),(9,.one (qI 6))],zvM7 vn ve,104⟩):=
 ToP.run2 (z:=⟨false,false,false⟩) (n:=20000) (dec:=[]) (mask:=(mskC 3 [])) (os:=[]) (es:=[.oi vn vn,.oi ve ve]) soundAF (fun dead=>by kernel_rfl) ae_nil (aob_cons rfl (aob_cons rfl aob_nil)) (fun s=>canB_ok (by kernel_rfl)) (by kernel_rfl)
theorem zv_r7 (s:Asg) {vn:Int} {ve:Int}:ToP Tryz.prog 108 (c1 (c1 (c2 (c1 (c2 (c2 (c2 (c2 ((bodyF Tryz.prog 14)))))))))) (filS2 s ⟨[(1,.one (qI 0)),(3,.one (qL (.ptr 4 0))),(5,.one (qL (.ptr 5 0))),(7,.one (qL (.ptr 31 0))),(8,.one (qI 0)),(9,.one (qI 6))],zvM7 vn ve,104⟩) .normal (Fil2 ⟨[(1,.one (qI 0)),(3,.one (qL (.ptr 4 0))),(5,.one (qL (.ptr 5 0))),(7,.one (qL (.ptr 31 0))),(8,.one (qI 0)),(9,.one (qI 7))],zvM8 vn ve,116⟩):=
 ToP.run2 (z:=⟨false,false,false⟩) (n:=20000) (dec:=[]) (mask:=(mskC 3 [])) (os:=[]) (es:=[.oi vn vn,.oi ve ve]) soundAF (fun dead=>by kernel_rfl) ae_nil (aob_cons rfl (aob_cons rfl aob_nil)) (fun s=>canB_ok (by kernel_rfl)) (by kernel_rfl)
theorem zv_r8 (s:Asg) {vn:Int} {ve:Int}:ToP Tryz.prog 108 (c1 (c1 (c2 (c1 (c2 (c2 (c2 (c2 ((bodyF Tryz.prog 14)))))))))) (filS2 s ⟨[(1,.one (qI 0)),(3,.one (qL (.ptr 4 0))),(5,.one (qL (.ptr 5 0))),(7,.one (qL (.ptr 31 0))),(8,.one (qI 0)),(9,.one (qI 7))],zvM8 vn ve,116⟩) .normal (Fil2 ⟨[(1,.one (qI 0)),(3,.one (qL (.ptr 4 0))),(5,.one (qL (.ptr 5 0))),(7,.one (qL (.ptr 31 0))),(8,.one (qI 0)),(9,.one (qI 8))],zvM9 vn ve,128⟩):=
 ToP.run2 (z:=⟨false,false,false⟩) (n:=20000) (dec:=[]) (mask:=(mskC 3 [])) (os:=[]) (es:=[.oi vn vn,.oi ve ve]) soundAF (fun dead=>by kernel_rfl) ae_nil (aob_cons rfl (aob_cons rfl aob_nil)) (fun s=>canB_ok (by kernel_rfl)) (by kernel_rfl)
theorem zv_r9 (s:Asg) {vn:Int} {ve:Int}:ToP Tryz.prog 108 (c1 (c1 (c2 (c1 (c2 (c2 (c2 (c2 ((bodyF Tryz.prog 14)))))))))) (filS2 s ⟨[(1,.one (qI 0)),(3,.one (qL (.ptr 4 0))),(5,.one (qL (.ptr 5 0))),(7,.one (qL (.ptr 31 0))),(8,.one (qI 0)),(9,.one (qI 8))],zvM9 vn ve,128⟩) .normal (Fil2 ⟨[(1,.one (qI 0)),(3,.one (qL (.ptr 4 0))),(5,.one (qL (.ptr 5 0))),(7,.one (qL (.ptr 31 0))),(8,.one (qI 0)),(9,.one (qI 9))],zvM10 vn ve,140⟩):=
 ToP.run2 (z:=⟨false,false,false⟩) (n:=20000) (dec:=[]) (mask:=(mskC 3 [])) (os:=[]) (es:=[.oi vn vn,.oi ve ve]) soundAF (fun dead=>by kernel_rfl) ae_nil (aob_cons rfl (aob_cons rfl aob_nil)) (fun s=>canB_ok (by kernel_rfl)) (by kernel_rfl)
theorem zv_r10 (s:Asg) {vn:Int} {ve:Int}:ToP Tryz.prog 108 (c1 (c1 (c2 (c1 (c2 (c2 (c2 (c2 ((bodyF Tryz.prog 14)))))))))) (filS2 s ⟨[(1,.one (qI 0)),(3,.one (qL (.ptr 4 0))),(5,.one (qL (.ptr 5 0))),(7,.one (qL (.ptr 31 0))),(8,.one (qI 0)),(9,.one (qI 9))],zvM10 vn ve,140⟩) .normal (Fil2 ⟨[(1,.one (qI 0)),(3,.one (qL (.ptr 4 0))),(5,.one (qL (.ptr 5 0))),(7,.one (qL (.ptr 31 0))),(8,.one (qI 0)),(9,.one (qI 10))],zvM11 vn ve,161⟩):=
 ToP.run2 (z:=⟨false,false,false⟩) (n:=20000) (dec:=[]) (mask:=(mskC 4 [])) (os:=[]) (es:=[.oi vn vn,.oi ve ve]) soundAF (fun dead=>by kernel_rfl) ae_nil (aob_cons rfl (aob_cons rfl aob_nil)) (fun s=>canB_ok (by kernel_rfl)) (by kernel_rfl)
theorem zv_r11 (s:Asg) {vn:Int} {ve:Int}:ToP Tryz.prog 108 (c1 (c1 (c2 (c1 (c2 (c2 (c2 (c2 ((bodyF Tryz.prog 14)))))))))) (filS2 s ⟨[(1,.one (qI 0)),(3,.one (qL (.ptr 4 0))),(5,.one (qL (.ptr 5 0))),(7,.one (qL (.ptr 31 0))),(8,.one (qI 0)),(9,.one (qI 10))],zvM11 vn ve,161⟩) .normal (Fil2 ⟨[(1,.one (qI 0)),(3,.one (qL (.ptr 4 0))),(5,.one (qL (.ptr 5 0))),(7,.one (qL (.ptr 31 0))),(8,.one (qI 0)),(9,.one (qI 11))],zvM12 vn ve,176⟩):=
 ToP.run2 (z:=⟨false,false,false⟩) (n:=20000) (dec:=[]) (mask:=(mskC 6 [])) (os:=[]) (es:=[.oi vn vn,.oi ve ve]) soundAF (fun dead=>by kernel_rfl) ae_nil (aob_cons rfl (aob_cons rfl aob_nil)) (fun s=>canB_ok (by kernel_rfl)) (by kernel_rfl)
theorem zv_a4e (s:Asg) {vn:Int} {ve:Int}:ToP Tryz.prog 108 (c1 (c1 (c2 (c1 (c2 (c2 (c2 (c2 ((bodyF Tryz.prog 14)))))))))) (filS2 s ⟨[(1,.one (qI 0)),(3,.one (qL (.ptr 4 0))),(5,.one (qL (.ptr 5 0))),(7,.one (qL (.ptr 31 0))),(8,.one (qI 0)),(9,.one (qI 11))],zvM12 vn ve,176⟩) (.exit 0) (Fil2 ⟨[(1,.one (qI 0)),(3,.one (qL (.ptr 4 0))),(5,.one (qL (.ptr 5 0))),(7,.one (qL (.ptr 31 0))),(8,.one (qI 0))],zvM12 vn ve,176⟩):=
 ToP.run2 (z:=⟨false,false,false⟩) (n:=20000) (dec:=[]) (mask:=[]) (os:=[]) (es:=[.oi vn vn,.oi ve ve]) soundAF (fun dead=>by kernel_rfl) ae_nil (aob_cons rfl (aob_cons rfl aob_nil)) (fun s=>canB_ok (by kernel_rfl)) (by kernel_rfl)
theorem zv_b5 (s:Asg) {vn:Int} {ve:Int}:ToP Tryz.prog 108 (c1 (c2 (c2 (c2 (c2 (c2 ((bodyF Tryz.prog 14)))))))) (filS2 s ⟨[(1,.one (qI 0)),(3,.one (qL (.ptr 4 0))),(5,.one (qL (.ptr 5 0))),(7,.one (qL (.ptr 31 0))),(8,.one (qI 0))],zvM12 vn ve,176⟩) .normal (Fil2 ⟨[(1,.one (qI 0)),(3,.one (qL (.ptr 4 0))),(5,.one (qL (.ptr 5 0))),(7,.one (qL (.ptr 31 0))),(8,.one (qI 0)),(10,.one (qL (.ptr 176 0)))],zvM13 vn ve,177⟩):=
 ToP.run2 (z:=⟨false,false,false⟩) (n:=20000) (dec:=[]) (mask:=[]) (os:=[]) (es:=[.oi vn vn,.oi ve ve]) soundAF (fun dead=>by kernel_rfl) ae_nil (aob_cons rfl (aob_cons rfl aob_nil)) (fun s=>canB_ok (by kernel_rfl)) (by kernel_rfl)
theorem zv_b6 (s:Asg) {vn:Int} {ve:Int}:ToP Tryz.prog 108 (c1 (c2 (c2 (c2 (c2 (c2 (c2 ((bodyF Tryz.prog 14))))))))) (filS2 s ⟨[(1,.one (qI 0)),(3,.one (qL (.ptr 4 0))),(5,.one (qL (.ptr 5 0))),(7,.one (qL (.ptr 31 0))),(8,.one (qI 0)),(10,.one (qL (.ptr 176 0)))],zvM13 vn ve,177⟩) .normal (Fil2 ⟨[(1,.one (qI 0)),(3,.one (qL (.ptr 4 0))),(5,.one (qL (.ptr 5 0))),(7,.one (qL (.ptr 31 0))),(8,.one (qI 0)),(10,.one (qL (.ptr 176 0))),(11,.one (qI (-93701651))),(12,.one (qI 0))],zvM13 vn ve,185⟩):=
 ToP.run2 (z:=⟨false,false,false⟩) (n:=20000) (dec:=[]) (mask:=[]) (os:=[]) (es:=[.oi vn vn,.oi ve ve]) soundAF (fun dead=>by kernel_rfl) ae_nil (aob_cons rfl (aob_cons rfl aob_nil)) (fun s=>canB_ok (by kernel_rfl)) (by kernel_rfl)
theorem zv_b7 (s:Asg) {vn:Int} {ve:Int}:ToP Tryz.prog 108 (c1 (c2 (c2 (c2 (c2 (c2 (c2 (c2 ((bodyF Tryz.prog 14)))))))))) (filS2 s ⟨[(1,.one (qI 0)),(3,.one (qL (.ptr 4 0))),(5,.one (qL (.ptr 5 0))),(7,.one (qL (.ptr 31 0))),(8,.one (qI 0)),(10,.one (qL (.ptr 176 0))),(11,.one (qI (-93701651))),(12,.one (qI 0))],zvM13 vn ve,185⟩) .normal (Fil2 ⟨[(1,.one (qI 0)),(3,.one (qL (.ptr 4 0))),(5,.one (qL (.ptr 5 0))),(7,.one (qL (.ptr 31 0))),(8,.one (qI 0)),(10,.one (qL (.ptr 176 0))),(11,.one (qI (-93701651)))],zvM13 vn ve,185⟩):=
 ToP.run2 (z:=⟨false,false,false⟩) (n:=20000) (dec:=[]) (mask:=[]) (os:=[]) (es:=[.oi vn vn,.oi ve ve]) soundAF (fun dead=>by kernel_rfl) ae_nil (aob_cons rfl (aob_cons rfl aob_nil)) (fun s=>canB_ok (by kernel_rfl)) (by kernel_rfl)
theorem zv_b8 (s:Asg) {vn:Int} {ve:Int}:ToP Tryz.prog 108 (c1 (c2 (c2 (c2 (c2 (c2 (c2 (c2 (c2 ((bodyF Tryz.prog 14))))))))))) (filS2 s ⟨[(1,.one (qI 0)),(3,.one (qL (.ptr 4 0))),(5,.one (qL (.ptr 5 0))),(7,.one (qL (.ptr 31 0))),(8,.one (qI 0)),(10,.one (qL (.ptr 176 0))),(11,.one (qI (-93701651)))],zvM13 vn ve,185⟩) .normal (Fil2 ⟨[(5,.one (qL (.ptr 5 0))),(7,.one (qL (.ptr 31 0))),(8,.one (qI 0)),(10,.one (qL (.ptr 176 0))),(13,.one (qL (.ptr 185 0)))],zvM14 vn ve,186⟩):=
 ToP.run2 (z:=⟨false,false,false⟩) (n:=20000) (dec:=[]) (mask:=[]) (os:=[]) (es:=[.oi vn vn,.oi ve ve]) soundAF (fun dead=>by kernel_rfl) ae_nil (aob_cons rfl (aob_cons rfl aob_nil)) (fun s=>canB_ok (by kernel_rfl)) (by kernel_rfl)
theorem zv_b9 (s:Asg) {vn:Int} {ve:Int}:ToP Tryz.prog 108 (c1 (c2 (c2 (c2 (c2 (c2 (c2 (c2 (c2 (c2 ((bodyF Tryz.prog 14)))))))))))) (filS2 s ⟨[(5,.one (qL (.ptr 5 0))),(7,.one (qL (.ptr 31 0))),(8,.one (qI 0)),(10,.one (qL (.ptr 176 0))),(13,.one (qL (.ptr 185 0)))],zvM14 vn ve,186⟩) .normal (Fil2 ⟨[(5,.one (qL (.ptr 5 0))),(7,.one (qL (.ptr 31 0))),(8,.one (qI 0)),(14,.one (qL (.ptr 186 0)))],zvM15 vn ve,187⟩):=
 ToP.run2 (z:=⟨false,false,false⟩) (n:=20000) (dec:=[]) (mask:=[]) (os:=[]) (es:=[.oi vn vn,.oi ve ve]) soundAF (fun dead=>by kernel_rfl) ae_nil (aob_cons rfl (aob_cons rfl aob_nil)) (fun s=>canB_ok (by kernel_rfl)) (by kernel_rfl)
theorem zv_b10 (s:Asg) {vn:Int} {ve:Int}:ToP Tryz.prog 108 (c1 (c2 (c2 (c2 (c2 (c2 (c2 (c2 (c2 (c2 (c2 ((bodyF Tryz.prog 14))))))))))))) (filS2 s ⟨[(5,.one (qL (.ptr 5 0))),(7,.one (qL (.ptr 31 0))),(8,.one (qI 0)),(14,.one (qL (.ptr 186 0)))],zvM15 vn ve,187⟩) .normal (Fil2 ⟨[(5,.one (qL (.ptr 5 0))),(7,.one (qL (.ptr 31 0))),(8,.one (qI 0))],zvM16 vn ve,197⟩):=
 ToP.run2 (z:=⟨false,false,false⟩) (n:=20000) (dec:=[]) (mask:=(mskC 1 [])) (os:=[]) (es:=[.oi vn vn,.oi ve ve]) soundAF (fun dead=>by kernel_rfl) ae_nil (aob_cons rfl (aob_cons rfl aob_nil)) (fun s=>canB_ok (by kernel_rfl)) (by kernel_rfl)
theorem zv_c0 (s:Asg) {vn:Int} {ve:Int}:ToP Tryz.prog 108 (c1 (c1 (c2 (c2 (c2 (c2 (c2 (c2 (c2 (c2 (c2 (c2 (c2 ((bodyF Tryz.prog 14))))))))))))))) (filS2 s ⟨[(5,.one (qL (.ptr 5 0))),(7,.one (qL (.ptr 31 0))),(8,.one (qI 0))],zvM16 vn ve,197⟩) .normal (Fil2 ⟨[(5,.one (qL (.ptr 5 0))),(7,.one (qL (.ptr 31 0))),(8,.one (qI 0)),(15,.one (qI 0))],zvM16 vn ve,197⟩):=
 ToP.run2 (z:=⟨false,false,false⟩) (n:=20000) (dec:=[]) (mask:=[]) (os:=[]) (es:=[.oi vn vn,.oi ve ve]) soundAF (fun dead=>by kernel_rfl) ae_nil (aob_cons rfl (aob_cons rfl aob_nil)) (fun s=>canB_ok (by kernel_rfl)) (by kernel_rfl)
theorem zv_h1 (s:Asg) {vn:Int} {ve:Int}:ToP Tryz.prog 108 (c1 (c1 (c2 (c1 (c2 (c2 (c2 (c2 (c2 (c2 (c2 (c2 (c2 (c2 (c2 ((bodyF Tryz.prog 14))))))))))))))))) (filS2 s ⟨[(5,.one (qL (.ptr 5 0))),(7,.one (qL (.ptr 31 0))),(8,.one (qI 0)),(15,.one (qI 0))],zvM16 vn ve,197⟩) .normal (Fil2 ⟨[(5,.one (qL (.ptr 5 0))),(7,.one (qL (.ptr 31 0))),(8,.one (qI 0)),(15,.one (qI 1))],zvM17 vn ve,318⟩):=
 ToP.run2 (z:=⟨false,false,false⟩) (n:=20000) (dec:=[]) (mask:=(mskC 32 [])) (os:=[]) (es:=[.oi vn vn,.oi ve ve]) soundAF (fun dead=>by kernel_rfl) ae_nil (aob_cons rfl (aob_cons rfl aob_nil)) (fun s=>canB_ok (by kernel_rfl)) (by kernel_rfl)
theorem zv_h2 (s:Asg) {vn:Int} {ve:Int}:ToP Tryz.prog 108 (c1 (c1 (c2 (c1 (c2 (c2 (c2 (c2 (c2 (c2 (c2 (c2 (c2 (c2 (c2 ((bodyF Tryz.prog 14))))))))))))))))) (filS2 s ⟨[(5,.one (qL (.ptr 5 0))),(7,.one (qL (.ptr 31 0))),(8,.one (qI 0)),(15,.one (qI 1))],zvM17 vn ve,318⟩) .normal (Fil2 ⟨[(5,.one (qL (.ptr 5 0))),(7,.one (qL (.ptr 31 0))),(8,.one (qI 0)),(15,.one (qI 2))],zvM18 vn ve,334⟩):=
 ToP.run2 (z:=⟨false,false,false⟩) (n:=20000) (dec:=[]) (mask:=(mskC 8 [])) (os:=[]) (es:=[.oi vn vn,.oi ve ve]) soundAF (fun dead=>by kernel_rfl) ae_nil (aob_cons rfl (aob_cons rfl aob_nil)) (fun s=>canB_ok (by kernel_rfl)) (by kernel_rfl)
theorem zv_c1 (s:Asg) {vn:Int} {ve:Int}:ToP Tryz.prog 108 (c1 (c1 (c2 (c1 (c2 (c2 (c2 (c2 (c2 (c2 (c2 (c2 (c2 (c2 (c2 ((bodyF Tryz.prog 14))))))))))))))))) (filS2 s ⟨[(5,.one (qL (.ptr 5 0))),(7,.one (qL (.ptr 31 0))),(8,.one (qI 0)),(15,.one (qI 2))],zvM18 vn ve,334⟩) (.exit 2) (Fil2 ⟨[(5,.one (qL (.ptr 5 0))),(7,.one (qL (.ptr 31 0))),(8,.one (qI 0))],zvM18 vn ve,334⟩):=
 ToP.run2 (z:=⟨false,false,false⟩) (n:=20000) (dec:=[]) (mask:=[]) (os:=[]) (es:=[.oi vn vn,.oi ve ve]) soundAF (fun dead=>by kernel_rfl) ae_nil (aob_cons rfl (aob_cons rfl aob_nil)) (fun s=>canB_ok (by kernel_rfl)) (by kernel_rfl)
theorem zv_c2 (s:Asg) {vn:Int} {ve:Int} (hn:MvH vn) (he:MvH ve):ToP Tryz.prog 108 (c1 (c2 (c2 (c2 (c2 (c2 (c2 (c2 (c2 (c2 (c2 (c2 (c2 ((bodyF Tryz.prog 14))))))))))))))) (filS2 s ⟨[(5,.one (qL (.ptr 5 0))),(7,.one (qL (.ptr 31 0))),(8,.one (qI 0))],zvM18 vn ve,334⟩) .normal (Fil2 ⟨[(7,.one (qL (.ptr 31 0))),(8,.one (qI 0))],zvM19 vn ve,344⟩):=
 ToP.run2 (z:=⟨false,false,false⟩) (n:=20000) (dec:=[]) (mask:=(mskC 17 (mskO 8 []))) (os:=(ra 1 (decide (ve>1000000),false) (ra 3 (decide (ve < -1000000),false) (ra 1 (decide (vn>1000000),false) (ra 3 (decide (vn < -1000000),false) []))))) (es:=[.oi vn vn,.oi ve ve]) soundAF (fun dead=>by kernel_rfl) (ra_ok (decide_eq_false (by have:=hn.1;have:=hn.2;have:=he.1;have:=he.2;omega)) (ra_ok (decide_eq_false (by have:=hn.1;have:=hn.2;have:=he.1;have:=he.2;omega)) (ra_ok (decide_eq_false (by have:=hn.1;have:=hn.2;have:=he.1;have:=he.2;omega)) (ra_ok (decide_eq_false (by have:=hn.1;have:=hn.2;have:=he.1;have:=he.2;omega)) ae_nil _) _) _) _) (aob_cons rfl (aob_cons rfl aob_nil)) (fun s=>canB_ok (by kernel_rfl)) (by kernel_rfl)
theorem zv_d0 (s:Asg) {vn:Int} {ve:Int}:ToP Tryz.prog 108 (c1 (c1 (c2 (c2 (c2 (c2 (c2 (c2 (c2 (c2 (c2 (c2 (c2 (c2 (c2 ((bodyF Tryz.prog 14))))))))))))))))) (filS2 s ⟨[(7,.one (qL (.ptr 31 0))),(8,.one (qI 0))],zvM19 vn ve,344⟩) .normal (Fil2 ⟨[(7,.one (qL (.ptr 31 0))),(8,.one (qI 0)),(16,.one (qI 0))],zvM19 vn ve,344⟩):=
 ToP.run2 (z:=⟨false,false,false⟩) (n:=20000) (dec:=[]) (mask:=[]) (os:=[]) (es:=[.oi vn vn,.oi ve ve]) soundAF (fun dead=>by kernel_rfl) ae_nil (aob_cons rfl (aob_cons rfl aob_nil)) (fun s=>canB_ok (by kernel_rfl)) (by kernel_rfl)
theorem zv_g1 (s:Asg) {vn:Int} {ve:Int} (hn:MvH vn) (he:MvH ve):ToP Tryz.prog 108 (c1 (c1 (c2 (c1 (c2 (c2 (c2 (c2 (c2 (c2 (c2 (c2 (c2 (c2 (c2 (c2 (c2 ((bodyF Tryz.prog 14))))))))))))))))))) (filS2 s ⟨[(7,.one (qL (.ptr 31 0))),(8,.one (qI 0)),(16,.one (qI 0))],zvM19 vn ve,344⟩) .normal (Fil2 ⟨[(7,.one (qL (.ptr 31 0))),(8,.one (qI 0)),(16,.one (qI 1))],zvM20 vn ve,532⟩):=
 ToP.run2 (z:=⟨false,false,false⟩) (n:=20000) (dec:=[]) (mask:=(mskC 77 (mskO 8 (mskC 5 [])))) (os:=(ra 1 (decide (ve>1000000),false) (ra 3 (decide (ve < -1000000),false) (ra 1 (decide (vn>1000000),false) (ra 3 (decide (vn < -1000000),false) []))))) (es:=[.oi (mvC (mvC (mvC (mvC (mvV vn))))) (mvV vn),.oi (mvC (mvC (mvC (mvC (mvV ve))))) (mvV ve)]) soundAF (fun dead=>by kernel_rfl) (ra_ok (decide_eq_false (by have:=hn.1;have:=hn.2;have:=he.1;have:=he.2;omega)) (ra_ok (decide_eq_false (by have:=hn.1;have:=hn.2;have:=he.1;have:=he.2;omega)) (ra_ok (decide_eq_false (by have:=hn.1;have:=hn.2;have:=he.1;have:=he.2;omega)) (ra_ok (decide_eq_false (by have:=hn.1;have:=hn.2;have:=he.1;have:=he.2;omega)) ae_nil _) _) _) _) (aob_cons hn.c (aob_cons he.c aob_nil)) (fun s=>canB_ok (by kernel_rfl)) (by kernel_rfl)
theorem zv_g2 (s:Asg) {vn:Int} {ve:Int} (hn:MvH vn) (he:MvH ve):ToP Tryz.prog 108 (c1 (c1 (c2 (c1 (c2 (c2 (c2 (c2 (c2 (c2 (c2 (c2 (c2 (c2 (c2 (c2 (c2 ((bodyF Tryz.prog 14))))))))))))))))))) (filS2 s ⟨[(7,.one (qL (.ptr 31 0))),(8,.one (qI 0)),(16,.one (qI 1))],zvM20 vn ve,532⟩) .normal (Fil2 ⟨[(7,.one (qL (.ptr 31 0))),(8,.one (qI 0)),(16,.one (qI 2))],zvM21 vn ve,549⟩):=
 ToP.run2 (z:=⟨false,false,false⟩) (n:=20000) (dec:=[]) (mask:=(mskC 10 [])) (os:=[]) (es:=[.oi (stC 4 (acL (mvV vn) (mvV ve) 0 0 0 0 0 0)) (mvV vn),.oi (stC 5 (acL (mvV vn) (mvV ve) 0 0 0 0 0 0)) (mvV ve),.oi (stC 7 (acL (mvV vn) (mvV ve) 0 0 0 0 0 0)) (1*mvW vn),.oi (stC 8 (acL (mvV vn) (mvV ve) 0 0 0 0 0 0)) (1*mvW ve)]) soundAF (fun dead=>by kernel_rfl) ae_nil (aob_cons (hn.v4 _ _ _ _ _ _) (aob_cons (he.v5 _ _ _ _ _ _) (aob_cons (hn.p7 _ _ _ _ _ (by have:=hn.wb;omega) (by have:=hn.wb;omega) (by omega)) (aob_cons (he.p8 _ _ _ _ _ (by have:=he.wb;omega) (by have:=he.wb;omega) (by omega)) aob_nil)))) (fun s=>canB_ok (by kernel_rfl)) (by kernel_rfl)
theorem zv_d1 (s:Asg) {vn:Int} {ve:Int}:ToP Tryz.prog 108 (c1 (c1 (c2 (c1 (c2 (c2 (c2 (c2 (c2 (c2 (c2 (c2 (c2 (c2 (c2 (c2 (c2 ((bodyF Tryz.prog 14))))))))))))))))))) (filS2 s ⟨[(7,.one (qL (.ptr 31 0))),(8,.one (qI 0)),(16,.one (qI 2))],zvM21 vn ve,549⟩) (.exit 4) (Fil2 ⟨[(7,.one (qL (.ptr 31 0)))],zvM21 vn ve,549⟩):=
 ToP.run2 (z:=⟨false,false,false⟩) (n:=20000) (dec:=[]) (mask:=[]) (os:=[]) (es:=[.oi (mvV vn) (mvV vn),.oi (mvV ve) (mvV ve),.oi (1*mvW vn) (1*mvW vn),.oi (1*mvW ve) (1*mvW ve)]) soundAF (fun dead=>by kernel_rfl) ae_nil (aob_cons rfl (aob_cons rfl (aob_cons rfl (aob_cons rfl aob_nil)))) (fun s=>canB_ok (by kernel_rfl)) (by kernel_rfl)
theorem zv_d2 (s:Asg) {vn:Int} {ve:Int}:ToP Tryz.prog 108 (c1 (c2 (c2 (c2 (c2 (c2 (c2 (c2 (c2 (c2 (c2 (c2 (c2 (c2 (c2 ((bodyF Tryz.prog 14))))))))))))))))) (filS2 s ⟨[(7,.one (qL (.ptr 31 0)))],zvM21 vn ve,549⟩) .normal (Fil2 ⟨[(6,.one (qL (.ptr 31 0)))],zvM21 vn ve,549⟩):=
 ToP.run2 (z:=⟨false,false,false⟩) (n:=20000) (dec:=[]) (mask:=[]) (os:=[]) (es:=[.oi (mvV vn) (mvV vn),.oi (mvV ve) (mvV ve),.oi (1*mvW vn) (1*mvW vn),.oi (1*mvW ve) (1*mvW ve)]) soundAF (fun dead=>by kernel_rfl) ae_nil (aob_cons rfl (aob_cons rfl (aob_cons rfl (aob_cons rfl aob_nil)))) (fun s=>canB_ok (by kernel_rfl)) (by kernel_rfl)
theorem zv_d3 (s:Asg) {vn:Int} {ve:Int}:ToP Tryz.prog 108 (c2 (c2 (c2 (c2 (c2 (c2 (c2 (c2 (c2 (c2 (c2 (c2 (c2 (c2 (c2 ((bodyF Tryz.prog 14))))))))))))))))) (filS2 s ⟨[(6,.one (qL (.ptr 31 0)))],zvM21 vn ve,549⟩) .ret (Fil2 ⟨[(6,.one (qL (.ptr 31 0)))],zvM21 vn ve,549⟩):=
 ToP.run2 (z:=⟨false,false,false⟩) (n:=20000) (dec:=[]) (mask:=[]) (os:=[]) (es:=[.oi (mvV vn) (mvV vn),.oi (mvV ve) (mvV ve),.oi (1*mvW vn) (1*mvW vn),.oi (1*mvW ve) (1*mvW ve)]) soundAF (fun dead=>by kernel_rfl) ae_nil (aob_cons rfl (aob_cons rfl (aob_cons rfl (aob_cons rfl aob_nil)))) (fun s=>canB_ok (by kernel_rfl)) (by kernel_rfl)
theorem zv_L1 (s:Asg) {vn:Int} {ve:Int}:RdP Tryz.prog 108 (c1 (c1 (c2 (c1 (c2 (c2 (c2 (c2 ((bodyF Tryz.prog 14)))))))))) 12 (filS2 s ⟨[(1,.one (qI 0)),(3,.one (qL (.ptr 4 0))),(5,.one (qL (.ptr 5 0))),(7,.one (qL (.ptr 31 0))),(8,.one (qI 0)),(9,.one (qI 0))],zvM1 vn ve,32⟩) (.exit 0) (Fil2 ⟨[(1,.one (qI 0)),(3,.one (qL (.ptr 4 0))),(5,.one (qL (.ptr 5 0))),(7,.one (qL (.ptr 31 0))),(8,.one (qI 0))],zvM12 vn ve,176⟩):=
 RdP.next (zv_r1 s) (by rintro x ⟨s,rfl⟩;exact RdP.next (zv_r2 s) (by rintro x ⟨s,rfl⟩;exact RdP.next (zv_r3 s) (by rintro x ⟨s,rfl⟩;exact RdP.next (zv_r4 s) (by rintro x ⟨s,rfl⟩;exact RdP.next (zv_r5 s) (by rintro x ⟨s,rfl⟩;exact RdP.next (zv_r6 s) (by rintro x ⟨s,rfl⟩;exact RdP.next (zv_r7 s) (by rintro x ⟨s,rfl⟩;exact RdP.next (zv_r8 s) (by rintro x ⟨s,rfl⟩;exact RdP.next (zv_r9 s) (by rintro x ⟨s,rfl⟩;exact RdP.next (zv_r10 s) (by rintro x ⟨s,rfl⟩;exact RdP.next (zv_r11 s) (by rintro x ⟨s,rfl⟩;exact RdP.last (by simp) (zv_a4e s))))))))))))
theorem zv_L2 (s:Asg) {vn:Int} {ve:Int}:RdP Tryz.prog 108 (c1 (c1 (c2 (c1 (c2 (c2 (c2 (c2 (c2 (c2 (c2 (c2 (c2 (c2 (c2 ((bodyF Tryz.prog 14))))))))))))))))) 3 (filS2 s ⟨[(5,.one (qL (.ptr 5 0))),(7,.one (qL (.ptr 31 0))),(8,.one (qI 0)),(15,.one (qI 0))],zvM16 vn ve,197⟩) (.exit 2) (Fil2 ⟨[(5,.one (qL (.ptr 5 0))),(7,.one (qL (.ptr 31 0))),(8,.one (qI 0))],zvM18 vn ve,334⟩):=
 RdP.next (zv_h1 s) (by rintro x ⟨s,rfl⟩;exact RdP.next (zv_h2 s) (by rintro x ⟨s,rfl⟩;exact RdP.last (by simp) (zv_c1 s)))
theorem zv_L3 (s:Asg) {vn:Int} {ve:Int} (hn:MvH vn) (he:MvH ve):RdP Tryz.prog 108 (c1 (c1 (c2 (c1 (c2 (c2 (c2 (c2 (c2 (c2 (c2 (c2 (c2 (c2 (c2 (c2 (c2 ((bodyF Tryz.prog 14))))))))))))))))))) 3 (filS2 s ⟨[(7,.one (qL (.ptr 31 0))),(8,.one (qI 0)),(16,.one (qI 0))],zvM19 vn ve,344⟩) (.exit 4) (Fil2 ⟨[(7,.one (qL (.ptr 31 0)))],zvM21 vn ve,549⟩):=
 RdP.next (zv_g1 s hn he) (by rintro x ⟨s,rfl⟩;exact RdP.next (zv_g2 s hn he) (by rintro x ⟨s,rfl⟩;exact RdP.last (by simp) (zv_d1 s)))
theorem zv_All (s:Asg) {vn:Int} {ve:Int} (hn:MvH vn) (he:MvH ve):ToP Tryz.prog 108 ((bodyF Tryz.prog 14)) (filS2 s ⟨[(0,.agg (zvPar)),(1,.one (qI 0)),(2,.agg [qI 0,qI 0,qI 0,qS vn,qS ve,qI 0,qI 1000,qI 100])],[],4⟩) .ret (Fil2 ⟨[(6,.one (qL (.ptr 31 0)))],zvM21 vn ve,549⟩):=by
 refine ToP.seq (by kernel_rfl) (zv_a0 s) ?_
 rintro x ⟨s,rfl⟩
 refine ToP.seq (by kernel_rfl) (zv_a1 s) ?_
 rintro x ⟨s,rfl⟩
 refine ToP.seq (by kernel_rfl) (zv_a2 s) ?_
 rintro x ⟨s,rfl⟩
 refine ToP.seq (by kernel_rfl) (zv_a3 s) ?_
 rintro x ⟨s,rfl⟩
 refine ToP.seq (by kernel_rfl) (B:=Fil2 ⟨[(1,.one (qI 0)),(3,.one (qL (.ptr 4 0))),(5,.one (qL (.ptr 5 0))),(7,.one (qL (.ptr 31 0))),(8,.one (qI 0))],zvM12 vn ve,176⟩) (ToP.seq (by kernel_rfl) (zv_a4 s) (by rintro x ⟨s,rfl⟩;exact ToP.block (id:=0) (e:= .exit 0) (by kernel_rfl) (ToP.loop (m:=12) (by kernel_rfl) (zv_L1 s)) (.inl rfl))) ?_
 rintro x ⟨s,rfl⟩
 refine ToP.seq (by kernel_rfl) (zv_b5 s) ?_
 rintro x ⟨s,rfl⟩
 refine ToP.seq (by kernel_rfl) (zv_b6 s) ?_
 rintro x ⟨s,rfl⟩
 refine ToP.seq (by kernel_rfl) (zv_b7 s) ?_
 rintro x ⟨s,rfl⟩
 refine ToP.seq (by kernel_rfl) (zv_b8 s) ?_
 rintro x ⟨s,rfl⟩
 refine ToP.seq (by kernel_rfl) (zv_b9 s) ?_
 rintro x ⟨s,rfl⟩
 refine ToP.seq (by kernel_rfl) (zv_b10 s) ?_
 rintro x ⟨s,rfl⟩
 refine ToP.seq (by kernel_rfl) (B:=Fil2 ⟨[(5,.one (qL (.ptr 5 0))),(7,.one (qL (.ptr 31 0))),(8,.one (qI 0))],zvM18 vn ve,334⟩) (ToP.seq (by kernel_rfl) (zv_c0 s) (by rintro x ⟨s,rfl⟩;exact ToP.block (id:=2) (e:= .exit 2) (by kernel_rfl) (ToP.loop (m:=3) (by kernel_rfl) (zv_L2 s)) (.inl rfl))) ?_
 rintro x ⟨s,rfl⟩
 refine ToP.seq (by kernel_rfl) (zv_c2 s hn he) ?_
 rintro x ⟨s,rfl⟩
 refine ToP.seq (by kernel_rfl) (B:=Fil2 ⟨[(7,.one (qL (.ptr 31 0)))],zvM21 vn ve,549⟩) (ToP.seq (by kernel_rfl) (zv_d0 s) (by rintro x ⟨s,rfl⟩;exact ToP.block (id:=4) (e:= .exit 4) (by kernel_rfl) (ToP.loop (m:=3) (by kernel_rfl) (zv_L3 s hn he)) (.inl rfl))) ?_
 rintro x ⟨s,rfl⟩
 refine ToP.seq (by kernel_rfl) (zv_d2 s) ?_
 rintro x ⟨s,rfl⟩
 exact zv_d3 s
end Go.Proofs.YtnlhpaidmiogbaaGreat

/- TopMoves: the law ahead of the loop; the rounds. -/
namespace Go.Proofs.YtnlhpaidmiogbaaGreat
open Go.Lr
set_option linter.unusedVariables false
set_option maxRecDepth 100000
noncomputable def AX:FuncId→Option SumK:=more AF 9 (pureSum awkS)
theorem soundAX:Sound Tryz.prog AX:=soundAF.more sumAwk
theorem zv_l0 (s:Asg) {vn:Int} {ve:Int} {n:Int}:ToP Tryz.prog 92 (c1 ((bodyF Tryz.prog 4))) (filS2 s ⟨[(0,.one (qS vn)),(1,.one (qS ve)),(2,.one (qS n))],[],0⟩) .normal (Fil2 ⟨[(0,.one (qS vn)),(1,.one (qS ve)),(2,.one (qS n))],[],0⟩):=
 ToP.run2 (z:=⟨false,false,false⟩) (n:=20000) (dec:=[]) (mask:=[]) (os:=[]) (es:=[.oi vn vn,.oi ve ve,.oi n n]) soundAX (fun dead=>by kernel_rfl) ae_nil (aob_cons rfl (aob_cons rfl (aob_cons rfl aob_nil))) (fun s=>canB_ok (by kernel_rfl)) (by kernel_rfl)
theorem zv_l1 (s:Asg) {vn:Int} {ve:Int} {n:Int}:ToP Tryz.prog 92 (c1 (c2 ((bodyF Tryz.prog 4)))) (filS2 s ⟨[(0,.one (qS vn)),(1,.one (qS ve)),(2,.one (qS n))],[],0⟩) .normal (Fil2 ⟨[(0,.one (qS vn)),(1,.one (qS ve)),(2,.one (qS n))],[],0⟩):=
 ToP.run2 (z:=⟨false,false,false⟩) (n:=20000) (dec:=[]) (mask:=[]) (os:=[]) (es:=[.oi vn vn,.oi ve ve,.oi n n]) soundAX (fun dead=>by kernel_rfl) ae_nil (aob_cons rfl (aob_cons rfl (aob_cons rfl aob_nil))) (fun s=>canB_ok (by kernel_rfl)) (by kernel_rfl)
theorem zv_l2a (s:Asg) {vn:Int} {ve:Int} {n:Int} (h0:vn < -1000):ToP Tryz.prog 92 (c1 (c2 (c2 ((bodyF Tryz.prog 4))))) (filS2 s ⟨[(0,.one (qS vn)),(1,.one (qS ve)),(2,.one (qS n))],[],0⟩) .ret (Fil2 ⟨[(6,.one (qB true))],[],0⟩):=
 ToP.run2 (z:=⟨false,false,false⟩) (n:=20000) (dec:=(tt 3 (nn 13 []))) (mask:=(mskO 3 [])) (os:=(ra 3 (decide (vn < -1000),true) [])) (es:=[]) soundAX (fun dead=>by kernel_rfl) (ra_ok (decide_eq_true (by omega)) ae_nil _) aob_nil (fun s=>canB_ok (by kernel_rfl)) (by kernel_rfl)
theorem zv_l2b (s:Asg) {vn:Int} {ve:Int} {n:Int} (h0:¬(vn < -1000)) (h1:vn>1000):ToP Tryz.prog 92 (c1 (c2 (c2 ((bodyF Tryz.prog 4))))) (filS2 s ⟨[(0,.one (qS vn)),(1,.one (qS ve)),(2,.one (qS n))],[],0⟩) .ret (Fil2 ⟨[(6,.one (qB true))],[],0⟩):=
 ToP.run2 (z:=⟨false,false,false⟩) (n:=20000) (dec:=(ff 3 (tt 3 (nn 10 [])))) (mask:=(mskO 6 [])) (os:=(ra 3 (decide (vn>1000),true) (ra 3 (decide (vn < -1000),false) []))) (es:=[]) soundAX (fun dead=>by kernel_rfl) (ra_ok (decide_eq_true (by omega)) (ra_ok (decide_eq_false (by omega)) ae_nil _) _) aob_nil (fun s=>canB_ok (by kernel_rfl)) (by kernel_rfl)
theorem zv_l2c (s:Asg) {vn:Int} {ve:Int} {n:Int} (h0:¬(vn < -1000)) (h1:¬(vn>1000)) (h2:ve < -1000):ToP Tryz.prog 92 (c1 (c2 (c2 ((bodyF Tryz.prog 4))))) (filS2 s ⟨[(0,.one (qS vn)),(1,.one (qS ve)),(2,.one (qS n))],[],0⟩) .ret (Fil2 ⟨[(6,.one (qB true))],[],0⟩):=
 ToP.run2 (z:=⟨false,false,false⟩) (n:=20000) (dec:=(ff 6 (tt 3 (nn 7 [])))) (mask:=(mskO 9 [])) (os:=(ra 3 (decide (ve < -1000),true) (ra 3 (decide (vn>1000),false) (ra 3 (decide (vn < -1000),false) [])))) (es:=[]) soundAX (fun dead=>by kernel_rfl) (ra_ok (decide_eq_true (by omega)) (ra_ok (decide_eq_false (by omega)) (ra_ok (decide_eq_false (by omega)) ae_nil _) _) _) aob_nil (fun s=>canB_ok (by kernel_rfl)) (by kernel_rfl)
theorem zv_l2d (s:Asg) {vn:Int} {ve:Int} {n:Int} (h0:¬(vn < -1000)) (h1:¬(vn>1000)) (h2:¬(ve < -1000)) (h3:ve>1000):ToP Tryz.prog 92 (c1 (c2 (c2 ((bodyF Tryz.prog 4))))) (filS2 s ⟨[(0,.one (qS vn)),(1,.one (qS ve)),(2,.one (qS n))],[],0⟩) .ret (Fil2 ⟨[(6,.one (qB true))],[],0⟩):=
 ToP.run2 (z:=⟨false,false,false⟩) (n:=20000) (dec:=(ff 9 (tt 3 (nn 4 [])))) (mask:=(mskO 12 [])) (os:=(ra 3 (decide (ve>1000),true) (ra 3 (decide (ve < -1000),false) (ra 3 (decide (vn>1000),false) (ra 3 (decide (vn < -1000),false) []))))) (es:=[]) soundAX (fun dead=>by kernel_rfl) (ra_ok (decide_eq_true (by omega)) (ra_ok (decide_eq_false (by omega)) (ra_ok (decide_eq_false (by omega)) (ra_ok (decide_eq_false (by omega)) ae_nil _) _) _) _) aob_nil (fun s=>canB_ok (by kernel_rfl)) (by kernel_rfl)
theorem zv_l2e (s:Asg) {vn:Int} {ve:Int} {n:Int} (h0:¬(vn < -1000)) (h1:¬(vn>1000)) (h2:¬(ve < -1000)) (h3:¬(ve>1000)) (h4:n<1):ToP Tryz.prog 92 (c1 (c2 (c2 ((bodyF Tryz.prog 4))))) (filS2 s ⟨[(0,.one (qS vn)),(1,.one (qS ve)),(2,.one (qS n))],[],0⟩) .ret (Fil2 ⟨[(6,.one (qB true))],[],0⟩):=
 ToP.run2 (z:=⟨false,false,false⟩) (n:=20000) (dec:=(ff 12 (tt 3 (nn 1 [])))) (mask:=(mskO 15 [])) (os:=(ra 3 (decide (n<1),true) (ra 3 (decide (ve>1000),false) (ra 3 (decide (ve < -1000),false) (ra 3 (decide (vn>1000),false) (ra 3 (decide (vn < -1000),false) [])))))) (es:=[]) soundAX (fun dead=>by kernel_rfl) (ra_ok (decide_eq_true (by omega)) (ra_ok (decide_eq_false (by omega)) (ra_ok (decide_eq_false (by omega)) (ra_ok (decide_eq_false (by omega)) (ra_ok (decide_eq_false (by omega)) ae_nil _) _) _) _) _) aob_nil (fun s=>canB_ok (by kernel_rfl)) (by kernel_rfl)
theorem zv_l2f (s:Asg) {vn:Int} {ve:Int} {n:Int} (h0:¬(vn < -1000)) (h1:¬(vn>1000)) (h2:¬(ve < -1000)) (h3:¬(ve>1000)) (h4:¬(n<1)) (h5:n>5):ToP Tryz.prog 92 (c1 (c2 (c2 ((bodyF Tryz.prog 4))))) (filS2 s ⟨[(0,.one (qS vn)),(1,.one (qS ve)),(2,.one (qS n))],[],0⟩) .ret (Fil2 ⟨[(6,.one (qB true))],[],0⟩):=
 ToP.run2 (z:=⟨false,false,false⟩) (n:=20000) (dec:=(ff 15 (tt 1 []))) (mask:=(mskO 16 [])) (os:=(ra 1 (decide (n>5),true) (ra 3 (decide (n<1),false) (ra 3 (decide (ve>1000),false) (ra 3 (decide (ve < -1000),false) (ra 3 (decide (vn>1000),false) (ra 3 (decide (vn < -1000),false) []))))))) (es:=[]) soundAX (fun dead=>by kernel_rfl) (ra_ok (decide_eq_true (by omega)) (ra_ok (decide_eq_false (by omega)) (ra_ok (decide_eq_false (by omega)) (ra_ok (decide_eq_false (by omega)) (ra_ok (decide_eq_false (by omega)) (ra_ok (decide_eq_false (by omega)) ae_nil _) _) _) _) _) _) aob_nil (fun s=>canB_ok (by kernel_rfl)) (by kernel_rfl)
theorem zv_l2g (s:Asg) {vn:Int} {ve:Int} {n:Int} (h0:¬(vn < -1000)) (h1:¬(vn>1000)) (h2:¬(ve < -1000)) (h3:¬(ve>1000)) (h4:¬(n<1)) (h5:¬(n>5)):ToP Tryz.prog 92 (c1 (c2 (c2 ((bodyF Tryz.prog 4))))) (filS2 s ⟨[(0,.one (qS vn)),(1,.one (qS ve)),(2,.one (qS n))],[],0⟩) .normal (Fil2 ⟨[(0,.one (qS vn)),(1,.one (qS ve)),(2,.one (qS n))],[],0⟩):=
 ToP.run2 (z:=⟨false,false,false⟩) (n:=20000) (dec:=(ff 16 [])) (mask:=(mskO 16 [])) (os:=(ra 1 (decide (n>5),false) (ra 3 (decide (n<1),false) (ra 3 (decide (ve>1000),false) (ra 3 (decide (ve < -1000),false) (ra 3 (decide (vn>1000),false) (ra 3 (decide (vn < -1000),false) []))))))) (es:=[.oi vn vn,.oi ve ve,.oi n n]) soundAX (fun dead=>by kernel_rfl) (ra_ok (decide_eq_false (by omega)) (ra_ok (decide_eq_false (by omega)) (ra_ok (decide_eq_false (by omega)) (ra_ok (decide_eq_false (by omega)) (ra_ok (decide_eq_false (by omega)) (ra_ok (decide_eq_false (by omega)) ae_nil _) _) _) _) _) _) (aob_cons rfl (aob_cons rfl (aob_cons rfl aob_nil))) (fun s=>canB_ok (by kernel_rfl)) (by kernel_rfl)
def zvA0 (vn ve:Int):List LV:=[.v (.agg (filL2 (fun _=>0) (fun _=>false) 0 (zvPar))),I 0,.v (.agg [.int .i64 0,.int .i64 0,.int .i64 0,.int .i64 vn,.int .i64 ve,.int .i64 0,.int .i64 1000,.int .i64 100])]
theorem zv_l3a (s:Asg) {vn ve n:Int}:ToO Tryz.prog 92 (opsOf (c1 (c2 (c2 (c2 ((bodyF Tryz.prog 4))))))) 0 4 (filS2 s ⟨[(0,.one (qS vn)),(1,.one (qS ve)),(2,.one (qS n))],[],0⟩) (Fil2 ⟨[(0,.one (qS vn)),(1,.one (qS ve)),(2,.one (qS n)),(36,.agg (zvPar)),(39,.agg ([qI 0,qI 0,qI 0,qS vn,qS ve,qI 0,qI 1000,qI 100]))],[],4⟩):=
 ToO.run2 (z:=⟨false,false,false⟩) (n:=20000) (dec:=[]) (mask:=[]) (os:=[]) (es:=[.oi vn vn,.oi ve ve,.oi n n,.oi vn vn,.oi ve ve]) soundAX (by kernel_rfl) (by kernel_rfl) (fun dead=>by kernel_rfl) ae_nil (aob_cons rfl (aob_cons rfl (aob_cons rfl (aob_cons rfl (aob_cons rfl aob_nil))))) (fun s=>canB_ok (by kernel_rfl)) (by kernel_rfl)
theorem zv_l3b (s:Asg) {vn ve n:Int} (hn:MvH vn) (he:MvH ve):ToO Tryz.prog 92 (opsOf (c1 (c2 (c2 (c2 ((bodyF Tryz.prog 4))))))) 4 1 (filS2 s ⟨[(0,.one (qS vn)),(1,.one (qS ve)),(2,.one (qS n)),(36,.agg (zvPar)),(39,.agg ([qI 0,qI 0,qI 0,qS vn,qS ve,qI 0,qI 1000,qI 100]))],[],4⟩) (Fil2 ⟨[(40,.one (qL (.ptr 31 0))),(0,.one (qS vn)),(1,.one (qS ve)),(2,.one (qS n))],zvM21 vn ve,549⟩):=
 (ToO.callK (sz:=92) (A:=filS2 s ⟨[(0,.one (qS vn)),(1,.one (qS ve)),(2,.one (qS n)),(36,.agg (zvPar)),(39,.agg ([qI 0,qI 0,qI 0,qS vn,qS ve,qI 0,qI 1000,qI 100]))],[],4⟩) (B:=Fil2 ⟨[(6,.one (qL (.ptr 31 0)))],zvM21 vn ve,549⟩) (t:=40) (f:=14) (args:=zvA0 vn ve) (e:= .ret) (v:=fun _=> .v (.one (.ptr 31 0))) soundAF [0,1,2] (fun dead=>by kernel_rfl) Tryz.func14 (by kernel_rfl) (by kernel_rfl) (by kernel_rfl) (by kernel_rfl) (zv_All s hn he) (.inr rfl) (by rintro x ⟨s,rfl⟩ dead;kernel_rfl) (by rintro x ⟨s,rfl⟩;exact canB_ok (by kernel_rfl))).mono (by rintro y ⟨x,⟨s,rfl⟩,rfl⟩;exact ⟨s,rfl⟩)
theorem zv_l3c (s:Asg) {vn ve n:Int}:ToO Tryz.prog 92 (opsOf (c1 (c2 (c2 (c2 ((bodyF Tryz.prog 4))))))) 5 1 (filS2 s ⟨[(40,.one (qL (.ptr 31 0))),(0,.one (qS vn)),(1,.one (qS ve)),(2,.one (qS n))],zvM21 vn ve,549⟩) (Fil2 ⟨[(0,.one (qS vn)),(1,.one (qS ve)),(2,.one (qS n)),(7,.one (qL (.ptr 31 0)))],zvM21 vn ve,549⟩):=
 ToO.run2 (z:=⟨false,false,false⟩) (n:=20000) (dec:=[]) (mask:=[]) (os:=[]) (es:=[.oi vn vn,.oi ve ve,.oi n n,.oi (mvV vn) (mvV vn),.oi (mvV ve) (mvV ve),.oi (1*mvW vn) (1*mvW vn),.oi (1*mvW ve) (1*mvW ve)]) soundAF (by kernel_rfl) (by kernel_rfl) (fun dead=>by kernel_rfl) ae_nil (aob_cons rfl (aob_cons rfl (aob_cons rfl (aob_cons rfl (aob_cons rfl (aob_cons rfl (aob_cons rfl aob_nil))))))) (fun s=>canB_ok (by kernel_rfl)) (by kernel_rfl)
theorem zv_l3 (s:Asg) {vn ve n:Int} (hn:MvH vn) (he:MvH ve):ToP Tryz.prog 92 (c1 (c2 (c2 (c2 ((bodyF Tryz.prog 4)))))) (filS2 s ⟨[(0,.one (qS vn)),(1,.one (qS ve)),(2,.one (qS n))],[],0⟩) .normal (Fil2 ⟨[(0,.one (qS vn)),(1,.one (qS ve)),(2,.one (qS n)),(7,.one (qL (.ptr 31 0)))],zvM21 vn ve,549⟩):=
 ToP.of_ToO (n:=6) (by kernel_rfl) (by kernel_rfl) (ToO.seq (m:=5) (m':=1) (ToO.seq (m:=4) (m':=1) (zv_l3a s) (by rintro x ⟨s,rfl⟩;exact zv_l3b s hn he)) (by rintro x ⟨s,rfl⟩;exact zv_l3c s))
theorem zv_x4 (s:Asg) {vn:Int} {ve:Int} {n:Int}:ToP Tryz.prog 92 (c1 (c2 (c2 (c2 (c2 ((bodyF Tryz.prog 4))))))) (filS2 s ⟨[(0,.one (qS vn)),(1,.one (qS ve)),(2,.one (qS n)),(7,.one (qL (.ptr 31 0)))],zvM21 vn ve,549⟩) .normal (Fil2 ⟨[(0,.one (qS vn)),(1,.one (qS ve)),(2,.one (qS n)),(7,.one (qL (.ptr 31 0)))],zvM21 vn ve,549⟩):=
 ToP.run2 (z:=⟨false,false,false⟩) (n:=20000) (dec:=[]) (mask:=[]) (os:=[]) (es:=[.oi vn vn,.oi ve ve,.oi n n,.oi (mvV vn) (mvV vn),.oi (mvV ve) (mvV ve),.oi (1*mvW vn) (1*mvW vn),.oi (1*mvW ve) (1*mvW ve)]) soundAF (fun dead=>by kernel_rfl) ae_nil (aob_cons rfl (aob_cons rfl (aob_cons rfl (aob_cons rfl (aob_cons rfl (aob_cons rfl (aob_cons rfl aob_nil))))))) (fun s=>canB_ok (by kernel_rfl)) (by kernel_rfl)
theorem zv_x5 (s:Asg) {vn:Int} {ve:Int} {n:Int}:ToP Tryz.prog 92 (c1 (c1 (c2 (c2 (c2 (c2 (c2 ((bodyF Tryz.prog 4))))))))) (filS2 s ⟨[(0,.one (qS vn)),(1,.one (qS ve)),(2,.one (qS n)),(7,.one (qL (.ptr 31 0)))],zvM21 vn ve,549⟩) .normal (Fil2 ⟨[(0,.one (qS vn)),(1,.one (qS ve)),(2,.one (qS n)),(7,.one (qL (.ptr 31 0))),(8,.one (qI 0))],zvM21 vn ve,549⟩):=
 ToP.run2 (z:=⟨false,false,false⟩) (n:=20000) (dec:=[]) (mask:=[]) (os:=[]) (es:=[.oi vn vn,.oi ve ve,.oi n n,.oi (mvV vn) (mvV vn),.oi (mvV ve) (mvV ve),.oi (1*mvW vn) (1*mvW vn),.oi (1*mvW ve) (1*mvW ve)]) soundAF (fun dead=>by kernel_rfl) ae_nil (aob_cons rfl (aob_cons rfl (aob_cons rfl (aob_cons rfl (aob_cons rfl (aob_cons rfl (aob_cons rfl aob_nil))))))) (fun s=>canB_ok (by kernel_rfl)) (by kernel_rfl)
theorem zv_k1 (s:Asg) {vn:Int} {ve:Int} {n:Int} (hn:MvH vn) (he:MvH ve) (h0:0<n):ToP Tryz.prog 92 (c1 (c1 (c2 (c1 (c2 (c2 (c2 (c2 (c2 ((bodyF Tryz.prog 4))))))))))) (filS2 s ⟨[(0,.one (qS vn)),(1,.one (qS ve)),(2,.one (qS n)),(7,.one (qL (.ptr 31 0))),(8,.one (qI 0))],zvM21 vn ve,549⟩) .normal (Fil2 ⟨[(0,.one (qS vn)),(1,.one (qS ve)),(2,.one (qS n)),(7,.one (qL (.ptr 31 0))),(8,.one (qI 1))],zvM22 vn ve,566⟩):=
 ToP.run2 (z:=⟨false,false,false⟩) (n:=20000) (dec:=(tt 1 [])) (mask:=(mskC 11 (mskO 1 []))) (os:=[(decide (0<n),true)]) (es:=[.oi vn vn,.oi ve ve,.oi n n,.oi (stC 4 (acL (mvV vn) (mvV ve) 0 (1*mvW vn) (1*mvW ve) 0 0 0)) (mvV vn),.oi (stC 5 (acL (mvV vn) (mvV ve) 0 (1*mvW vn) (1*mvW ve) 0 0 0)) (mvV ve),.oi (stC 7 (acL (mvV vn) (mvV ve) 0 (1*mvW vn) (1*mvW ve) 0 0 0)) (2*mvW vn),.oi (stC 8 (acL (mvV vn) (mvV ve) 0 (1*mvW vn) (1*mvW ve) 0 0 0)) (2*mvW ve)]) soundAF (fun dead=>by kernel_rfl) (ae_cons (decide_eq_true h0) ae_nil) (aob_cons rfl (aob_cons rfl (aob_cons rfl (aob_cons (hn.v4 _ _ _ _ _ _) (aob_cons (he.v5 _ _ _ _ _ _) (aob_cons (hn.p7 _ _ _ _ _ (by have:=hn.wb;omega) (by have:=hn.wb;omega) (by omega)) (aob_cons (he.p8 _ _ _ _ _ (by have:=he.wb;omega) (by have:=he.wb;omega) (by omega)) aob_nil))))))) (fun s=>canB_ok (by kernel_rfl)) (by kernel_rfl)
theorem zv_k2 (s:Asg) {vn:Int} {ve:Int} {n:Int} (hn:MvH vn) (he:MvH ve) (h0:1<n):ToP Tryz.prog 92 (c1 (c1 (c2 (c1 (c2 (c2 (c2 (c2 (c2 ((bodyF Tryz.prog 4))))))))))) (filS2 s ⟨[(0,.one (qS vn)),(1,.one (qS ve)),(2,.one (qS n)),(7,.one (qL (.ptr 31 0))),(8,.one (qI 1))],zvM22 vn ve,566⟩) .normal (Fil2 ⟨[(0,.one (qS vn)),(1,.one (qS ve)),(2,.one (qS n)),(7,.one (qL (.ptr 31 0))),(8,.one (qI 2))],zvM23 vn ve,583⟩):=
 ToP.run2 (z:=⟨false,false,false⟩) (n:=20000) (dec:=(tt 1 [])) (mask:=(mskC 12 (mskO 1 []))) (os:=[(decide (1<n),true)]) (es:=[.oi vn vn,.oi ve ve,.oi n n,.oi (stC 4 (acL (mvV vn) (mvV ve) 0 (2*mvW vn) (2*mvW ve) 0 0 0)) (mvV vn),.oi (stC 5 (acL (mvV vn) (mvV ve) 0 (2*mvW vn) (2*mvW ve) 0 0 0)) (mvV ve),.oi (stC 7 (acL (mvV vn) (mvV ve) 0 (2*mvW vn) (2*mvW ve) 0 0 0)) (3*mvW vn),.oi (stC 8 (acL (mvV vn) (mvV ve) 0 (2*mvW vn) (2*mvW ve) 0 0 0)) (3*mvW ve)]) soundAF (fun dead=>by kernel_rfl) (ae_cons (decide_eq_true h0) ae_nil) (aob_cons rfl (aob_cons rfl (aob_cons rfl (aob_cons (hn.v4 _ _ _ _ _ _) (aob_cons (he.v5 _ _ _ _ _ _) (aob_cons (hn.p7 _ _ _ _ _ (by have:=hn.wb;omega) (by have:=hn.wb;omega) (by omega)) (aob_cons (he.p8 _ _ _ _ _ (by have:=he.wb;omega) (by have:=he.wb;omega) (by omega)) aob_nil))))))) (fun s=>canB_ok (by kernel_rfl)) (by kernel_rfl)
theorem zv_k3 (s:Asg) {vn:Int} {ve:Int} {n:Int} (hn:MvH vn) (he:MvH ve) (h0:2<n):ToP Tryz.prog 92 (c1 (c1 (c2 (c1 (c2 (c2 (c2 (c2 (c2 ((bodyF Tryz.prog 4))))))))))) (filS2 s ⟨[(0,.one (qS vn)),(1,.one (qS ve)),(2,.one (qS n)),(7,.one (qL (.ptr 31 0))),(8,.one (qI 2))],zvM23 vn ve,583⟩) .normal (Fil2 ⟨[(0,.one (qS vn)),(1,.one (qS ve)),(2,.one (qS n)),(7,.one (qL (.ptr 31 0))),(8,.one (qI 3))],zvM24 vn ve,600⟩):=
 ToP.run2 (z:=⟨false,false,false⟩) (n:=20000) (dec:=(tt 1 [])) (mask:=(mskC 13 (mskO 1 []))) (os:=[(decide (2<n),true)]) (es:=[.oi vn vn,.oi ve ve,.oi n n,.oi (stC 4 (acL (mvV vn) (mvV ve) 0 (3*mvW vn) (3*mvW ve) 0 0 0)) (mvV vn),.oi (stC 5 (acL (mvV vn) (mvV ve) 0 (3*mvW vn) (3*mvW ve) 0 0 0)) (mvV ve),.oi (stC 7 (acL (mvV vn) (mvV ve) 0 (3*mvW vn) (3*mvW ve) 0 0 0)) (4*mvW vn),.oi (stC 8 (acL (mvV vn) (mvV ve) 0 (3*mvW vn) (3*mvW ve) 0 0 0)) (4*mvW ve)]) soundAF (fun dead=>by kernel_rfl) (ae_cons (decide_eq_true h0) ae_nil) (aob_cons rfl (aob_cons rfl (aob_cons rfl (aob_cons (hn.v4 _ _ _ _ _ _) (aob_cons (he.v5 _ _ _ _ _ _) (aob_cons (hn.p7 _ _ _ _ _ (by have:=hn.wb;omega) (by have:=hn.wb;omega) (by omega)) (aob_cons (he.p8 _ _ _ _ _ (by have:=he.wb;omega) (by have:=he.wb;omega) (by omega)) aob_nil))))))) (fun s=>canB_ok (by kernel_rfl)) (by kernel_rfl)
theorem zv_k4 (s:Asg) {vn:Int} {ve:Int} {n:Int} (hn:MvH vn) (he:MvH ve) (h0:3<n):ToP Tryz.prog 92 (c1 (c1 (c2 (c1 (c2 (c2 (c2 (c2 (c2 ((bodyF Tryz.prog 4))))))))))) (filS2 s ⟨[(0,.one (qS vn)),(1,.one (qS ve)),(2,.one (qS n)),(7,.one (qL (.ptr 31 0))),(8,.one (qI 3))],zvM24 vn ve,600⟩) .normal (Fil2 ⟨[(0,.one (qS vn)),(1,.one (qS ve)),(2,.one (qS n)),(7,.one (qL (.ptr 31 0))),(8,.one (qI 4))],zvM25 vn ve,617⟩):=
 ToP.run2 (z:=⟨false,false,false⟩) (n:=20000) (dec:=(tt 1 [])) (mask:=(mskC 14 (mskO 1 []))) (os:=[(decide (3<n),true)]) (es:=[.oi vn vn,.oi ve ve,.oi n n,.oi (stC 4 (acL (mvV vn) (mvV ve) 0 (4*mvW vn) (4*mvW ve) 0 0 0)) (mvV vn),.oi (stC 5 (acL (mvV vn) (mvV ve) 0 (4*mvW vn) (4*mvW ve) 0 0 0)) (mvV ve),.oi (stC 7 (acL (mvV vn) (mvV ve) 0 (4*mvW vn) (4*mvW ve) 0 0 0)) (5*mvW vn),.oi (stC 8 (acL (mvV vn) (mvV ve) 0 (4*mvW vn) (4*mvW ve) 0 0 0)) (5*mvW ve)]) soundAF (fun dead=>by kernel_rfl) (ae_cons (decide_eq_true h0) ae_nil) (aob_cons rfl (aob_cons rfl (aob_cons rfl (aob_cons (hn.v4 _ _ _ _ _ _) (aob_cons (he.v5 _ _ _ _ _ _) (aob_cons (hn.p7 _ _ _ _ _ (by have:=hn.wb;omega) (by have:=hn.wb;omega) (by omega)) (aob_cons (he.p8 _ _ _ _ _ (by have:=he.wb;omega) (by have:=he.wb;omega) (by omega)) aob_nil))))))) (fun s=>canB_ok (by kernel_rfl)) (by kernel_rfl)
theorem zv_k5 (s:Asg) {vn:Int} {ve:Int} {n:Int} (hn:MvH vn) (he:MvH ve) (h0:4<n):ToP Tryz.prog 92 (c1 (c1 (c2 (c1 (c2 (c2 (c2 (c2 (c2 ((bodyF Tryz.prog 4))))))))))) (filS2 s ⟨[(0,.one (qS vn)),(1,.one (qS ve)),(2,.one (qS n)),(7,.one (qL (.ptr 31 0))),(8,.one (qI 4))],zvM25 vn ve,617⟩) .normal (Fil2 ⟨[(0,.one (qS vn)),(1,.one (qS ve)),(2,.one (qS n)),(7,.one (qL (.ptr 31 0))),(8,.one (qI 5))],zvM26 vn ve,634⟩):=
 ToP.run2 (z:=⟨false,false,false⟩) (n:=20000) (dec:=(tt 1 [])) (mask:=(mskC 15 (mskO 1 []))) (os:=[(decide (4<n),true)]) (es:=[.oi vn vn,.oi ve ve,.oi n n,.oi (stC 4 (acL (mvV vn) (mvV ve) 0 (5*mvW vn) (5*mvW ve) 0 0 0)) (mvV vn),.oi (stC 5 (acL (mvV vn) (mvV ve) 0 (5*mvW vn) (5*mvW ve) 0 0 0)) (mvV ve),.oi (stC 7 (acL (mvV vn) (mvV ve) 0 (5*mvW vn) (5*mvW ve) 0 0 0)) (6*mvW vn),.oi (stC 8 (acL (mvV vn) (mvV ve) 0 (5*mvW vn) (5*mvW ve) 0 0 0)) (6*mvW ve)]) soundAF (fun dead=>by kernel_rfl) (ae_cons (decide_eq_true h0) ae_nil) (aob_cons rfl (aob_cons rfl (aob_cons rfl (aob_cons (hn.v4 _ _ _ _ _ _) (aob_cons (he.v5 _ _ _ _ _ _) (aob_cons (hn.p7 _ _ _ _ _ (by have:=hn.wb;omega) (by have:=hn.wb;omega) (by omega)) (aob_cons (he.p8 _ _ _ _ _ (by have:=he.wb;omega) (by have:=he.wb;omega) (by omega)) aob_nil))))))) (fun s=>canB_ok (by kernel_rfl)) (by kernel_rfl)
theorem zv_e1 (s:Asg) {vn:Int} {ve:Int}:ToP Tryz.prog 92 (c1 (c1 (c2 (c1 (c2 (c2 (c2 (c2 (c2 ((bodyF Tryz.prog 4))))))))))) (filS2 s ⟨[(0,.one (qS vn)),(1,.one (qS ve)),(2,.one (qI 1)),(7,.one (qL (.ptr 31 0))),(8,.one (qI 1))],zvM22 vn ve,566⟩) (.exit 0) (Fil2 ⟨[(0,.one (qS vn)),(1,.one (qS ve)),(2,.one (qI 1)),(7,.one (qL (.ptr 31 0)))],zvM22 vn ve,566⟩):=
 ToP.run2 (z:=⟨false,false,false⟩) (n:=20000) (dec:=(ff 1 [])) (mask:=(mskC 1 [])) (os:=[]) (es:=[.oi vn vn,.oi ve ve,.oi (mvV vn) (mvV vn),.oi (mvV ve) (mvV ve),.oi (2*mvW vn) (2*mvW vn),.oi (2*mvW ve) (2*mvW ve)]) soundAF (fun dead=>by kernel_rfl) ae_nil (aob_cons rfl (aob_cons rfl (aob_cons rfl (aob_cons rfl (aob_cons rfl (aob_cons rfl aob_nil)))))) (fun s=>canB_ok (by kernel_rfl)) (by kernel_rfl)
theorem zv_f1A (s:Asg) {vn:Int} {ve:Int} (hn:MvH vn) (he:MvH ve) (h1:vn<100) (h2:ve > -100):ToP Tryz.prog 92 (c2 (c2 (c2 (c2 (c2 (c2 ((bodyF Tryz.prog 4)))))))) (filS2 s ⟨[(0,.one (qS vn)),(1,.one (qS ve)),(2,.one (qI 1)),(7,.one (qL (.ptr 31 0)))],zvM22 vn ve,566⟩) .ret (Fil2 ⟨[(6,.one (qR (.bool true)))],[],566⟩):=
 ToP.run2 (z:=⟨false,false,false⟩) (n:=20000) (dec:=(nn 10 (tt 3 (nn 1 (tt 1 (nn 4 (tt 3 (nn 1 (tt 1 (nn 1 [])))))))))) (mask:=(mskO 10 [])) (os:=(ra 4 (decide (ve > -100),true) (ra 4 (decide (vn<100),true) (ra 1 (wiB (mvV ve) (mulDivV ve 1073741824 1000) 53687091,true) (ra 1 (wiB (mvV vn) (mulDivV vn 1073741824 1000) 53687091,true) []))))) (es:=[.oa (.bool true) (.bool true)]) soundAW (fun dead=>by kernel_rfl) (ra_ok (decide_eq_true (by omega)) (ra_ok (decide_eq_true (by omega)) (ra_ok (wi_eq rfl (by omega)) (ra_ok (wi_eq rfl (by omega)) ae_nil _) _) _) _) (aob_cons rfl aob_nil) (fun s=>canB_ok (by kernel_rfl)) (by kernel_rfl)
theorem zv_f1B (s:Asg) {vn:Int} {ve:Int} (hn:MvH vn) (he:MvH ve) (h1:¬vn<100) (h2:ve > -100):ToP Tryz.prog 92 (c2 (c2 (c2 (c2 (c2 (c2 ((bodyF Tryz.prog 4)))))))) (filS2 s ⟨[(0,.one (qS vn)),(1,.one (qS ve)),(2,.one (qI 1)),(7,.one (qL (.ptr 31 0)))],zvM22 vn ve,566⟩) .ret (Fil2 ⟨[(6,.one (qR (.bool true)))],[],566⟩):=
 ToP.run2 (z:=⟨false,false,false⟩) (n:=20000) (dec:=(nn 10 (ff 3 (nn 1 (ff 1 (nn 1 (tt 9 []))))))) (mask:=(mskO 15 [])) (os:=(ra 2 (decide (2*mvW vn>0),true) (ra 4 (decide (ve > -100),true) (ra 3 (decide (2*mvW vn>0),true) (ra 4 (decide (vn<100),false) (ra 1 (wiB (mvV ve) (mulDivV ve 1073741824 1000) 53687091,true) (ra 1 (wiB (mvV vn) (mulDivV vn 1073741824 1000) 53687091,true) []))))))) (es:=[.oa (.bool true) (.bool true)]) soundAW (fun dead=>by kernel_rfl) (ra_ok (decide_eq_true (by have:=hn.up (by omega);omega)) (ra_ok (decide_eq_true (by omega)) (ra_ok (decide_eq_true (by have:=hn.up (by omega);omega)) (ra_ok (decide_eq_false (by omega)) (ra_ok (wi_eq rfl (by omega)) (ra_ok (wi_eq rfl (by omega)) ae_nil _) _) _) _) _) _) (aob_cons rfl aob_nil) (fun s=>canB_ok (by kernel_rfl)) (by kernel_rfl)
theorem zv_f1C (s:Asg) {vn:Int} {ve:Int} (hn:MvH vn) (he:MvH ve) (h1:vn<100) (h2:¬ve > -100):ToP Tryz.prog 92 (c2 (c2 (c2 (c2 (c2 (c2 ((bodyF Tryz.prog 4)))))))) (filS2 s ⟨[(0,.one (qS vn)),(1,.one (qS ve)),(2,.one (qI 1)),(7,.one (qL (.ptr 31 0)))],zvM22 vn ve,566⟩) .ret (Fil2 ⟨[(6,.one (qR (.bool true)))],[],566⟩):=
 ToP.run2 (z:=⟨false,false,false⟩) (n:=20000) (dec:=(nn 10 (tt 3 (nn 1 (tt 1 (nn 4 (ff 3 (nn 1 (ff 1 (nn 1 [])))))))))) (mask:=(mskO 10 [])) (os:=(ra 4 (decide (ve > -100),false) (ra 4 (decide (vn<100),true) (ra 1 (wiB (mvV ve) (mulDivV ve 1073741824 1000) 53687091,true) (ra 1 (wiB (mvV vn) (mulDivV vn 1073741824 1000) 53687091,true) []))))) (es:=[.oa (.bool (decide (2*mvW ve<0))) (.bool true)]) soundAW (fun dead=>by kernel_rfl) (ra_ok (decide_eq_false (by omega)) (ra_ok (decide_eq_true (by omega)) (ra_ok (wi_eq rfl (by omega)) (ra_ok (wi_eq rfl (by omega)) ae_nil _) _) _) _) (aob_cons (congrArg At.bool (decide_eq_true (by have:=he.dn (by omega);omega))) aob_nil) (fun s=>canB_ok (by kernel_rfl)) (by kernel_rfl)
theorem zv_f1D (s:Asg) {vn:Int} {ve:Int} (hn:MvH vn) (he:MvH ve) (h1:¬vn<100) (h2:¬ve > -100):ToP Tryz.prog 92 (c2 (c2 (c2 (c2 (c2 (c2 ((bodyF Tryz.prog 4)))))))) (filS2 s ⟨[(0,.one (qS vn)),(1,.one (qS ve)),(2,.one (qI 1)),(7,.one (qL (.ptr 31 0)))],zvM22 vn ve,566⟩) .ret (Fil2 ⟨[(6,.one (qR (.bool true)))],[],566⟩):=
 ToP.run2 (z:=⟨false,false,false⟩) (n:=20000) (dec:=(nn 10 (ff 3 (nn 1 (ff 1 (nn 1 (tt 3 (ff 3 (tt 1 (ff 1 (tt 1 []))))))))))) (mask:=(mskO 15 [])) (os:=(ra 2 (decide (2*mvW vn>0),true) (ra 4 (decide (ve > -100),false) (ra 3 (decide (2*mvW vn>0),true) (ra 4 (decide (vn<100),false) (ra 1 (wiB (mvV ve) (mulDivV ve 1073741824 1000) 53687091,true) (ra 1 (wiB (mvV vn) (mulDivV vn 1073741824 1000) 53687091,true) []))))))) (es:=[.oa (.bool (decide (2*mvW ve<0))) (.bool true)]) soundAW (fun dead=>by kernel_rfl) (ra_ok (decide_eq_true (by have:=hn.up (by omega);omega)) (ra_ok (decide_eq_false (by omega)) (ra_ok (decide_eq_true (by have:=hn.up (by omega);omega)) (ra_ok (decide_eq_false (by omega)) (ra_ok (wi_eq rfl (by omega)) (ra_ok (wi_eq rfl (by omega)) ae_nil _) _) _) _) _) _) (aob_cons (congrArg At.bool (decide_eq_true (by have:=he.dn (by omega);omega))) aob_nil) (fun s=>canB_ok (by kernel_rfl)) (by kernel_rfl)
theorem zv_e2 (s:Asg) {vn:Int} {ve:Int}:ToP Tryz.prog 92 (c1 (c1 (c2 (c1 (c2 (c2 (c2 (c2 (c2 ((bodyF Tryz.prog 4))))))))))) (filS2 s ⟨[(0,.one (qS vn)),(1,.one (qS ve)),(2,.one (qI 2)),(7,.one (qL (.ptr 31 0))),(8,.one (qI 2))],zvM23 vn ve,583⟩) (.exit 0) (Fil2 ⟨[(0,.one (qS vn)),(1,.one (qS ve)),(2,.one (qI 2)),(7,.one (qL (.ptr 31 0)))],zvM23 vn ve,583⟩):=
 ToP.run2 (z:=⟨false,false,false⟩) (n:=20000) (dec:=(ff 1 [])) (mask:=(mskC 1 [])) (os:=[]) (es:=[.oi vn vn,.oi ve ve,.oi (mvV vn) (mvV vn),.oi (mvV ve) (mvV ve),.oi (3*mvW vn) (3*mvW vn),.oi (3*mvW ve) (3*mvW ve)]) soundAF (fun dead=>by kernel_rfl) ae_nil (aob_cons rfl (aob_cons rfl (aob_cons rfl (aob_cons rfl (aob_cons rfl (aob_cons rfl aob_nil)))))) (fun s=>canB_ok (by kernel_rfl)) (by kernel_rfl)
theorem zv_f2A (s:Asg) {vn:Int} {ve:Int} (hn:MvH vn) (he:MvH ve) (h1:vn<100) (h2:ve > -100):ToP Tryz.prog 92 (c2 (c2 (c2 (c2 (c2 (c2 ((bodyF Tryz.prog 4)))))))) (filS2 s ⟨[(0,.one (qS vn)),(1,.one (qS ve)),(2,.one (qI 2)),(7,.one (qL (.ptr 31 0)))],zvM23 vn ve,583⟩) .ret (Fil2 ⟨[(6,.one (qR (.bool true)))],[],583⟩):=
 ToP.run2 (z:=⟨false,false,false⟩) (n:=20000) (dec:=(nn 10 (tt 3 (nn 1 (tt 1 (nn 4 (tt 3 (nn 1 (tt 1 (nn 1 [])))))))))) (mask:=(mskO 10 [])) (os:=(ra 4 (decide (ve > -100),true) (ra 4 (decide (vn<100),true) (ra 1 (wiB (mvV ve) (mulDivV ve 1073741824 1000) 53687091,true) (ra 1 (wiB (mvV vn) (mulDivV vn 1073741824 1000) 53687091,true) []))))) (es:=[.oa (.bool true) (.bool true)]) soundAW (fun dead=>by kernel_rfl) (ra_ok (decide_eq_true (by omega)) (ra_ok (decide_eq_true (by omega)) (ra_ok (wi_eq rfl (by omega)) (ra_ok (wi_eq rfl (by omega)) ae_nil _) _) _) _) (aob_cons rfl aob_nil) (fun s=>canB_ok (by kernel_rfl)) (by kernel_rfl)
theorem zv_f2B (s:Asg) {vn:Int} {ve:Int} (hn:MvH vn) (he:MvH ve) (h1:¬vn<100) (h2:ve > -100):ToP Tryz.prog 92 (c2 (c2 (c2 (c2 (c2 (c2 ((bodyF Tryz.prog 4)))))))) (filS2 s ⟨[(0,.one (qS vn)),(1,.one (qS ve)),(2,.one (qI 2)),(7,.one (qL (.ptr 31 0)))],zvM23 vn ve,583⟩) .ret (Fil2 ⟨[(6,.one (qR (.bool true)))],[],583⟩):=
 ToP.run2 (z:=⟨false,false,false⟩) (n:=20000) (dec:=(nn 10 (ff 3 (nn 1 (ff 1 (nn 1 (tt 9 []))))))) (mask:=(mskO 15 [])) (os:=(ra 2 (decide (3*mvW vn>0),true) (ra 4 (decide (ve > -100),true) (ra 3 (decide (3*mvW vn>0),true) (ra 4 (decide (vn<100),false) (ra 1 (wiB (mvV ve) (mulDivV ve 1073741824 1000) 53687091,true) (ra 1 (wiB (mvV vn) (mulDivV vn 1073741824 1000) 53687091,true) []))))))) (es:=[.oa (.bool true) (.bool true)]) soundAW (fun dead=>by kernel_rfl) (ra_ok (decide_eq_true (by have:=hn.up (by omega);omega)) (ra_ok (decide_eq_true (by omega)) (ra_ok (decide_eq_true (by have:=hn.up (by omega);omega)) (ra_ok (decide_eq_false (by omega)) (ra_ok (wi_eq rfl (by omega)) (ra_ok (wi_eq rfl (by omega)) ae_nil _) _) _) _) _) _) (aob_cons rfl aob_nil) (fun s=>canB_ok (by kernel_rfl)) (by kernel_rfl)
theorem zv_f2C (s:Asg) {vn:Int} {ve:Int} (hn:MvH vn) (he:MvH ve) (h1:vn<100) (h2:¬ve > -100):ToP Tryz.prog 92 (c2 (c2 (c2 (c2 (c2 (c2 ((bodyF Tryz.prog 4)))))))) (filS2 s ⟨[(0,.one (qS vn)),(1,.one (qS ve)),(2,.one (qI 2)),(7,.one (qL (.ptr 31 0)))],zvM23 vn ve,583⟩) .ret (Fil2 ⟨[(6,.one (qR (.bool true)))],[],583⟩):=
 ToP.run2 (z:=⟨false,false,false⟩) (n:=20000) (dec:=(nn 10 (tt 3 (nn 1 (tt 1 (nn 4 (ff 3 (nn 1 (ff 1 (nn 1 [])))))))))) (mask:=(mskO 10 [])) (os:=(ra 4 (decide (ve > -100),false) (ra 4 (decide (vn<100),true) (ra 1 (wiB (mvV ve) (mulDivV ve 1073741824 1000) 53687091,true) (ra 1 (wiB (mvV vn) (mulDivV vn 1073741824 1000) 53687091,true) []))))) (es:=[.oa (.bool (decide (3*mvW ve<0))) (.bool true)]) soundAW (fun dead=>by kernel_rfl) (ra_ok (decide_eq_false (by omega)) (ra_ok (decide_eq_true (by omega)) (ra_ok (wi_eq rfl (by omega)) (ra_ok (wi_eq rfl (by omega)) ae_nil _) _) _) _) (aob_cons (congrArg At.bool (decide_eq_true (by have:=he.dn (by omega);omega))) aob_nil) (fun s=>canB_ok (by kernel_rfl)) (by kernel_rfl)
theorem zv_f2D (s:Asg) {vn:Int} {ve:Int} (hn:MvH vn) (he:MvH ve) (h1:¬vn<100) (h2:¬ve > -100):ToP Tryz.prog 92 (c2 (c2 (c2 (c2 (c2 (c2 ((bodyF Tryz.prog 4)))))))) (filS2 s ⟨[(0,.one (qS vn)),(1,.one (qS ve)),(2,.one (qI 2)),(7,.one (qL (.ptr 31 0)))],zvM23 vn ve,583⟩) .ret (Fil2 ⟨[(6,.one (qR (.bool true)))],[],583⟩):=
 ToP.run2 (z:=⟨false,false,false⟩) (n:=20000) (dec:=(nn 10 (ff 3 (nn 1 (ff 1 (nn 1 (tt 3 (ff 3 (tt 1 (ff 1 (tt 1 []))))))))))) (mask:=(mskO 15 [])) (os:=(ra 2 (decide (3*mvW vn>0),true) (ra 4 (decide (ve > -100),false) (ra 3 (decide (3*mvW vn>0),true) (ra 4 (decide (vn<100),false) (ra 1 (wiB (mvV ve) (mulDivV ve 1073741824 1000) 53687091,true) (ra 1 (wiB (mvV vn) (mulDivV vn 1073741824 1000) 53687091,true) []))))))) (es:=[.oa (.bool (decide (3*mvW ve<0))) (.bool true)]) soundAW (fun dead=>by kernel_rfl) (ra_ok (decide_eq_true (by have:=hn.up (by omega);omega)) (ra_ok (decide_eq_false (by omega)) (ra_ok (decide_eq_true (by have:=hn.up (by omega);omega)) (ra_ok (decide_eq_false (by omega)) (ra_ok (wi_eq rfl (by omega)) (ra_ok (wi_eq rfl (by omega)) ae_nil _) _) _) _) _) _) (aob_cons (congrArg At.bool (decide_eq_true (by have:=he.dn (by omega);omega))) aob_nil) (fun s=>canB_ok (by kernel_rfl)) (by kernel_rfl)
theorem zv_e3 (s:Asg) {vn:Int} {ve:Int}:ToP Tryz.prog 92 (c1 (c1 (c2 (c1 (c2 (c2 (c2 (c2 (c2 ((bodyF Tryz.prog 4))))))))))) (filS2 s ⟨[(0,.one (qS vn)),(1,.one (qS ve)),(2,.one (qI 3)),(7,.one (qL (.ptr 31 0))),(8,.one (qI 3))],zvM24 vn ve,600⟩) (.exit 0) (Fil2 ⟨[(0,.one (qS vn)),(1,.one (qS ve)),(2,.one (qI 3)),(7,.one (qL (.ptr 31 0)))],zvM24 vn ve,600⟩):=
 ToP.run2 (z:=⟨false,false,false⟩) (n:=20000) (dec:=(ff 1 [])) (mask:=(mskC 1 [])) (os:=[]) (es:=[.oi vn vn,.oi ve ve,.oi (mvV vn) (mvV vn),.oi (mvV ve) (mvV ve),.oi (4*mvW vn) (4*mvW vn),.oi (4*mvW ve) (4*mvW ve)]) soundAF (fun dead=>by kernel_rfl) ae_nil (aob_cons rfl (aob_cons rfl (aob_cons rfl (aob_cons rfl (aob_cons rfl (aob_cons rfl aob_nil)))))) (fun s=>canB_ok (by kernel_rfl)) (by kernel_rfl)
theorem zv_f3A (s:Asg) {vn:Int} {ve:Int} (hn:MvH vn) (he:MvH ve) (h1:vn<100) (h2:ve > -100):ToP Tryz.prog 92 (c2 (c2 (c2 (c2 (c2 (c2 ((bodyF Tryz.prog 4)))))))) (filS2 s ⟨[(0,.one (qS vn)),(1,.one (qS ve)),(2,.one (qI 3)),(7,.one (qL (.ptr 31 0)))],zvM24 vn ve,600⟩) .ret (Fil2 ⟨[(6,.one (qR (.bool true)))],[],600⟩):=
 ToP.run2 (z:=⟨false,false,false⟩) (n:=20000) (dec:=(nn 10 (tt 3 (nn 1 (tt 1 (nn 4 (tt 3 (nn 1 (tt 1 (nn 1 [])))))))))) (mask:=(mskO 10 [])) (os:=(ra 4 (decide (ve > -100),true) (ra 4 (decide (vn<100),true) (ra 1 (wiB (mvV ve) (mulDivV ve 1073741824 1000) 53687091,true) (ra 1 (wiB (mvV vn) (mulDivV vn 1073741824 1000) 53687091,true) []))))) (es:=[.oa (.bool true) (.bool true)]) soundAW (fun dead=>by kernel_rfl) (ra_ok (decide_eq_true (by omega)) (ra_ok (decide_eq_true (by omega)) (ra_ok (wi_eq rfl (by omega)) (ra_ok (wi_eq rfl (by omega)) ae_nil _) _) _) _) (aob_cons rfl aob_nil) (fun s=>canB_ok (by kernel_rfl)) (by kernel_rfl)
theorem zv_f3B (s:Asg) {vn:Int} {ve:Int} (hn:MvH vn) (he:MvH ve) (h1:¬vn<100) (h2:ve > -100):ToP Tryz.prog 92 (c2 (c2 (c2 (c2 (c2 (c2 ((bodyF Tryz.prog 4)))))))) (filS2 s ⟨[(0,.one (qS vn)),(1,.one (qS ve)),(2,.one (qI 3)),(7,.one (qL (.ptr 31 0)))],zvM24 vn ve,600⟩) .ret (Fil2 ⟨[(6,.one (qR (.bool true)))],[],600⟩):=
 ToP.run2 (z:=⟨false,false,false⟩) (n:=20000) (dec:=(nn 10 (ff 3 (nn 1 (ff 1 (nn 1 (tt 9 []))))))) (mask:=(mskO 15 [])) (os:=(ra 2 (decide (4*mvW vn>0),true) (ra 4 (decide (ve > -100),true) (ra 3 (decide (4*mvW vn>0),true) (ra 4 (decide (vn<100),false) (ra 1 (wiB (mvV ve) (mulDivV ve 1073741824 1000) 53687091,true) (ra 1 (wiB (mvV vn) (mulDivV vn 1073741824 1000) 53687091,true) []))))))) (es:=[.oa (.bool true) (.bool true)]) soundAW (fun dead=>by kernel_rfl) (ra_ok (decide_eq_true (by have:=hn.up (by omega);omega)) (ra_ok (decide_eq_true (by omega)) (ra_ok (decide_eq_true (by have:=hn.up (by omega);omega)) (ra_ok (decide_eq_false (by omega)) (ra_ok (wi_eq rfl (by omega)) (ra_ok (wi_eq rfl (by omega)) ae_nil _) _) _) _) _) _) (aob_cons rfl aob_nil) (fun s=>canB_ok (by kernel_rfl)) (by kernel_rfl)
theorem zv_f3C (s:Asg) {vn:Int} {ve:Int} (hn:MvH vn) (he:MvH ve) (h1:vn<100) (h2:¬ve > -100):ToP Tryz.prog 92 (c2 (c2 (c2 (c2 (c2 (c2 ((bodyF Tryz.prog 4)))))))) (filS2 s ⟨[(0,.one (qS vn)),(1,.one (qS ve)),(2,.one (qI 3)),(7,.one (qL (.ptr 31 0)))],zvM24 vn ve,600⟩) .ret (Fil2 ⟨[(6,.one (qR (.bool true)))],[],600⟩):=
 ToP.run2 (z:=⟨false,false,false⟩) (n:=20000) (dec:=(nn 10 (tt 3 (nn 1 (tt 1 (nn 4 (ff 3 (nn 1 (ff 1 (nn 1 [])))))))))) (mask:=(mskO 10 [])) (os:=(ra 4 (decide (ve > -100),false) (ra 4 (decide (vn<100),true) (ra 1 (wiB (mvV ve) (mulDivV ve 1073741824 1000) 53687091,true) (ra 1 (wiB (mvV vn) (mulDivV vn 1073741824 1000) 53687091,true) []))))) (es:=[.oa (.bool (decide (4*mvW ve<0))) (.bool true)]) soundAW (fun dead=>by kernel_rfl) (ra_ok (decide_eq_false (by omega)) (ra_ok (decide_eq_true (by omega)) (ra_ok (wi_eq rfl (by omega)) (ra_ok (wi_eq rfl (by omega)) ae_nil _) _) _) _) (aob_cons (congrArg At.bool (decide_eq_true (by have:=he.dn (by omega);omega))) aob_nil) (fun s=>canB_ok (by kernel_rfl)) (by kernel_rfl)
theorem zv_f3D (s:Asg) {vn:Int} {ve:Int} (hn:MvH vn) (he:MvH ve) (h1:¬vn<100) (h2:¬ve > -100):ToP Tryz.prog 92 (c2 (c2 (c2 (c2 (c2 (c2 ((bodyF Tryz.prog 4)))))))) (filS2 s ⟨[(0,.one (qS vn)),(1,.one (qS ve)),(2,.one (qI 3)),(7,.one (qL (.ptr 31 0)))],zvM24 vn ve,600⟩) .ret (Fil2 ⟨[(6,.one (qR (.bool true)))],[],600⟩):=
 ToP.run2 (z:=⟨false,false,false⟩) (n:=20000) (dec:=(nn 10 (ff 3 (nn 1 (ff 1 (nn 1 (tt 3 (ff 3 (tt 1 (ff 1 (tt 1 []))))))))))) (mask:=(mskO 15 [])) (os:=(ra 2 (decide (4*mvW vn>0),true) (ra 4 (decide (ve > -100),false) (ra 3 (decide (4*mvW vn>0),true) (ra 4 (decide (vn<100),false) (ra 1 (wiB (mvV ve) (mulDivV ve 1073741824 1000) 53687091,true) (ra 1 (wiB (mvV vn) (mulDivV vn 1073741824 1000) 53687091,true) []))))))) (es:=[.oa (.bool (decide (4*mvW ve<0))) (.bool true)]) soundAW (fun dead=>by kernel_rfl) (ra_ok (decide_eq_true (by have:=hn.up (by omega);omega)) (ra_ok (decide_eq_false (by omega)) (ra_ok (decide_eq_true (by have:=hn.up (by omega);omega)) (ra_ok (decide_eq_false (by omega)) (ra_ok (wi_eq rfl (by omega)) (ra_ok (wi_eq rfl (by omega)) ae_nil _) _) _) _) _) _) (aob_cons (congrArg At.bool (decide_eq_true (by have:=he.dn (by omega);omega))) aob_nil) (fun s=>canB_ok (by kernel_rfl)) (by kernel_rfl)
theorem zv_e4 (s:Asg) {vn:Int} {ve:Int}:ToP Tryz.prog 92 (c1 (c1 (c2 (c1 (c2 (c2 (c2 (c2 (c2 ((bodyF Tryz.prog 4))))))))))) (filS2 s ⟨[(0,.one (qS vn)),(1,.one (qS ve)),(2,.one (qI 4)),(7,.one (qL (.ptr 31 0))),(8,.one (qI 4))],zvM25 vn ve,617⟩) (.exit 0) (Fil2 ⟨[(0,.one (qS vn)),(1,.one (qS ve)),(2,.one (qI 4)),(7,.one (qL (.ptr 31 0)))],zvM25 vn ve,617⟩):=
 ToP.run2 (z:=⟨false,false,false⟩) (n:=20000) (dec:=(ff 1 [])) (mask:=(mskC 1 [])) (os:=[]) (es:=[.oi vn vn,.oi ve ve,.oi (mvV vn) (mvV vn),.oi (mvV ve) (mvV ve),.oi (5*mvW vn) (5*mvW vn),.oi (5*mvW ve) (5*mvW ve)]) soundAF (fun dead=>by kernel_rfl) ae_nil (aob_cons rfl (aob_cons rfl (aob_cons rfl (aob_cons rfl (aob_cons rfl (aob_cons rfl aob_nil)))))) (fun s=>canB_ok (by kernel_rfl)) (by kernel_rfl)
theorem zv_f4A (s:Asg) {vn:Int} {ve:Int} (hn:MvH vn) (he:MvH ve) (h1:vn<100) (h2:ve > -100):ToP Tryz.prog 92 (c2 (c2 (c2 (c2 (c2 (c2 ((bodyF Tryz.prog 4)))))))) (filS2 s ⟨[(0,.one (qS vn)),(1,.one (qS ve)),(2,.one (qI 4)),(7,.one (qL (.ptr 31 0)))],zvM25 vn ve,617⟩) .ret (Fil2 ⟨[(6,.one (qR (.bool true)))],[],617⟩):=
 ToP.run2 (z:=⟨false,false,false⟩) (n:=20000) (dec:=(nn 10 (tt 3 (nn 1 (tt 1 (nn 4 (tt 3 (nn 1 (tt 1 (nn 1 [])))))))))) (mask:=(mskO 10 [])) (os:=(ra 4 (decide (ve > -100),true) (ra 4 (decide (vn<100),true) (ra 1 (wiB (mvV ve) (mulDivV ve 1073741824 1000) 53687091,true) (ra 1 (wiB (mvV vn) (mulDivV vn 1073741824 1000) 53687091,true) []))))) (es:=[.oa (.bool true) (.bool true)]) soundAW (fun dead=>by kernel_rfl) (ra_ok (decide_eq_true (by omega)) (ra_ok (decide_eq_true (by omega)) (ra_ok (wi_eq rfl (by omega)) (ra_ok (wi_eq rfl (by omega)) ae_nil _) _) _) _) (aob_cons rfl aob_nil) (fun s=>canB_ok (by kernel_rfl)) (by kernel_rfl)
theorem zv_f4B (s:Asg) {vn:Int} {ve:Int} (hn:MvH vn) (he:MvH ve) (h1:¬vn<100) (h2:ve > -100):ToP Tryz.prog 92 (c2 (c2 (c2 (c2 (c2 (c2 ((bodyF Tryz.prog 4)))))))) (filS2 s ⟨[(0,.one (qS vn)),(1,.one (qS ve)),(2,.one (qI 4)),(7,.one (qL (.ptr 31 0)))],zvM25 vn ve,617⟩) .ret (Fil2 ⟨[(6,.one (qR (.bool true)))],[],617⟩):=
 ToP.run2 (z:=⟨false,false,false⟩) (n:=20000) (dec:=(nn 10 (ff 3 (nn 1 (ff 1 (nn 1 (tt 9 []))))))) (mask:=(mskO 15 [])) (os:=(ra 2 (decide (5*mvW vn>0),true) (ra 4 (decide (ve > -100),true) (ra 3 (decide (5*mvW vn>0),true) (ra 4 (decide (vn<100),false) (ra 1 (wiB (mvV ve) (mulDivV ve 1073741824 1000) 53687091,true) (ra 1 (wiB (mvV vn) (mulDivV vn 1073741824 1000) 53687091,true) []))))))) (es:=[.oa (.bool true) (.bool true)]) soundAW (fun dead=>by kernel_rfl) (ra_ok (decide_eq_true (by have:=hn.up (by omega);omega)) (ra_ok (decide_eq_true (by omega)) (ra_ok (decide_eq_true (by have:=hn.up (by omega);omega)) (ra_ok (decide_eq_false (by omega)) (ra_ok (wi_eq rfl (by omega)) (ra_ok (wi_eq rfl (by omega)) ae_nil _) _) _) _) _) _) (aob_cons rfl aob_nil) (fun s=>canB_ok (by kernel_rfl)) (by kernel_rfl)
theorem zv_f4C (s:Asg) {vn:Int} {ve:Int} (hn:MvH vn) (he:MvH ve) (h1:vn<100) (h2:¬ve > -100):ToP Tryz.prog 92 (c2 (c2 (c2 (c2 (c2 (c2 ((bodyF Tryz.prog 4)))))))) (filS2 s ⟨[(0,.one (qS vn)),(1,.one (qS ve)),(2,.one (qI 4)),(7,.one (qL (.ptr 31 0)))],zvM25 vn ve,617⟩) .ret (Fil2 ⟨[(6,.one (qR (.bool true)))],[],617⟩):=
 ToP.run2 (z:=⟨false,false,false⟩) (n:=20000) (dec:=(nn 10 (tt 3 (nn 1 (tt 1 (nn 4 (ff 3 (nn 1 (ff 1 (nn 1 [])))))))))) (mask:=(mskO 10 [])) (os:=(ra 4 (decide (ve > -100),false) (ra 4 (decide (vn<100),true) (ra 1 (wiB (mvV ve) (mulDivV ve 1073741824 1000) 53687091,true) (ra 1 (wiB (mvV vn) (mulDivV vn 1073741824 1000) 53687091,true) []))))) (es:=[.oa (.bool (decide (5*mvW ve<0))) (.bool true)]) soundAW (fun dead=>by kernel_rfl) (ra_ok (decide_eq_false (by omega)) (ra_ok (decide_eq_true (by omega)) (ra_ok (wi_eq rfl (by omega)) (ra_ok (wi_eq rfl (by omega)) ae_nil _) _) _) _) (aob_cons (congrArg At.bool (decide_eq_true (by have:=he.dn (by omega);omega))) aob_nil) (fun s=>canB_ok (by kernel_rfl)) (by kernel_rfl)
theorem zv_f4D (s:Asg) {vn:Int} {ve:Int} (hn:MvH vn) (he:MvH ve) (h1:¬vn<100) (h2:¬ve > -100):ToP Tryz.prog 92 (c2 (c2 (c2 (c2 (c2 (c2 ((bodyF Tryz.prog 4)))))))) (filS2 s ⟨[(0,.one (qS vn)),(1,.one (qS ve)),(2,.one (qI 4)),(7,.one (qL (.ptr 31 0)))],zvM25 vn ve,617⟩) .ret (Fil2 ⟨[(6,.one (qR (.bool true)))],[],617⟩):=
 ToP.run2 (z:=⟨false,false,false⟩) (n:=20000) (dec:=(nn 10 (ff 3 (nn 1 (ff 1 (nn 1 (tt 3 (ff 3 (tt 1 (ff 1 (tt 1 []))))))))))) (mask:=(mskO 15 [])) (os:=(ra 2 (decide (5*mvW vn>0),true) (ra 4 (decide (ve > -100),false) (ra 3 (decide (5*mvW vn>0),true) (ra 4 (decide (vn<100),false) (ra 1 (wiB (mvV ve) (mulDivV ve 1073741824 1000) 53687091,true) (ra 1 (wiB (mvV vn) (mulDivV vn 1073741824 1000) 53687091,true) []))))))) (es:=[.oa (.bool (decide (5*mvW ve<0))) (.bool true)]) soundAW (fun dead=>by kernel_rfl) (ra_ok (decide_eq_true (by have:=hn.up (by omega);omega)) (ra_ok (decide_eq_false (by omega)) (ra_ok (decide_eq_true (by have:=hn.up (by omega);omega)) (ra_ok (decide_eq_false (by omega)) (ra_ok (wi_eq rfl (by omega)) (ra_ok (wi_eq rfl (by omega)) ae_nil _) _) _) _) _) _) (aob_cons (congrArg At.bool (decide_eq_true (by have:=he.dn (by omega);omega))) aob_nil) (fun s=>canB_ok (by kernel_rfl)) (by kernel_rfl)
theorem zv_e5 (s:Asg) {vn:Int} {ve:Int}:ToP Tryz.prog 92 (c1 (c1 (c2 (c1 (c2 (c2 (c2 (c2 (c2 ((bodyF Tryz.prog 4))))))))))) (filS2 s ⟨[(0,.one (qS vn)),(1,.one (qS ve)),(2,.one (qI 5)),(7,.one (qL (.ptr 31 0))),(8,.one (qI 5))],zvM26 vn ve,634⟩) (.exit 0) (Fil2 ⟨[(0,.one (qS vn)),(1,.one (qS ve)),(2,.one (qI 5)),(7,.one (qL (.ptr 31 0)))],zvM26 vn ve,634⟩):=
 ToP.run2 (z:=⟨false,false,false⟩) (n:=20000) (dec:=(ff 1 [])) (mask:=(mskC 1 [])) (os:=[]) (es:=[.oi vn vn,.oi ve ve,.oi (mvV vn) (mvV vn),.oi (mvV ve) (mvV ve),.oi (6*mvW vn) (6*mvW vn),.oi (6*mvW ve) (6*mvW ve)]) soundAF (fun dead=>by kernel_rfl) ae_nil (aob_cons rfl (aob_cons rfl (aob_cons rfl (aob_cons rfl (aob_cons rfl (aob_cons rfl aob_nil)))))) (fun s=>canB_ok (by kernel_rfl)) (by kernel_rfl)
theorem zv_f5A (s:Asg) {vn:Int} {ve:Int} (hn:MvH vn) (he:MvH ve) (h1:vn<100) (h2:ve > -100):ToP Tryz.prog 92 (c2 (c2 (c2 (c2 (c2 (c2 ((bodyF Tryz.prog 4)))))))) (filS2 s ⟨[(0,.one (qS vn)),(1,.one (qS ve)),(2,.one (qI 5)),(7,.one (qL (.ptr 31 0)))],zvM26 vn ve,634⟩) .ret (Fil2 ⟨[(6,.one (qR (.bool true)))],[],634⟩):=
 ToP.run2 (z:=⟨false,false,false⟩) (n:=20000) (dec:=(nn 10 (tt 3 (nn 1 (tt 1 (nn 4 (tt 3 (nn 1 (tt 1 (nn 1 [])))))))))) (mask:=(mskO 10 [])) (os:=(ra 4 (decide (ve > -100),true) (ra 4 (decide (vn<100),true) (ra 1 (wiB (mvV ve) (mulDivV ve 1073741824 1000) 53687091,true) (ra 1 (wiB (mvV vn) (mulDivV vn 1073741824 1000) 53687091,true) []))))) (es:=[.oa (.bool true) (.bool true)]) soundAW (fun dead=>by kernel_rfl) (ra_ok (decide_eq_true (by omega)) (ra_ok (decide_eq_true (by omega)) (ra_ok (wi_eq rfl (by omega)) (ra_ok (wi_eq rfl (by omega)) ae_nil _) _) _) _) (aob_cons rfl aob_nil) (fun s=>canB_ok (by kernel_rfl)) (by kernel_rfl)
theorem zv_f5B (s:Asg) {vn:Int} {ve:Int} (hn:MvH vn) (he:MvH ve) (h1:¬vn<100) (h2:ve > -100):ToP Tryz.prog 92 (c2 (c2 (c2 (c2 (c2 (c2 ((bodyF Tryz.prog 4)))))))) (filS2 s ⟨[(0,.one (qS vn)),(1,.one (qS ve)),(2,.one (qI 5)),(7,.one (qL (.ptr 31 0)))],zvM26 vn ve,634⟩) .ret (Fil2 ⟨[(6,.one (qR (.bool true)))],[],634⟩):=
 ToP.run2 (z:=⟨false,false,false⟩) (n:=20000) (dec:=(nn 10 (ff 3 (nn 1 (ff 1 (nn 1 (tt 9 []))))))) (mask:=(mskO 15 [])) (os:=(ra 2 (decide (6*mvW vn>0),true) (ra 4 (decide (ve > -100),true) (ra 3 (decide (6*mvW vn>0),true) (ra 4 (decide (vn<100),false) (ra 1 (wiB (mvV ve) (mulDivV ve 1073741824 1000) 53687091,true) (ra 1 (wiB (mvV vn) (mulDivV vn 1073741824 1000) 53687091,true) []))))))) (es:=[.oa (.bool true) (.bool true)]) soundAW (fun dead=>by kernel_rfl) (ra_ok (decide_eq_true (by have:=hn.up (by omega);omega)) (ra_ok (decide_eq_true (by omega)) (ra_ok (decide_eq_true (by have:=hn.up (by omega);omega)) (ra_ok (decide_eq_false (by omega)) (ra_ok (wi_eq rfl (by omega)) (ra_ok (wi_eq rfl (by omega)) ae_nil _) _) _) _) _) _) (aob_cons rfl aob_nil) (fun s=>canB_ok (by kernel_rfl)) (by kernel_rfl)
theorem zv_f5C (s:Asg) {vn:Int} {ve:Int} (hn:MvH vn) (he:MvH ve) (h1:vn<100) (h2:¬ve > -100):ToP Tryz.prog 92 (c2 (c2 (c2 (c2 (c2 (c2 ((bodyF Tryz.prog 4)))))))) (filS2 s ⟨[(0,.one (qS vn)),(1,.one (qS ve)),(2,.one (qI 5)),(7,.one (qL (.ptr 31 0)))],zvM26 vn ve,634⟩) .ret (Fil2 ⟨[(6,.one (qR (.bool true)))],[],634⟩):=
 ToP.run2 (z:=⟨false,false,false⟩) (n:=20000) (dec:=(nn 10 (tt 3 (nn 1 (tt 1 (nn 4 (ff 3 (nn 1 (ff 1 (nn 1 [])))))))))) (mask:=(mskO 10 [])) (os:=(ra 4 (decide (ve > -100),false) (ra 4 (decide (vn<100),true) (ra 1 (wiB (mvV ve) (mulDivV ve 1073741824 1000) 53687091,true) (ra 1 (wiB (mvV vn) (mulDivV vn 1073741824 1000) 53687091,true) []))))) (es:=[.oa (.bool (decide (6*mvW ve<0))) (.bool true)]) soundAW (fun dead=>by kernel_rfl) (ra_ok (decide_eq_false (by omega)) (ra_ok (decide_eq_true (by omega)) (ra_ok (wi_eq rfl (by omega)) (ra_ok (wi_eq rfl (by omega)) ae_nil _) _) _) _) (aob_cons (congrArg At.bool (decide_eq_true (by have:=he.dn (by omega);omega))) aob_nil) (fun s=>canB_ok (by kernel_rfl)) (by kernel_rfl)
theorem zv_f5D (s:Asg) {vn:Int} {ve:Int} (hn:MvH vn) (he:MvH ve) (h1:¬vn<100) (h2:¬ve > -100):ToP Tryz.prog 92 (c2 (c2 (c2 (c2 (c2 (c2 ((bodyF Tryz.prog 4)))))))) (filS2 s ⟨[(0,.one (qS vn)),(1,.one (qS ve)),(2,.one (qI 5)),(7,.one (qL (.ptr 31 0)))],zvM26 vn ve,634⟩) .ret (Fil2 ⟨[(6,.one (qR (.bool true)))],[],634⟩):=
 ToP.run2 (z:=⟨false,false,false⟩) (n:=20000) (dec:=(nn 10 (ff 3 (nn 1 (ff 1 (nn 1 (tt 3 (ff 3 (tt 1 (ff 1 (tt 1 []))))))))))) (mask:=(mskO 15 [])) (os:=(ra 2 (decide (6*mvW vn>0),true) (ra 4 (decide (ve > -100),false) (ra 3 (decide (6*mvW vn>0),true) (ra 4 (decide (vn<100),false) (ra 1 (wiB (mvV ve) (mulDivV ve 1073741824 1000) 53687091,true) (ra 1 (wiB (mvV vn) (mulDivV vn 1073741824 1000) 53687091,true) []))))))) (es:=[.oa (.bool (decide (6*mvW ve<0))) (.bool true)]) soundAW (fun dead=>by kernel_rfl) (ra_ok (decide_eq_true (by have:=hn.up (by omega);omega)) (ra_ok (decide_eq_false (by omega)) (ra_ok (decide_eq_true (by have:=hn.up (by omega);omega)) (ra_ok (decide_eq_false (by omega)) (ra_ok (wi_eq rfl (by omega)) (ra_ok (wi_eq rfl (by omega)) ae_nil _) _) _) _) _) _) (aob_cons (congrArg At.bool (decide_eq_true (by have:=he.dn (by omega);omega))) aob_nil) (fun s=>canB_ok (by kernel_rfl)) (by kernel_rfl)
abbrev zvF (y:Kst):Prop:=∃s j,y=filS2 s ⟨[(6,.one (qR (.bool true)))],[],j⟩
abbrev zvN (x:Kst):Prop:=ToR Tryz.prog 92 0 (c2 (c2 (c2 (c2 (c2 (c2 ((bodyF Tryz.prog 4)))))))) x .ret zvF
theorem zv_R1 (s:Asg) {vn ve:Int} (hn:MvH vn) (he:MvH ve):zvN (filS2 s ⟨[(0,.one (qS vn)),(1,.one (qS ve)),(2,.one (qI 1)),(7,.one (qL (.ptr 31 0)))],zvM22 vn ve,566⟩):=by
 by_cases h1:vn<100
 ·by_cases h2:ve > -100
  ·exact (ToR.of_ToP (zv_f1A s hn he h1 h2) (by kernel_rfl)).mono (by rintro x ⟨s,rfl⟩;exact ⟨s,_,rfl⟩)
  ·exact (ToR.of_ToP (zv_f1C s hn he h1 h2) (by kernel_rfl)).mono (by rintro x ⟨s,rfl⟩;exact ⟨s,_,rfl⟩)
 ·by_cases h2:ve > -100
  ·exact (ToR.of_ToP (zv_f1B s hn he h1 h2) (by kernel_rfl)).mono (by rintro x ⟨s,rfl⟩;exact ⟨s,_,rfl⟩)
  ·exact (ToR.of_ToP (zv_f1D s hn he h1 h2) (by kernel_rfl)).mono (by rintro x ⟨s,rfl⟩;exact ⟨s,_,rfl⟩)
theorem zv_R2 (s:Asg) {vn ve:Int} (hn:MvH vn) (he:MvH ve):zvN (filS2 s ⟨[(0,.one (qS vn)),(1,.one (qS ve)),(2,.one (qI 2)),(7,.one (qL (.ptr 31 0)))],zvM23 vn ve,583⟩):=by
 by_cases h1:vn<100
 ·by_cases h2:ve > -100
  ·exact (ToR.of_ToP (zv_f2A s hn he h1 h2) (by kernel_rfl)).mono (by rintro x ⟨s,rfl⟩;exact ⟨s,_,rfl⟩)
  ·exact (ToR.of_ToP (zv_f2C s hn he h1 h2) (by kernel_rfl)).mono (by rintro x ⟨s,rfl⟩;exact ⟨s,_,rfl⟩)
 ·by_cases h2:ve > -100
  ·exact (ToR.of_ToP (zv_f2B s hn he h1 h2) (by kernel_rfl)).mono (by rintro x ⟨s,rfl⟩;exact ⟨s,_,rfl⟩)
  ·exact (ToR.of_ToP (zv_f2D s hn he h1 h2) (by kernel_rfl)).mono (by rintro x ⟨s,rfl⟩;exact ⟨s,_,rfl⟩)
theorem zv_R3 (s:Asg) {vn ve:Int} (hn:MvH vn) (he:MvH ve):zvN (filS2 s ⟨[(0,.one (qS vn)),(1,.one (qS ve)),(2,.one (qI 3)),(7,.one (qL (.ptr 31 0)))],zvM24 vn ve,600⟩):=by
 by_cases h1:vn<100
 ·by_cases h2:ve > -100
  ·exact (ToR.of_ToP (zv_f3A s hn he h1 h2) (by kernel_rfl)).mono (by rintro x ⟨s,rfl⟩;exact ⟨s,_,rfl⟩)
  ·exact (ToR.of_ToP (zv_f3C s hn he h1 h2) (by kernel_rfl)).mono (by rintro x ⟨s,rfl⟩;exact ⟨s,_,rfl⟩)
 ·by_cases h2:ve > -100
  ·exact (ToR.of_ToP (zv_f3B s hn he h1 h2) (by kernel_rfl)).mono (by rintro x ⟨s,rfl⟩;exact ⟨s,_,rfl⟩)
  ·exact (ToR.of_ToP (zv_f3D s hn he h1 h2) (by kernel_rfl)).mono (by rintro x ⟨s,rfl⟩;exact ⟨s,_,rfl⟩)
theorem zv_R4 (s:Asg) {vn ve:Int} (hn:MvH vn) (he:MvH ve):zvN (filS2 s ⟨[(0,.one (qS vn)),(1,.one (qS ve)),(2,.one (qI 4)),(7,.one (qL (.ptr 31 0)))],zvM25 vn ve,617⟩):=by
 by_cases h1:vn<100
 ·by_cases h2:ve > -100
  ·exact (ToR.of_ToP (zv_f4A s hn he h1 h2) (by kernel_rfl)).mono (by rintro x ⟨s,rfl⟩;exact ⟨s,_,rfl⟩)
  ·exact (ToR.of_ToP (zv_f4C s hn he h1 h2) (by kernel_rfl)).mono (by rintro x ⟨s,rfl⟩;exact ⟨s,_,rfl⟩)
 ·by_cases h2:ve > -100
  ·exact (ToR.of_ToP (zv_f4B s hn he h1 h2) (by kernel_rfl)).mono (by rintro x ⟨s,rfl⟩;exact ⟨s,_,rfl⟩)
  ·exact (ToR.of_ToP (zv_f4D s hn he h1 h2) (by kernel_rfl)).mono (by rintro x ⟨s,rfl⟩;exact ⟨s,_,rfl⟩)
theorem zv_R5 (s:Asg) {vn ve:Int} (hn:MvH vn) (he:MvH ve):zvN (filS2 s ⟨[(0,.one (qS vn)),(1,.one (qS ve)),(2,.one (qI 5)),(7,.one (qL (.ptr 31 0)))],zvM26 vn ve,634⟩):=by
 by_cases h1:vn<100
 ·by_cases h2:ve > -100
  ·exact (ToR.of_ToP (zv_f5A s hn he h1 h2) (by kernel_rfl)).mono (by rintro x ⟨s,rfl⟩;exact ⟨s,_,rfl⟩)
  ·exact (ToR.of_ToP (zv_f5C s hn he h1 h2) (by kernel_rfl)).mono (by rintro x ⟨s,rfl⟩;exact ⟨s,_,rfl⟩)
 ·by_cases h2:ve > -100
  ·exact (ToR.of_ToP (zv_f5B s hn he h1 h2) (by kernel_rfl)).mono (by rintro x ⟨s,rfl⟩;exact ⟨s,_,rfl⟩)
  ·exact (ToR.of_ToP (zv_f5D s hn he h1 h2) (by kernel_rfl)).mono (by rintro x ⟨s,rfl⟩;exact ⟨s,_,rfl⟩)
theorem zv_W5 (s:Asg) {vn ve n:Int} (hn:MvH vn) (he:MvH ve) (h0:5≤n) (h1:n≤5):RdR Tryz.prog 92 0 (c1 (c1 (c2 (c1 (c2 (c2 (c2 (c2 (c2 ((bodyF Tryz.prog 4))))))))))) ((n - 5).toNat+1) (filS2 s ⟨[(0,.one (qS vn)),(1,.one (qS ve)),(2,.one (qS n)),(7,.one (qL (.ptr 31 0))),(8,.one (qI 5))],zvM26 vn ve,634⟩) (.exit 0) zvN:=by
 obtain rfl:n=5:=by omega
 exact RdR.last (by simp) ((ToR.of_ToP (zv_e5 s) (by kernel_rfl)).mono (by rintro x ⟨s,rfl⟩;exact zv_R5 s hn he))
theorem zv_W4 (s:Asg) {vn ve n:Int} (hn:MvH vn) (he:MvH ve) (h0:4≤n) (h1:n≤5):RdR Tryz.prog 92 0 (c1 (c1 (c2 (c1 (c2 (c2 (c2 (c2 (c2 ((bodyF Tryz.prog 4))))))))))) ((n - 4).toNat+1) (filS2 s ⟨[(0,.one (qS vn)),(1,.one (qS ve)),(2,.one (qS n)),(7,.one (qL (.ptr 31 0))),(8,.one (qI 4))],zvM25 vn ve,617⟩) (.exit 0) zvN:=by
 by_cases h2:4<n
 ·rw [show (n - 4).toNat=(n - 5).toNat+1 by omega]
  exact RdR.next (ToR.of_ToP (zv_k5 s hn he (by omega)) (by kernel_rfl)) (by rintro x ⟨s,rfl⟩;exact zv_W5 s hn he (by omega) h1)
 ·obtain rfl:n=4:=by omega
  exact RdR.last (by simp) ((ToR.of_ToP (zv_e4 s) (by kernel_rfl)).mono (by rintro x ⟨s,rfl⟩;exact zv_R4 s hn he))
theorem zv_W3 (s:Asg) {vn ve n:Int} (hn:MvH vn) (he:MvH ve) (h0:3≤n) (h1:n≤5):RdR Tryz.prog 92 0 (c1 (c1 (c2 (c1 (c2 (c2 (c2 (c2 (c2 ((bodyF Tryz.prog 4))))))))))) ((n - 3).toNat+1) (filS2 s ⟨[(0,.one (qS vn)),(1,.one (qS ve)),(2,.one (qS n)),(7,.one (qL (.ptr 31 0))),(8,.one (qI 3))],zvM24 vn ve,600⟩) (.exit 0) zvN:=by
 by_cases h2:3<n
 ·rw [show (n - 3).toNat=(n - 4).toNat+1 by omega]
  exact RdR.next (ToR.of_ToP (zv_k4 s hn he (by omega)) (by kernel_rfl)) (by rintro x ⟨s,rfl⟩;exact zv_W4 s hn he (by omega) h1)
 ·obtain rfl:n=3:=by omega
  exact RdR.last (by simp) ((ToR.of_ToP (zv_e3 s) (by kernel_rfl)).mono (by rintro x ⟨s,rfl⟩;exact zv_R3 s hn he))
theorem zv_W2 (s:Asg) {vn ve n:Int} (hn:MvH vn) (he:MvH ve) (h0:2≤n) (h1:n≤5):RdR Tryz.prog 92 0 (c1 (c1 (c2 (c1 (c2 (c2 (c2 (c2 (c2 ((bodyF Tryz.prog 4))))))))))) ((n - 2).toNat+1) (filS2 s ⟨[(0,.one (qS vn)),(1,.one (qS ve)),(2,.one (qS n)),(7,.one (qL (.ptr 31 0))),(8,.one (qI 2))],zvM23 vn ve,583⟩) (.exit 0) zvN:=by
 by_cases h2:2<n
 ·rw [show (n - 2).toNat=(n - 3).toNat+1 by omega]
  exact RdR.next (ToR.of_ToP (zv_k3 s hn he (by omega)) (by kernel_rfl)) (by rintro x ⟨s,rfl⟩;exact zv_W3 s hn he (by omega) h1)
 ·obtain rfl:n=2:=by omega
  exact RdR.last (by simp) ((ToR.of_ToP (zv_e2 s) (by kernel_rfl)).mono (by rintro x ⟨s,rfl⟩;exact zv_R2 s hn he))
theorem zv_W1 (s:Asg) {vn ve n:Int} (hn:MvH vn) (he:MvH ve) (h0:1≤n) (h1:n≤5):RdR Tryz.prog 92 0 (c1 (c1 (c2 (c1 (c2 (c2 (c2 (c2 (c2 ((bodyF Tryz.prog 4))))))))))) ((n - 1).toNat+1) (filS2 s ⟨[(0,.one (qS vn)),(1,.one (qS ve)),(2,.one (qS n)),(7,.one (qL (.ptr 31 0))),(8,.one (qI 1))],zvM22 vn ve,566⟩) (.exit 0) zvN:=by
 by_cases h2:1<n
 ·rw [show (n - 1).toNat=(n - 2).toNat+1 by omega]
  exact RdR.next (ToR.of_ToP (zv_k2 s hn he (by omega)) (by kernel_rfl)) (by rintro x ⟨s,rfl⟩;exact zv_W2 s hn he (by omega) h1)
 ·obtain rfl:n=1:=by omega
  exact RdR.last (by simp) ((ToR.of_ToP (zv_e1 s) (by kernel_rfl)).mono (by rintro x ⟨s,rfl⟩;exact zv_R1 s hn he))
theorem zv_W0 (s:Asg) {vn ve n:Int} (hn:MvH vn) (he:MvH ve) (h0:1≤n) (h1:n≤5):RdR Tryz.prog 92 0 (c1 (c1 (c2 (c1 (c2 (c2 (c2 (c2 (c2 ((bodyF Tryz.prog 4))))))))))) ((n - 0).toNat+1) (filS2 s ⟨[(0,.one (qS vn)),(1,.one (qS ve)),(2,.one (qS n)),(7,.one (qL (.ptr 31 0))),(8,.one (qI 0))],zvM21 vn ve,549⟩) (.exit 0) zvN:=by
 rw [show (n - 0).toNat=(n - 1).toNat+1 by omega]
 exact RdR.next (ToR.of_ToP (zv_k1 s hn he (by omega)) (by kernel_rfl)) (by rintro x ⟨s,rfl⟩;exact zv_W1 s hn he (by omega) h1)
theorem zv_law (s:Asg) {vn ve n:Int}:ToR Tryz.prog 92 0 ((bodyF Tryz.prog 4)) (filS2 s ⟨[(0,.one (qS vn)),(1,.one (qS ve)),(2,.one (qS n))],[],0⟩) .ret zvF:=by
 refine ToR.seq (by kernel_rfl) (ToR.of_ToP (zv_l0 s) (by kernel_rfl)) ?_
 rintro x ⟨s,rfl⟩
 refine ToR.seq (by kernel_rfl) (ToR.of_ToP (zv_l1 s) (by kernel_rfl)) ?_
 rintro x ⟨s,rfl⟩
 by_cases h0:vn < -1000
 ·exact ToR.seq_out (by kernel_rfl) (by simp) ((ToR.of_ToP (zv_l2a s h0) (by kernel_rfl)).mono (by rintro x ⟨s,rfl⟩;exact ⟨s,0,rfl⟩))
 by_cases h1:vn>1000
 ·exact ToR.seq_out (by kernel_rfl) (by simp) ((ToR.of_ToP (zv_l2b s h0 h1) (by kernel_rfl)).mono (by rintro x ⟨s,rfl⟩;exact ⟨s,0,rfl⟩))
 by_cases h2:ve < -1000
 ·exact ToR.seq_out (by kernel_rfl) (by simp) ((ToR.of_ToP (zv_l2c s h0 h1 h2) (by kernel_rfl)).mono (by rintro x ⟨s,rfl⟩;exact ⟨s,0,rfl⟩))
 by_cases h3:ve>1000
 ·exact ToR.seq_out (by kernel_rfl) (by simp) ((ToR.of_ToP (zv_l2d s h0 h1 h2 h3) (by kernel_rfl)).mono (by rintro x ⟨s,rfl⟩;exact ⟨s,0,rfl⟩))
 by_cases h4:n<1
 ·exact ToR.seq_out (by kernel_rfl) (by simp) ((ToR.of_ToP (zv_l2e s h0 h1 h2 h3 h4) (by kernel_rfl)).mono (by rintro x ⟨s,rfl⟩;exact ⟨s,0,rfl⟩))
 by_cases h5:n>5
 ·exact ToR.seq_out (by kernel_rfl) (by simp) ((ToR.of_ToP (zv_l2f s h0 h1 h2 h3 h4 h5) (by kernel_rfl)).mono (by rintro x ⟨s,rfl⟩;exact ⟨s,0,rfl⟩))
 have hn:MvH vn:=⟨by omega,by omega⟩
 have he:MvH ve:=⟨by omega,by omega⟩
 refine ToR.seq (by kernel_rfl) (ToR.of_ToP (zv_l2g s h0 h1 h2 h3 h4 h5) (by kernel_rfl)) ?_
 rintro x ⟨s,rfl⟩
 refine ToR.seq (by kernel_rfl) (ToR.of_ToP (zv_l3 s hn he) (by kernel_rfl)) ?_
 rintro x ⟨s,rfl⟩
 refine ToR.seq (by kernel_rfl) (ToR.of_ToP (zv_x4 s) (by kernel_rfl)) ?_
 rintro x ⟨s,rfl⟩
 refine ToR.seq (by kernel_rfl) (B:=zvN) (ToR.seq (by kernel_rfl) (ToR.of_ToP (zv_x5 s) (by kernel_rfl)) ?_) (fun x hx=>hx)
 rintro x ⟨s,rfl⟩
 exact ToR.block (id:=0) (e:= .exit 0) (by kernel_rfl) (ToR.loop (m:=(n - 0).toNat+1) (by kernel_rfl) (zv_W0 s hn he (by omega) (by omega))) (.inl rfl)
def zv00:Asg:=⟨fun _ _=>0,fun _ _=>false,fun _ _=>0,fun _ _=>false⟩
theorem lawTopMoves (vn ve n:Int) (w:Go.World):Go.Calls Tryz.prog 4 ([I vn,I ve,I n].map (LV.den E0)).toArray w fun e w'=>e = .returned (.bool true)∧Go.RowKit.Below w.heap.size w w':=by
 have h:ToR Tryz.prog 92 0 ((bodyF Tryz.prog 4)) ⟨argsL 0 [I vn,I ve,I n],[],0⟩ .ret zvF:=zv_law (vn:=vn) (ve:=ve) (n:=n) zv00
 refine law_ToR (args:=[I vn,I ve,I n]) (m:=[]) (nb:=0) (N:=0) (v:= .v (.one (.bool true))) Tryz.func4 (by kernel_rfl) (Nat.le_of_ble_eq_true (by kernel_rfl)) (Nat.le_of_ble_eq_true (by kernel_rfl)) ?_ rfl ?_ ?_ ?_ h ?_ rfl E0 w ⟨fun i b h=>by simp [getM] at h,fun i j h=>by simp [getM] at h⟩
 ·intro u hu;simp at hu;rcases hu with rfl | rfl | rfl <;> rfl
 ·exact fun i b h=>by simp [getM] at h
 ·exact fun i b h=>by simp [getM] at h
 ·exact fun i b h=>by simp [getM] at h
 ·rintro x ⟨s,j,rfl⟩
  exact ⟨fun dead=>by kernel_rfl,fun i b h=>by simp [getM] at h⟩
end Go.Proofs.YtnlhpaidmiogbaaGreat
