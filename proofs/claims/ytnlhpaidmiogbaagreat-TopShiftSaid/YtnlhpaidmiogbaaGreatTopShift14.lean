/- Joined texts. What each part proves stands ahead of it; no condition. -/
import Derived.Test.YtnlhpaidmiogbaaGreatTopShift9

/- TopShift: aided with a delay of 4, stage by stage. -/
namespace Go.Proofs.YtnlhpaidmiogbaaGreat
open Go.Lr
set_option linter.unusedVariables false
variable (lat lon:Int)
def jBi:PS2:=⟨(jne lat lon 32000),JL,3⟩
def jCO:PS2:=⟨jnk,(jd6 lat lon 32000),5⟩
def jvL:PS2:=⟨jnj,(Zj lat lon 32000),31⟩
def jCP:PS2:=⟨(jed 4),(Zj lat lon 32000),31⟩
def jBj:PS2:=⟨(kH 4 0),(Zj lat lon 32000),31⟩
def jCQ:PS2:=⟨(kH 4 1),(qQ lat lon 32000 31 1 0 0 0 8000 (-9223372036854775808) 8000),38⟩
def jCR:PS2:=⟨(kH 4 2),(qQ lat lon 32000 38 2 0 0 0 16000 (-9223372036854775808) 8000),45⟩
def jCS:PS2:=⟨(kH 4 3),(qQ lat lon 32000 45 3 0 0 0 24000 (-9223372036854775808) 8000),52⟩
def jCT:PS2:=⟨(kH 4 4),(qQ lat lon 32000 52 4 0 0 0 32000 (-9223372036854775808) 8000),59⟩
def jCU:PS2:=⟨(kH 4 5),(qQ lat lon 32000 63 4 1 (-84238486) 8000 40000 8000 16000),71⟩
def jtY:PS2:=⟨(kH 4 6),(qQ lat lon 32000 75 4 2 (-168476972) 16000 48000 16000 24000),83⟩
def jtZ:PS2:=⟨(kH 4 7),(qQ lat lon 32000 87 4 3 (-252715458) 24000 56000 24000 32000),95⟩
def jt0:PS2:=⟨(kH 4 8),(qQ lat lon 32000 99 4 4 (-336953944) 32000 64000 32000 40000),107⟩
def jt1:PS2:=⟨(kH 4 9),(qQ lat lon 32000 111 4 5 (-421192430) 40000 72000 40000 48000),119⟩
def jt2:PS2:=⟨(kH 4 10),(qQ lat lon 32000 123 4 6 (-505430916) 48000 80000 48000 56000),131⟩
def jt3:PS2:=⟨(kH 4 11),(qQ lat lon 32000 135 4 7 (-589669402) 56000 88000 56000 64000),143⟩
def jt4:PS2:=⟨(kH 4 12),(qQ lat lon 32000 147 4 8 (-673907888) 64000 96000 64000 72000),155⟩
def jt5:PS2:=⟨(kH 4 13),(qQ lat lon 32000 159 4 9 (-758146374) 72000 104000 72000 80000),167⟩
def jt6:PS2:=⟨(kH 4 14),(jsz lat lon 32000 200 4 112000 172 5),208⟩
def jt7:PS2:=⟨(kH 4 15),(XB lat lon 32000 210 4 120000 217 6),223⟩
def jmV:PS2:=⟨(jed 4),(XB lat lon 32000 210 4 120000 217 6),223⟩
def jt8:PS2:=⟨(jni 4 223),(jbW lat lon 32000 210 4 120000 217 6 223),224⟩
def jt9:PS2:=⟨(jng 4 223),(jbW lat lon 32000 210 4 120000 217 6 223),232⟩
def jua:PS2:=⟨(jnh 4 223),(jbW lat lon 32000 210 4 120000 217 6 223),232⟩
def jub:PS2:=⟨(jd1 4 223 232),(jgP lat lon 32000 210 4 120000 217 6 223 232),233⟩
def juc:PS2:=⟨(jd2 4 233),(jgQ lat lon 32000 210 4 120000 217 6 233),234⟩
def jud:PS2:=⟨(kW 5 4 7 30 8 4),(XC lat lon 32000 210 4 120000 217 6 237 120001),244⟩
def jmW:PS2:=⟨(qp 4 0),(XC lat lon 32000 210 4 120000 217 6 237 120001),244⟩
def jue:PS2:=⟨(qp 4 1),(JI lat lon 32000 247 4 96000 128000 254 7 237 12 120001 104000),260⟩
def juf:PS2:=⟨(qp 4 2),(JI lat lon 32000 263 4 104000 136000 270 8 237 13 120001 112000),276⟩
def jug:PS2:=⟨(qp 4 3),(JI lat lon 32000 279 4 112000 144000 286 9 237 14 120001 120000),292⟩
def juh:PS2:=⟨(qp 4 4),(JI lat lon 32000 295 4 120000 152000 302 10 237 15 120001 128000),308⟩
def jui:PS2:=⟨(qp 4 5),(jgR lat lon 32000 399 4 128000 359 160000 406 11 237 16 136000),412⟩
def juj:PS2:=⟨(qp 4 6),(XD lat lon 32000 415 4 136000 168000 128000 422 12 237 17 144000),428⟩
def jmX:PS2:=⟨(kW 5 4 7 30 8 4),(XD lat lon 32000 415 4 136000 168000 128000 422 12 237 17 144000),428⟩
def jmY:PS2:=⟨(jd4 4),(XE lat lon 32000 415 4 136000 168000 128000 422 12 431 237 17 144000 168001),438⟩
def jmZ:PS2:=⟨(qr 4 0),(XE lat lon 32000 415 4 136000 168000 128000 422 12 431 237 17 144000 168001),438⟩
def juk:PS2:=⟨(qr 4 1),(JJ lat lon 32000 442 4 144000 176000 128000 449 13 431 237 18 168001 152000),455⟩
def jul:PS2:=⟨(qr 4 2),(JJ lat lon 32000 459 4 152000 184000 128000 466 14 431 237 19 168001 160000),472⟩
def jum:PS2:=⟨(qr 4 3),(JJ lat lon 32000 476 4 160000 192000 128000 483 15 431 237 20 168001 168000),489⟩
def jun:PS2:=⟨(qr 4 4),(JJ lat lon 32000 493 4 168000 200000 128000 500 16 431 237 21 168001 176000),506⟩
def juo:PS2:=⟨(qr 4 5),(jgS lat lon 32000 628 4 176000 570 208000 128000 635 17 431 237 22 184000),641⟩
def jup:PS2:=⟨(qr 4 6),(xr lat lon 32000 645 4 176000 184000 216000 128000 652 18 431 237 23 192000),658⟩
def jm0:PS2:=⟨(xB 7),(xr lat lon 32000 645 4 176000 184000 216000 128000 652 18 431 237 23 192000),658⟩
def jg6:PS2:=⟨(xB 6),(xr lat lon 32000 645 4 176000 184000 216000 128000 652 18 431 237 23 192000),658⟩
variable {lat lon}
theorem jHE:zG 108 (c1 (zhB)) (jBi lat lon) .normal (jCO lat lon):=
 zr jD 0
theorem jHF:zG 108 (c1 (c2 (zhB))) (jCO lat lon) .normal (jvL lat lon):=
 zr jD 0
theorem jHG:zG 108 (c1 (c2 (c2 (zhB)))) (jvL lat lon) .normal (jvL lat lon):=
 zr jD 0
theorem jHH:zG 108 (c1 (c2 (c2 (c2 (zhB))))) (jvL lat lon) .normal (jCP lat lon):=
 zr jD 0
theorem jHI:zG 108 (c1 (c1 (c2 (c2 (c2 (c2 (zhB))))))) (jCP lat lon) .normal (jBj lat lon):=
 zr jD 0
theorem jHJ:zG 108 ky (jBj lat lon) .normal (jCQ lat lon):=
 zr jD 3
theorem jHK:zG 108 ky (jCQ lat lon) .normal (jCR lat lon):=
 zr jD 3
theorem jHL:zG 108 ky (jCR lat lon) .normal (jCS lat lon):=
 zr jD 3
theorem jHM:zG 108 ky (jCS lat lon) .normal (jCT lat lon):=
 zr jD 3
theorem jHN:zG 108 ky (jCT lat lon) .normal (jCU lat lon):=
 zr jD 3
theorem jHO:zG 108 ky (jCU lat lon) .normal (jtY lat lon):=
 zr jD 3
theorem jHP:zG 108 ky (jtY lat lon) .normal (jtZ lat lon):=
 zr jD 3
theorem jHQ:zG 108 ky (jtZ lat lon) .normal (jt0 lat lon):=
 zr jD 3
theorem jHR:zG 108 ky (jt0 lat lon) .normal (jt1 lat lon):=
 zr jD 3
theorem jBk:zG 108 ky (jt1 lat lon) .normal (jt2 lat lon):=
 zr jD 3
theorem jBl:zG 108 ky (jt2 lat lon) .normal (jt3 lat lon):=
 zr jD 3
theorem jBm:zG 108 ky (jt3 lat lon) .normal (jt4 lat lon):=
 zr jD 3
theorem jBn:zG 108 ky (jt4 lat lon) .normal (jt5 lat lon):=
 zr jD 3
theorem jBo:zG 108 ky (jt5 lat lon) .normal (jt6 lat lon):=
 zr jD 15
theorem jBp:zG 108 ky (jt6 lat lon) .normal (jt7 lat lon):=
 zr jD 13
theorem jBq:zG 108 ky (jt7 lat lon) (.exit 0) (jmV lat lon):=
 zr jD 0
theorem jHS:zG 108 (c1 (c2 (c2 (c2 (c2 (c2 (zhB))))))) (jmV lat lon) .normal (jt8 lat lon):=
 zr jD 0
theorem jHT:zG 108 (c1 (c2 (c2 (c2 (c2 (c2 (c2 (zhB)))))))) (jt8 lat lon) .normal (jt9 lat lon):=
 zr jD 0
theorem jHU:zG 108 (c1 (c2 (c2 (c2 (c2 (c2 (c2 (c2 (zhB))))))))) (jt9 lat lon) .normal (jua lat lon):=
 zr jD 0
theorem jHV:zG 108 (c1 (c2 (c2 (c2 (c2 (c2 (c2 (c2 (c2 (zhB)))))))))) (jua lat lon) .normal (jub lat lon):=
 zr jD 0
theorem jHW:zG 108 (c1 (c2 (c2 (c2 (c2 (c2 (c2 (c2 (c2 (c2 (zhB))))))))))) (jub lat lon) .normal (juc lat lon):=
 zr jD 0
theorem jBr:zG 108 (c1 (c2 (c2 (c2 (c2 (c2 (c2 (c2 (c2 (c2 (c2 (zhB)))))))))))) (juc lat lon) .normal (jud lat lon):=
 zr jD 1
theorem jHX:zG 108 (c1 (c1 (c2 (c2 (c2 (c2 (c2 (c2 (c2 (c2 (c2 (c2 (c2 (zhB)))))))))))))) (jud lat lon) .normal (jmW lat lon):=
 zr jD 0
theorem jHY:zG 108 yQ (jmW lat lon) .normal (jue lat lon):=
 zr jD 14
theorem jHZ:zG 108 yQ (jue lat lon) .normal (juf lat lon):=
 zr jD 15
theorem jH0:zG 108 yQ (juf lat lon) .normal (jug lat lon):=
 zr jD 16
theorem jH1:zG 108 yQ (jug lat lon) .normal (juh lat lon):=
 zr jD 17
theorem jH2:zG 108 yQ (juh lat lon) .normal (jui lat lon):=
 zr jD 47
theorem jH3:zG 108 yQ (jui lat lon) .normal (juj lat lon):=
 zr jD 19
theorem jH4:zG 108 yQ (juj lat lon) (.exit 2) (jmX lat lon):=
 zr jD 0
theorem jH5 (hn:SmH lat) (he:SmH lon):zG 108 (c1 (c2 (c2 (c2 (c2 (c2 (c2 (c2 (c2 (c2 (c2 (c2 (c2 (zhB)))))))))))))) (jmX lat lon) .normal (jmY lat lon):=fun s=>
 ToP.run2 (z:=⟨false,false,false⟩) (n:=20000) (dec:=[]) (mask:=(xL 1 (zY 16 (xL 8 [])))) (os:=(ra 4 (decide (lon≤1800000000),true) (ra 4 (decide (lon≥ -1800000000),true) (ra 4 (decide (lat≤900000000),true) (ra 4 (decide (lat≥ -900000000),true) []))))) (es:=(zob (jmY lat lon))) jD (fun dead=>by kernel_rfl) (jC (decide_eq_true (by have:=hn.1;have:=hn.2;have:=he.1;have:=he.2;omega)) (jC (decide_eq_true (by have:=hn.1;have:=hn.2;have:=he.1;have:=he.2;omega)) (jC (decide_eq_true (by have:=hn.1;have:=hn.2;have:=he.1;have:=he.2;omega)) (jC (decide_eq_true (by have:=hn.1;have:=hn.2;have:=he.1;have:=he.2;omega)) jd _) _) _) _) (ki _) (fun s=>jy (by kernel_rfl)) (by kernel_rfl)
theorem jH6:zG 108 (c1 (c1 (c2 (c2 (c2 (c2 (c2 (c2 (c2 (c2 (c2 (c2 (c2 (c2 (c2 (zhB)))))))))))))))) (jmY lat lon) .normal (jmZ lat lon):=
 zr jD 0
theorem jH7:zG 108 yR (jmZ lat lon) .normal (juk lat lon):=
 zr jD 20
theorem jH8:zG 108 yR (juk lat lon) .normal (jul lat lon):=
 zr jD 21
theorem jH9:zG 108 yR (jul lat lon) .normal (jum lat lon):=
 zr jD 22
theorem jIa:zG 108 yR (jum lat lon) .normal (jun lat lon):=
 zr jD 23
theorem jIb (hn:SmH lat) (he:SmH lon) (bn:ShB (smN lat)) (be:ShB (smE lon)):zG 108 yR (jun lat lon) .normal (juo lat lon):=fun s=>
 ToP.run2 (z:=⟨false,false,false⟩) (n:=20000) (dec:=[]) (mask:=(xL 66 (zY 34 (xL 13 [])))) (os:=(ra 1 (decide (wr .i64 (lon - 0)≤ -1800000000),false) (ra 1 (decide (wr .i64 (lon - 0)>1800000000),false) (ra 4 (decide (lon≤1800000000),true) (ra 4 (decide (lon≥ -1800000000),true) (ra 4 (decide (lat≤900000000),true) (ra 4 (decide (lat≥ -900000000),true) (ra 4 (decide (lon≤1800000000),true) (ra 4 (decide (lon≥ -1800000000),true) (ra 4 (decide (lat≤900000000),true) (ra 4 (decide (lat≥ -900000000),true) []))))))))))) (es:=[zj5 lat lon,zj4 lat lon,qt lat lon,qs lat lon,qt lat lon,qs lat lon,qt lat lon,qs lat lon,qt lat lon,qs lat lon,qt lat lon,qs lat lon,qt lat lon,qs lat lon,qt lat lon,qs lat lon,qt lat lon,qs lat lon,qt lat lon,qs lat lon,qt lat lon,qs lat lon,qt lat lon,qs lat lon,qt lat lon,qs lat lon,qt lat lon,qs lat lon,qt lat lon,qs lat lon,qt lat lon,qs lat lon,qt lat lon,qs lat lon,jno lat lon,jnn lat lon]) jD (fun dead=>by kernel_rfl) (jC (decide_eq_false (by have:=hn.1;have:=hn.2;have:=he.1;have:=he.2;rw [Go.Lr.w1 (by omega)];omega)) (jC (decide_eq_false (by have:=hn.1;have:=hn.2;have:=he.1;have:=he.2;rw [Go.Lr.w1 (by omega)];omega)) (jC (decide_eq_true (by have:=hn.1;have:=hn.2;have:=he.1;have:=he.2;omega)) (jC (decide_eq_true (by have:=hn.1;have:=hn.2;have:=he.1;have:=he.2;omega)) (jC (decide_eq_true (by have:=hn.1;have:=hn.2;have:=he.1;have:=he.2;omega)) (jC (decide_eq_true (by have:=hn.1;have:=hn.2;have:=he.1;have:=he.2;omega)) (jC (decide_eq_true (by have:=hn.1;have:=hn.2;have:=he.1;have:=he.2;omega)) (jC (decide_eq_true (by have:=hn.1;have:=hn.2;have:=he.1;have:=he.2;omega)) (jC (decide_eq_true (by have:=hn.1;have:=hn.2;have:=he.1;have:=he.2;omega)) (jC (decide_eq_true (by have:=hn.1;have:=hn.2;have:=he.1;have:=he.2;omega)) jd _) _) _) _) _) _) _) _) _) _) (j7 (js (jnm bn be) (js (jnl bn be) jP)) (j7 (js (jgX bn be) (js (jgW bn be) jP)) (j7 (js (jgV bn be) (js (jgU bn be) jP)) jP 1) 16) 1) (fun s=>jy (by kernel_rfl)) (by kernel_rfl)
theorem jIc (hn:SmH lat) (he:SmH lon) (bn:ShB (smN lat)) (be:ShB (smE lon)):zG 108 yR (juo lat lon) .normal (jup lat lon):=fun s=>
 ToP.run2 (z:=⟨false,false,false⟩) (n:=20000) (dec:=[]) (mask:=(xL 25 [])) (os:=[]) (es:=[jmw lat lon,jmv lat lon,qd lat lon,qc lat lon,qd lat lon,qc lat lon,qd lat lon,qc lat lon,qd lat lon,qc lat lon,qd lat lon,qc lat lon,qd lat lon,qc lat lon,qd lat lon,qc lat lon,qd lat lon,qc lat lon,qd lat lon,qc lat lon,qd lat lon,qc lat lon,qd lat lon,qc lat lon,qd lat lon,qc lat lon,qd lat lon,qc lat lon,qd lat lon,qc lat lon,qd lat lon,qc lat lon,qd lat lon,qc lat lon,qd lat lon,qc lat lon,jnq lat lon,jnp lat lon]) jD (fun dead=>by kernel_rfl) jd (j7 (js (jd8 bn be) (js (jd7 bn be) jP)) (j7 (js (jg1 bn be) (js (jg0 bn be) jP)) (j7 (js (jgZ bn be) (js (jgY bn be) jP)) jP 1) 17) 1) (fun s=>jy (by kernel_rfl)) (by kernel_rfl)
theorem jId:zG 108 yR (jup lat lon) (.exit 4) (jm0 lat lon):=
 zr jD 0
theorem jIe:zG 108 (c1 (c2 (c2 (c2 (c2 (c2 (c2 (c2 (c2 (c2 (c2 (c2 (c2 (c2 (c2 (zhB)))))))))))))))) (jm0 lat lon) .normal (jg6 lat lon):=
 zr jD 0
theorem jIf:zG 108 (c2 (c2 (c2 (c2 (c2 (c2 (c2 (c2 (c2 (c2 (c2 (c2 (c2 (c2 (c2 (zhB)))))))))))))))) (jg6 lat lon) .ret (jg6 lat lon):=
 zr jD 0
theorem jIg:zK 108 ky 16 (jBj lat lon) (.exit 0) (jmV lat lon):=
 zn jHJ (zn jHK (zn jHL (zn jHM (zn jHN (zn jHO (zn jHP (zn jHQ (zn jHR (zn jBk (zn jBl (zn jBm (zn jBn (zn jBo (zn jBp (zl jBq)))))))))))))))
theorem jIh:zK 108 yQ 7 (jmW lat lon) (.exit 2) (jmX lat lon):=
 zn jHY (zn jHZ (zn jH0 (zn jH1 (zn jH2 (zn jH3 (zl jH4))))))
theorem jIi (hn:SmH lat) (he:SmH lon) (bn:ShB (smN lat)) (be:ShB (smE lon)):zK 108 yR 7 (jmZ lat lon) (.exit 4) (jm0 lat lon):=
 zn jH7 (zn jH8 (zn jH9 (zn jIa (zn (jIb hn he bn be) (zn (jIc hn he bn be) (zl jId))))))
theorem jBs (hn:SmH lat) (he:SmH lon) (bn:ShB (smN lat)) (be:ShB (smE lon)):zG 108 zhB (jBi lat lon) .ret (jg6 lat lon):=
 zq jHE (zq jHF (zq jHG (zq jHH (zq (zo jHI jIg) (zq jHS (zq jHT (zq jHU (zq jHV (zq jHW (zq jBr (zq (zo jHX jIh) (zq (jH5 hn he) (zq (zo jH6 (jIi hn he bn be)) (zq jIe jIf))))))))))))))
end Go.Proofs.YtnlhpaidmiogbaaGreat

/- TopShift: the law with a delay of 4. -/
namespace Go.Proofs.YtnlhpaidmiogbaaGreat
open Go.Lr
set_option linter.unusedVariables false
set_option maxRecDepth 100000
variable (lat lon:Int)
def jmo:PS2:=⟨(jnf lat lon 4),JL,0⟩
def jr3:PS2:=⟨(jgM lat lon 4),(jgN 40000),3⟩
def jr4:PS2:=⟨(jgM lat lon 4),(jgN 32000),3⟩
def jr5:PS2:=⟨(jd0 lat lon 32000),JL,3⟩
def jr6:PS2:=⟨(xB 46),(xr lat lon 32000 645 4 176000 184000 216000 128000 652 18 431 237 23 192000),658⟩
def ji3:PS2:=⟨(xB 8),(xr lat lon 32000 645 4 176000 184000 216000 128000 652 18 431 237 23 192000),658⟩
def jr7:PS2:=⟨(Qf 8 30 9 660),(jgT lat lon 32000 645 4 176000 184000 216000 128000 652 18 431 237 23 192000 660),662⟩
def jr8:PS2:=⟨(jd5 660 664),(kX lat lon 660 664 216000),665⟩
def jr9:PS2:=⟨(Qf 9 660 11 664),(kX lat lon 660 664 216000),665⟩
def jsa:PS2:=⟨(kW 9 660 11 664 13 0),(kX lat lon 660 664 216000),665⟩
def jgH:PS2:=⟨(kW 9 660 11 664 13 1),(kX lat lon 660 664 216000),665⟩
def jgI:PS2:=⟨(kW 9 660 11 664 13 2),(kX lat lon 660 664 216000),665⟩
def jj6:PS2:=⟨(kW 9 660 11 664 13 3),(kX lat lon 660 664 216000),665⟩
def jj7:PS2:=⟨jdZ,JL,665⟩
def jaA:PS2:=⟨jd3,JL,665⟩
variable {lat lon}
theorem jAc:zG 93 (c1 (c2 (c2 (c2 (zhC))))) (jmo lat lon) .normal (jr3 lat lon):=
 zr jD 0
theorem jAd:zG 93 (c1 (c2 (c2 (c2 (c2 (zhC)))))) (jr3 lat lon) .normal (jr4 lat lon):=
 zr jD 0
theorem jE0 (s:Asg):ToO Tryz.prog 93 (qK (c1 (c2 (c2 (c2 (c2 (c2 (zhC)))))))) 0 4 (j8 s (jr4 lat lon)) (zX (jr5 lat lon)):=
 zro jD 0 4 (s:=s)
theorem jE1 (hn:SmH lat) (he:SmH lon) (bn:ShB (smN lat)) (be:ShB (smE lon)) (s:Asg):ToO Tryz.prog 93 (qK (c1 (c2 (c2 (c2 (c2 (c2 (zhC)))))))) 4 1 (j8 s (jr5 lat lon)) (zX (jr6 lat lon)):=
 zca (t:=46) (f:=14) (A0:=(jBi lat lon)) (D:=(jg6 lat lon)) (v:= .v (.one (.ptr 30 0))) jD Tryz.func14 (jBs hn he bn be) (fun s dead=>by kernel_rfl) (by kernel_rfl) (by kernel_rfl) (fun s=>by kernel_rfl) (by kernel_rfl) (fun s=>by kernel_rfl) (fun s dead=>by kernel_rfl) (fun s s2=>by kernel_rfl) (fun s=>by kernel_rfl) s
theorem jE2 (s:Asg):ToO Tryz.prog 93 (qK (c1 (c2 (c2 (c2 (c2 (c2 (zhC)))))))) 5 1 (j8 s (jr6 lat lon)) (zX (ji3 lat lon)):=
 zro jD 5 1 (s:=s)
theorem jAe:zG 93 (c1 (c2 (c2 (c2 (c2 (c2 (c2 (zhC)))))))) (ji3 lat lon) .normal (ji3 lat lon):=
 zr jt 0
theorem jAf:zG 93 (c1 (c2 (c2 (c2 (c2 (c2 (c2 (c2 (zhC))))))))) (ji3 lat lon) .normal (jr7 lat lon):=
 zr jt 0
theorem jAg:zG 93 (c1 (c2 (c2 (c2 (c2 (c2 (c2 (c2 (c2 (zhC)))))))))) (jr7 lat lon) .normal (jr8 lat lon):=
 zr jt 0
theorem jAh:zG 93 (c1 (c2 (c2 (c2 (c2 (c2 (c2 (c2 (c2 (c2 (zhC))))))))))) (jr8 lat lon) .normal (jr9 lat lon):=
 zr jt 0
theorem jsb:zG 93 (c1 (c1 (c2 (c2 (c2 (c2 (c2 (c2 (c2 (c2 (c2 (c2 (zhC))))))))))))) (jr9 lat lon) .normal (jsa lat lon):=
 zr jt 0
theorem jAi:zG 93 (c1 (c1 (c2 (c1 (c2 (c2 (c2 (c2 (c2 (c2 (c2 (c2 (c2 (c2 (zhC))))))))))))))) (jsa lat lon) .normal (jgH lat lon):=fun s=>
 ToP.run2 (z:=⟨false,false,false⟩) (n:=20000) (dec:=[]) (mask:=(xL 1 (zY 1 []))) (os:=(ra 1 (wiB (smN lat) (smN lat) 107374182,true) [])) (es:=(zob (jgH lat lon))) jt (fun dead=>by kernel_rfl) (jC (Qb rfl (by omega)) jd _) (ki _) (fun s=>jy (by kernel_rfl)) (by kernel_rfl)
theorem jAj:zG 93 (c1 (c1 (c2 (c1 (c2 (c2 (c2 (c2 (c2 (c2 (c2 (c2 (c2 (c2 (zhC))))))))))))))) (jgH lat lon) .normal (jgI lat lon):=fun s=>
 ToP.run2 (z:=⟨false,false,false⟩) (n:=20000) (dec:=[]) (mask:=(xL 1 (zY 1 []))) (os:=(ra 1 (wiB (smE lon) (smE lon) 107374182,true) [])) (es:=(zob (jgI lat lon))) jt (fun dead=>by kernel_rfl) (jC (Qb rfl (by omega)) jd _) (ki _) (fun s=>jy (by kernel_rfl)) (by kernel_rfl)
theorem jAk:zG 93 (c1 (c1 (c2 (c1 (c2 (c2 (c2 (c2 (c2 (c2 (c2 (c2 (c2 (c2 (zhC))))))))))))))) (jgI lat lon) .normal (jj6 lat lon):=
 zr jt 2
theorem jAl:zG 93 (c1 (c1 (c2 (c1 (c2 (c2 (c2 (c2 (c2 (c2 (c2 (c2 (c2 (c2 (zhC))))))))))))))) (jj6 lat lon) (.exit 0) jj7:=
 zr jt 0
theorem jsc:zG 93 (c1 (c2 (c2 (c2 (c2 (c2 (c2 (c2 (c2 (c2 (c2 (c2 (zhC))))))))))))) jj7 .normal jaA:=
 zr jt 0
theorem jsd:zG 93 (c2 (c2 (c2 (c2 (c2 (c2 (c2 (c2 (c2 (c2 (c2 (c2 (zhC))))))))))))) jaA .ret jaA:=
 zr jt 0
theorem jse (hn:SmH lat) (he:SmH lon) (bn:ShB (smN lat)) (be:ShB (smE lon)):zG 93 (c2 (c2 (c2 zhC))) (jmo lat lon) .ret jaA:=
 zq jAc (zq jAd (zq (z3 jE0 (jE1 hn he bn be) jE2) (zq jAe (zq jAf (zq jAg (zq jAh (zq (zo jsb (zn jAi (zn jAj (zn jAk (zl jAl))))) (zq jsc jsd))))))))
theorem jE3 (s:Asg):j8 s (zlA lat lon 4)=j8 s (jmo lat lon):=by kernel_rfl
theorem jE4:∀y,zX jaA y→zlF y:=by rintro x ⟨s,rfl⟩;exact ⟨s,_,rfl⟩
end Go.Proofs.YtnlhpaidmiogbaaGreat
