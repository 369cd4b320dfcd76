/- Joined texts. What each part proves stands ahead of it; no condition. -/
import Derived.Test.YtnlhpaidmiogbaaGreatTopShift9

/- TopShift: aided with a delay of 5, stage by stage. -/
namespace Go.Proofs.YtnlhpaidmiogbaaGreat
open Go.Lr
set_option linter.unusedVariables false
variable (lat lon:Int)
def jBt:PS2:=⟨(jne lat lon 40000),JL,3⟩
def jCV:PS2:=⟨jnk,(jd6 lat lon 40000),5⟩
def jvM:PS2:=⟨jnj,(Zj lat lon 40000),31⟩
def jCW:PS2:=⟨(jed 5),(Zj lat lon 40000),31⟩
def jBu:PS2:=⟨(kH 5 0),(Zj lat lon 40000),31⟩
def jCX:PS2:=⟨(kH 5 1),(qQ lat lon 40000 31 1 0 0 0 8000 (-9223372036854775808) 8000),38⟩
def jCY:PS2:=⟨(kH 5 2),(qQ lat lon 40000 38 2 0 0 0 16000 (-9223372036854775808) 8000),45⟩
def jCZ:PS2:=⟨(kH 5 3),(qQ lat lon 40000 45 3 0 0 0 24000 (-9223372036854775808) 8000),52⟩
def jC0:PS2:=⟨(kH 5 4),(qQ lat lon 40000 52 4 0 0 0 32000 (-9223372036854775808) 8000),59⟩
def jC1:PS2:=⟨(kH 5 5),(qQ lat lon 40000 59 5 0 0 0 40000 (-9223372036854775808) 8000),66⟩
def juq:PS2:=⟨(kH 5 6),(qQ lat lon 40000 70 5 1 (-84238486) 8000 48000 8000 16000),78⟩
def jur:PS2:=⟨(kH 5 7),(qQ lat lon 40000 82 5 2 (-168476972) 16000 56000 16000 24000),90⟩
def jus:PS2:=⟨(kH 5 8),(qQ lat lon 40000 94 5 3 (-252715458) 24000 64000 24000 32000),102⟩
def jut:PS2:=⟨(kH 5 9),(qQ lat lon 40000 106 5 4 (-336953944) 32000 72000 32000 40000),114⟩
def juu:PS2:=⟨(kH 5 10),(qQ lat lon 40000 118 5 5 (-421192430) 40000 80000 40000 48000),126⟩
def juv:PS2:=⟨(kH 5 11),(qQ lat lon 40000 130 5 6 (-505430916) 48000 88000 48000 56000),138⟩
def juw:PS2:=⟨(kH 5 12),(qQ lat lon 40000 142 5 7 (-589669402) 56000 96000 56000 64000),150⟩
def jux:PS2:=⟨(kH 5 13),(qQ lat lon 40000 154 5 8 (-673907888) 64000 104000 64000 72000),162⟩
def juy:PS2:=⟨(kH 5 14),(qQ lat lon 40000 166 5 9 (-758146374) 72000 112000 72000 80000),174⟩
def juz:PS2:=⟨(kH 5 15),(jsz lat lon 40000 212 5 120000 179 6),220⟩
def juA:PS2:=⟨(kH 5 16),(XB lat lon 40000 222 5 128000 229 7),235⟩
def jm1:PS2:=⟨(jed 5),(XB lat lon 40000 222 5 128000 229 7),235⟩
def juB:PS2:=⟨(jni 5 235),(jbW lat lon 40000 222 5 128000 229 7 235),236⟩
def juC:PS2:=⟨(jng 5 235),(jbW lat lon 40000 222 5 128000 229 7 235),244⟩
def juD:PS2:=⟨(jnh 5 235),(jbW lat lon 40000 222 5 128000 229 7 235),244⟩
def juE:PS2:=⟨(jd1 5 235 244),(jgP lat lon 40000 222 5 128000 229 7 235 244),245⟩
def juF:PS2:=⟨(jd2 5 245),(jgQ lat lon 40000 222 5 128000 229 7 245),246⟩
def juG:PS2:=⟨(kW 5 4 7 30 8 5),(XC lat lon 40000 222 5 128000 229 7 249 128001),256⟩
def jm2:PS2:=⟨(qp 5 0),(XC lat lon 40000 222 5 128000 229 7 249 128001),256⟩
def juH:PS2:=⟨(qp 5 1),(JI lat lon 40000 259 5 96000 136000 266 8 249 12 128001 104000),272⟩
def juI:PS2:=⟨(qp 5 2),(JI lat lon 40000 275 5 104000 144000 282 9 249 13 128001 112000),288⟩
def juJ:PS2:=⟨(qp 5 3),(JI lat lon 40000 291 5 112000 152000 298 10 249 14 128001 120000),304⟩
def juK:PS2:=⟨(qp 5 4),(JI lat lon 40000 307 5 120000 160000 314 11 249 15 128001 128000),320⟩
def juL:PS2:=⟨(qp 5 5),(JI lat lon 40000 323 5 128000 168000 330 12 249 16 128001 136000),336⟩
def juM:PS2:=⟨(qp 5 6),(jgR lat lon 40000 427 5 136000 387 176000 434 13 249 17 144000),440⟩
def juN:PS2:=⟨(qp 5 7),(XD lat lon 40000 443 5 144000 184000 136000 450 14 249 18 152000),456⟩
def jm3:PS2:=⟨(kW 5 4 7 30 8 5),(XD lat lon 40000 443 5 144000 184000 136000 450 14 249 18 152000),456⟩
def jm4:PS2:=⟨(jd4 5),(XE lat lon 40000 443 5 144000 184000 136000 450 14 459 249 18 152000 184001),466⟩
def jm5:PS2:=⟨(qr 5 0),(XE lat lon 40000 443 5 144000 184000 136000 450 14 459 249 18 152000 184001),466⟩
def juO:PS2:=⟨(qr 5 1),(JJ lat lon 40000 470 5 152000 192000 136000 477 15 459 249 19 184001 160000),483⟩
def juP:PS2:=⟨(qr 5 2),(JJ lat lon 40000 487 5 160000 200000 136000 494 16 459 249 20 184001 168000),500⟩
def juQ:PS2:=⟨(qr 5 3),(JJ lat lon 40000 504 5 168000 208000 136000 511 17 459 249 21 184001 176000),517⟩
def juR:PS2:=⟨(qr 5 4),(JJ lat lon 40000 521 5 176000 216000 136000 528 18 459 249 22 184001 184000),534⟩
def juS:PS2:=⟨(qr 5 5),(JJ lat lon 40000 538 5 184000 224000 136000 545 19 459 249 23 184001 192000),551⟩
def juT:PS2:=⟨(qr 5 6),(jgS lat lon 40000 673 5 192000 615 232000 136000 680 20 459 249 24 200000),686⟩
def juU:PS2:=⟨(qr 5 7),(xr lat lon 40000 690 5 192000 200000 240000 136000 697 21 459 249 25 208000),703⟩
def jm6:PS2:=⟨(xB 7),(xr lat lon 40000 690 5 192000 200000 240000 136000 697 21 459 249 25 208000),703⟩
def jg7:PS2:=⟨(xB 6),(xr lat lon 40000 690 5 192000 200000 240000 136000 697 21 459 249 25 208000),703⟩
variable {lat lon}
theorem jIj:zG 108 (c1 (zhB)) (jBt lat lon) .normal (jCV lat lon):=
 zr jA 0
theorem jIk:zG 108 (c1 (c2 (zhB))) (jCV lat lon) .normal (jvM lat lon):=
 zr jA 0
theorem jIl:zG 108 (c1 (c2 (c2 (zhB)))) (jvM lat lon) .normal (jvM lat lon):=
 zr jA 0
theorem jIm:zG 108 (c1 (c2 (c2 (c2 (zhB))))) (jvM lat lon) .normal (jCW lat lon):=
 zr jA 0
theorem jIn:zG 108 (c1 (c1 (c2 (c2 (c2 (c2 (zhB))))))) (jCW lat lon) .normal (jBu lat lon):=
 zr jA 0
theorem jIo:zG 108 ky (jBu lat lon) .normal (jCX lat lon):=
 zr jA 3
theorem jIp:zG 108 ky (jCX lat lon) .normal (jCY lat lon):=
 zr jA 3
theorem jIq:zG 108 ky (jCY lat lon) .normal (jCZ lat lon):=
 zr jA 3
theorem jIr:zG 108 ky (jCZ lat lon) .normal (jC0 lat lon):=
 zr jA 3
theorem jIs:zG 108 ky (jC0 lat lon) .normal (jC1 lat lon):=
 zr jA 3
theorem jIt:zG 108 ky (jC1 lat lon) .normal (juq lat lon):=
 zr jA 3
theorem jIu:zG 108 ky (juq lat lon) .normal (jur lat lon):=
 zr jA 3
theorem jIv:zG 108 ky (jur lat lon) .normal (jus lat lon):=
 zr jA 3
theorem jIw:zG 108 ky (jus lat lon) .normal (jut lat lon):=
 zr jA 3
theorem jBv:zG 108 ky (jut lat lon) .normal (juu lat lon):=
 zr jA 3
theorem jBw:zG 108 ky (juu lat lon) .normal (juv lat lon):=
 zr jA 3
theorem jBx:zG 108 ky (juv lat lon) .normal (juw lat lon):=
 zr jA 3
theorem jBy:zG 108 ky (juw lat lon) .normal (jux lat lon):=
 zr jA 3
theorem jBz:zG 108 ky (jux lat lon) .normal (juy lat lon):=
 zr jA 3
theorem jBA:zG 108 ky (juy lat lon) .normal (juz lat lon):=
 zr jA 17
theorem jBB:zG 108 ky (juz lat lon) .normal (juA lat lon):=
 zr jA 14
theorem jBC:zG 108 ky (juA lat lon) (.exit 0) (jm1 lat lon):=
 zr jA 0
theorem jIx:zG 108 (c1 (c2 (c2 (c2 (c2 (c2 (zhB))))))) (jm1 lat lon) .normal (juB lat lon):=
 zr jA 0
theorem jIy:zG 108 (c1 (c2 (c2 (c2 (c2 (c2 (c2 (zhB)))))))) (juB lat lon) .normal (juC lat lon):=
 zr jA 0
theorem jIz:zG 108 (c1 (c2 (c2 (c2 (c2 (c2 (c2 (c2 (zhB))))))))) (juC lat lon) .normal (juD lat lon):=
 zr jA 0
theorem jIA:zG 108 (c1 (c2 (c2 (c2 (c2 (c2 (c2 (c2 (c2 (zhB)))))))))) (juD lat lon) .normal (juE lat lon):=
 zr jA 0
theorem jIB:zG 108 (c1 (c2 (c2 (c2 (c2 (c2 (c2 (c2 (c2 (c2 (zhB))))))))))) (juE lat lon) .normal (juF lat lon):=
 zr jA 0
theorem jBD:zG 108 (c1 (c2 (c2 (c2 (c2 (c2 (c2 (c2 (c2 (c2 (c2 (zhB)))))))))))) (juF lat lon) .normal (juG lat lon):=
 zr jA 1
theorem jIC:zG 108 (c1 (c1 (c2 (c2 (c2 (c2 (c2 (c2 (c2 (c2 (c2 (c2 (c2 (zhB)))))))))))))) (juG lat lon) .normal (jm2 lat lon):=
 zr jA 0
theorem jID:zG 108 yQ (jm2 lat lon) .normal (juH lat lon):=
 zr jA 15
theorem jIE:zG 108 yQ (juH lat lon) .normal (juI lat lon):=
 zr jA 16
theorem jIF:zG 108 yQ (juI lat lon) .normal (juJ lat lon):=
 zr jA 17
theorem jIG:zG 108 yQ (juJ lat lon) .normal (juK lat lon):=
 zr jA 18
theorem jIH:zG 108 yQ (juK lat lon) .normal (juL lat lon):=
 zr jA 19
theorem jII:zG 108 yQ (juL lat lon) .normal (juM lat lon):=
 zr jA 49
theorem jIJ:zG 108 yQ (juM lat lon) .normal (juN lat lon):=
 zr jA 21
theorem jIK:zG 108 yQ (juN lat lon) (.exit 2) (jm3 lat lon):=
 zr jA 0
theorem jIL (hn:SmH lat) (he:SmH lon):zG 108 (c1 (c2 (c2 (c2 (c2 (c2 (c2 (c2 (c2 (c2 (c2 (c2 (c2 (zhB)))))))))))))) (jm3 lat lon) .normal (jm4 lat lon):=fun s=>
 ToP.run2 (z:=⟨false,false,false⟩) (n:=20000) (dec:=[]) (mask:=(xL 1 (zY 16 (xL 8 [])))) (os:=(ra 4 (decide (lon≤1800000000),true) (ra 4 (decide (lon≥ -1800000000),true) (ra 4 (decide (lat≤900000000),true) (ra 4 (decide (lat≥ -900000000),true) []))))) (es:=(zob (jm4 lat lon))) jA (fun dead=>by kernel_rfl) (jC (decide_eq_true (by have:=hn.1;have:=hn.2;have:=he.1;have:=he.2;omega)) (jC (decide_eq_true (by have:=hn.1;have:=hn.2;have:=he.1;have:=he.2;omega)) (jC (decide_eq_true (by have:=hn.1;have:=hn.2;have:=he.1;have:=he.2;omega)) (jC (decide_eq_true (by have:=hn.1;have:=hn.2;have:=he.1;have:=he.2;omega)) jd _) _) _) _) (ki _) (fun s=>jy (by kernel_rfl)) (by kernel_rfl)
theorem jIM:zG 108 (c1 (c1 (c2 (c2 (c2 (c2 (c2 (c2 (c2 (c2 (c2 (c2 (c2 (c2 (c2 (zhB)))))))))))))))) (jm4 lat lon) .normal (jm5 lat lon):=
 zr jA 0
theorem jIN:zG 108 yR (jm5 lat lon) .normal (juO lat lon):=
 zr jA 22
theorem jIO:zG 108 yR (juO lat lon) .normal (juP lat lon):=
 zr jA 23
theorem jIP:zG 108 yR (juP lat lon) .normal (juQ lat lon):=
 zr jA 24
theorem jIQ:zG 108 yR (juQ lat lon) .normal (juR lat lon):=
 zr jA 25
theorem jIR:zG 108 yR (juR lat lon) .normal (juS lat lon):=
 zr jA 26
theorem jIS (hn:SmH lat) (he:SmH lon) (bn:ShB (smN lat)) (be:ShB (smE lon)):zG 108 yR (juS lat lon) .normal (juT lat lon):=fun s=>
 ToP.run2 (z:=⟨false,false,false⟩) (n:=20000) (dec:=[]) (mask:=(xL 69 (zY 34 (xL 13 [])))) (os:=(ra 1 (decide (wr .i64 (lon - 0)≤ -1800000000),false) (ra 1 (decide (wr .i64 (lon - 0)>1800000000),false) (ra 4 (decide (lon≤1800000000),true) (ra 4 (decide (lon≥ -1800000000),true) (ra 4 (decide (lat≤900000000),true) (ra 4 (decide (lat≥ -900000000),true) (ra 4 (decide (lon≤1800000000),true) (ra 4 (decide (lon≥ -1800000000),true) (ra 4 (decide (lat≤900000000),true) (ra 4 (decide (lat≥ -900000000),true) []))))))))))) (es:=[zj5 lat lon,zj4 lat lon,qt lat lon,qs lat lon,qt lat lon,qs lat lon,qt lat lon,qs lat lon,qt lat lon,qs lat lon,qt lat lon,qs lat lon,qt lat lon,qs lat lon,qt lat lon,qs lat lon,qt lat lon,qs lat lon,qt lat lon,qs lat lon,qt lat lon,qs lat lon,qt lat lon,qs lat lon,qt lat lon,qs lat lon,qt lat lon,qs lat lon,qt lat lon,qs lat lon,qt lat lon,qs lat lon,qt lat lon,qs lat lon,qt lat lon,qs lat lon,qt lat lon,qs lat lon,qt lat lon,qs lat lon,jno lat lon,jnn lat lon]) jA (fun dead=>by kernel_rfl) (jC (decide_eq_false (by have:=hn.1;have:=hn.2;have:=he.1;have:=he.2;rw [Go.Lr.w1 (by omega)];omega)) (jC (decide_eq_false (by have:=hn.1;have:=hn.2;have:=he.1;have:=he.2;rw [Go.Lr.w1 (by omega)];omega)) (jC (decide_eq_true (by have:=hn.1;have:=hn.2;have:=he.1;have:=he.2;omega)) (jC (decide_eq_true (by have:=hn.1;have:=hn.2;have:=he.1;have:=he.2;omega)) (jC (decide_eq_true (by have:=hn.1;have:=hn.2;have:=he.1;have:=he.2;omega)) (jC (decide_eq_true (by have:=hn.1;have:=hn.2;have:=he.1;have:=he.2;omega)) (jC (decide_eq_true (by have:=hn.1;have:=hn.2;have:=he.1;have:=he.2;omega)) (jC (decide_eq_true (by have:=hn.1;have:=hn.2;have:=he.1;have:=he.2;omega)) (jC (decide_eq_true (by have:=hn.1;have:=hn.2;have:=he.1;have:=he.2;omega)) (jC (decide_eq_true (by have:=hn.1;have:=hn.2;have:=he.1;have:=he.2;omega)) jd _) _) _) _) _) _) _) _) _) _) (j7 (js (jnm bn be) (js (jnl bn be) jP)) (j7 (js (jgX bn be) (js (jgW bn be) jP)) (j7 (js (jgV bn be) (js (jgU bn be) jP)) jP 1) 19) 1) (fun s=>jy (by kernel_rfl)) (by kernel_rfl)
theorem jIT (hn:SmH lat) (he:SmH lon) (bn:ShB (smN lat)) (be:ShB (smE lon)):zG 108 yR (juT lat lon) .normal (juU lat lon):=fun s=>
 ToP.run2 (z:=⟨false,false,false⟩) (n:=20000) (dec:=[]) (mask:=(xL 28 [])) (os:=[]) (es:=[jmw lat lon,jmv lat lon,qd lat lon,qc lat lon,qd lat lon,qc lat lon,qd lat lon,qc lat lon,qd lat lon,qc lat lon,qd lat lon,qc lat lon,qd lat lon,qc lat lon,qd lat lon,qc lat lon,qd lat lon,qc lat lon,qd lat lon,qc lat lon,qd lat lon,qc lat lon,qd lat lon,qc lat lon,qd lat lon,qc lat lon,qd lat lon,qc lat lon,qd lat lon,qc lat lon,qd lat lon,qc lat lon,qd lat lon,qc lat lon,qd lat lon,qc lat lon,qd lat lon,qc lat lon,qd lat lon,qc lat lon,qd lat lon,qc lat lon,jnq lat lon,jnp lat lon]) jA (fun dead=>by kernel_rfl) jd (j7 (js (jd8 bn be) (js (jd7 bn be) jP)) (j7 (js (jg1 bn be) (js (jg0 bn be) jP)) (j7 (js (jgZ bn be) (js (jgY bn be) jP)) jP 1) 20) 1) (fun s=>jy (by kernel_rfl)) (by kernel_rfl)
theorem jIU:zG 108 yR (juU lat lon) (.exit 4) (jm6 lat lon):=
 zr jA 0
theorem jIV:zG 108 (c1 (c2 (c2 (c2 (c2 (c2 (c2 (c2 (c2 (c2 (c2 (c2 (c2 (c2 (c2 (zhB)))))))))))))))) (jm6 lat lon) .normal (jg7 lat lon):=
 zr jA 0
theorem jIW:zG 108 (c2 (c2 (c2 (c2 (c2 (c2 (c2 (c2 (c2 (c2 (c2 (c2 (c2 (c2 (c2 (zhB)))))))))))))))) (jg7 lat lon) .ret (jg7 lat lon):=
 zr jA 0
theorem jIX:zK 108 ky 17 (jBu lat lon) (.exit 0) (jm1 lat lon):=
 zn jIo (zn jIp (zn jIq (zn jIr (zn jIs (zn jIt (zn jIu (zn jIv (zn jIw (zn jBv (zn jBw (zn jBx (zn jBy (zn jBz (zn jBA (zn jBB (zl jBC))))))))))))))))
theorem jIY:zK 108 yQ 8 (jm2 lat lon) (.exit 2) (jm3 lat lon):=
 zn jID (zn jIE (zn jIF (zn jIG (zn jIH (zn jII (zn jIJ (zl jIK)))))))
theorem jIZ (hn:SmH lat) (he:SmH lon) (bn:ShB (smN lat)) (be:ShB (smE lon)):zK 108 yR 8 (jm5 lat lon) (.exit 4) (jm6 lat lon):=
 zn jIN (zn jIO (zn jIP (zn jIQ (zn jIR (zn (jIS hn he bn be) (zn (jIT hn he bn be) (zl jIU)))))))
theorem jBE (hn:SmH lat) (he:SmH lon) (bn:ShB (smN lat)) (be:ShB (smE lon)):zG 108 zhB (jBt lat lon) .ret (jg7 lat lon):=
 zq jIj (zq jIk (zq jIl (zq jIm (zq (zo jIn jIX) (zq jIx (zq jIy (zq jIz (zq jIA (zq jIB (zq jBD (zq (zo jIC jIY) (zq (jIL hn he) (zq (zo jIM (jIZ hn he bn be)) (zq jIV jIW))))))))))))))
end Go.Proofs.YtnlhpaidmiogbaaGreat

/- TopShift: the law with a delay of 5. -/
namespace Go.Proofs.YtnlhpaidmiogbaaGreat
open Go.Lr
set_option linter.unusedVariables false
set_option maxRecDepth 100000
variable (lat lon:Int)
def jmp:PS2:=⟨(jnf lat lon 5),JL,0⟩
def ji4:PS2:=⟨(jgM lat lon 5),(jgN 40000),3⟩
def jsf:PS2:=⟨(jd0 lat lon 40000),JL,3⟩
def jsg:PS2:=⟨(xB 46),(xr lat lon 40000 690 5 192000 200000 240000 136000 697 21 459 249 25 208000),703⟩
def ji5:PS2:=⟨(xB 8),(xr lat lon 40000 690 5 192000 200000 240000 136000 697 21 459 249 25 208000),703⟩
def jsh:PS2:=⟨(Qf 8 30 9 705),(jgT lat lon 40000 690 5 192000 200000 240000 136000 697 21 459 249 25 208000 705),707⟩
def jsi:PS2:=⟨(jd5 705 709),(kX lat lon 705 709 240000),710⟩
def jsj:PS2:=⟨(Qf 9 705 11 709),(kX lat lon 705 709 240000),710⟩
def jsk:PS2:=⟨(kW 9 705 11 709 13 0),(kX lat lon 705 709 240000),710⟩
def jmq:PS2:=⟨(kW 9 705 11 709 13 1),(kX lat lon 705 709 240000),710⟩
def jgJ:PS2:=⟨(kW 9 705 11 709 13 2),(kX lat lon 705 709 240000),710⟩
def jj8:PS2:=⟨(kW 9 705 11 709 13 3),(kX lat lon 705 709 240000),710⟩
def jj9:PS2:=⟨jdZ,JL,710⟩
def jaB:PS2:=⟨jd3,JL,710⟩
variable {lat lon}
theorem jAm:zG 93 (c1 (c2 (c2 (c2 (zhC))))) (jmp lat lon) .normal (ji4 lat lon):=
 zr jA 0
theorem jAn:zG 93 (c1 (c2 (c2 (c2 (c2 (zhC)))))) (ji4 lat lon) .normal (ji4 lat lon):=
 zr jA 0
theorem jE5 (s:Asg):ToO Tryz.prog 93 (qK (c1 (c2 (c2 (c2 (c2 (c2 (zhC)))))))) 0 4 (j8 s (ji4 lat lon)) (zX (jsf lat lon)):=
 zro jA 0 4 (s:=s)
theorem jE6 (hn:SmH lat) (he:SmH lon) (bn:ShB (smN lat)) (be:ShB (smE lon)) (s:Asg):ToO Tryz.prog 93 (qK (c1 (c2 (c2 (c2 (c2 (c2 (zhC)))))))) 4 1 (j8 s (jsf lat lon)) (zX (jsg lat lon)):=
 zca (t:=46) (f:=14) (A0:=(jBt lat lon)) (D:=(jg7 lat lon)) (v:= .v (.one (.ptr 30 0))) jA Tryz.func14 (jBE hn he bn be) (fun s dead=>by kernel_rfl) (by kernel_rfl) (by kernel_rfl) (fun s=>by kernel_rfl) (by kernel_rfl) (fun s=>by kernel_rfl) (fun s dead=>by kernel_rfl) (fun s s2=>by kernel_rfl) (fun s=>by kernel_rfl) s
theorem jE7 (s:Asg):ToO Tryz.prog 93 (qK (c1 (c2 (c2 (c2 (c2 (c2 (zhC)))))))) 5 1 (j8 s (jsg lat lon)) (zX (ji5 lat lon)):=
 zro jA 5 1 (s:=s)
theorem jAo:zG 93 (c1 (c2 (c2 (c2 (c2 (c2 (c2 (zhC)))))))) (ji5 lat lon) .normal (ji5 lat lon):=
 zr jt 0
theorem jAp:zG 93 (c1 (c2 (c2 (c2 (c2 (c2 (c2 (c2 (zhC))))))))) (ji5 lat lon) .normal (jsh lat lon):=
 zr jt 0
theorem jAq:zG 93 (c1 (c2 (c2 (c2 (c2 (c2 (c2 (c2 (c2 (zhC)))))))))) (jsh lat lon) .normal (jsi lat lon):=
 zr jt 0
theorem jAr:zG 93 (c1 (c2 (c2 (c2 (c2 (c2 (c2 (c2 (c2 (c2 (zhC))))))))))) (jsi lat lon) .normal (jsj lat lon):=
 zr jt 0
theorem jsl:zG 93 (c1 (c1 (c2 (c2 (c2 (c2 (c2 (c2 (c2 (c2 (c2 (c2 (zhC))))))))))))) (jsj lat lon) .normal (jsk lat lon):=
 zr jt 0
theorem jAs:zG 93 (c1 (c1 (c2 (c1 (c2 (c2 (c2 (c2 (c2 (c2 (c2 (c2 (c2 (c2 (zhC))))))))))))))) (jsk lat lon) .normal (jmq lat lon):=fun s=>
 ToP.run2 (z:=⟨false,false,false⟩) (n:=20000) (dec:=[]) (mask:=(xL 1 (zY 1 []))) (os:=(ra 1 (wiB (smN lat) (smN lat) 107374182,true) [])) (es:=(zob (jmq lat lon))) jt (fun dead=>by kernel_rfl) (jC (Qb rfl (by omega)) jd _) (ki _) (fun s=>jy (by kernel_rfl)) (by kernel_rfl)
theorem jAt:zG 93 (c1 (c1 (c2 (c1 (c2 (c2 (c2 (c2 (c2 (c2 (c2 (c2 (c2 (c2 (zhC))))))))))))))) (jmq lat lon) .normal (jgJ lat lon):=fun s=>
 ToP.run2 (z:=⟨false,false,false⟩) (n:=20000) (dec:=[]) (mask:=(xL 1 (zY 1 []))) (os:=(ra 1 (wiB (smE lon) (smE lon) 107374182,true) [])) (es:=(zob (jgJ lat lon))) jt (fun dead=>by kernel_rfl) (jC (Qb rfl (by omega)) jd _) (ki _) (fun s=>jy (by kernel_rfl)) (by kernel_rfl)
theorem jAu:zG 93 (c1 (c1 (c2 (c1 (c2 (c2 (c2 (c2 (c2 (c2 (c2 (c2 (c2 (c2 (zhC))))))))))))))) (jgJ lat lon) .normal (jj8 lat lon):=
 zr jt 2
theorem jAv:zG 93 (c1 (c1 (c2 (c1 (c2 (c2 (c2 (c2 (c2 (c2 (c2 (c2 (c2 (c2 (zhC))))))))))))))) (jj8 lat lon) (.exit 0) jj9:=
 zr jt 0
theorem jsm:zG 93 (c1 (c2 (c2 (c2 (c2 (c2 (c2 (c2 (c2 (c2 (c2 (c2 (zhC))))))))))))) jj9 .normal jaB:=
 zr jt 0
theorem jsn:zG 93 (c2 (c2 (c2 (c2 (c2 (c2 (c2 (c2 (c2 (c2 (c2 (c2 (zhC))))))))))))) jaB .ret jaB:=
 zr jt 0
theorem jso (hn:SmH lat) (he:SmH lon) (bn:ShB (smN lat)) (be:ShB (smE lon)):zG 93 (c2 (c2 (c2 zhC))) (jmp lat lon) .ret jaB:=
 zq jAm (zq jAn (zq (z3 jE5 (jE6 hn he bn be) jE7) (zq jAo (zq jAp (zq jAq (zq jAr (zq (zo jsl (zn jAs (zn jAt (zn jAu (zl jAv))))) (zq jsm jsn))))))))
theorem jE8 (s:Asg):j8 s (zlA lat lon 5)=j8 s (jmp lat lon):=by kernel_rfl
theorem jE9:∀y,zX jaB y→zlF y:=by rintro x ⟨s,rfl⟩;exact ⟨s,_,rfl⟩
end Go.Proofs.YtnlhpaidmiogbaaGreat
