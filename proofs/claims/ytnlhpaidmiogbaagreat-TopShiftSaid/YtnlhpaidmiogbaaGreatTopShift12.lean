/- Joined texts. What each part proves stands ahead of it; no condition. -/
import Derived.Test.YtnlhpaidmiogbaaGreatTopShift9

/- TopShift: aided with a delay of 2, stage by stage. -/
namespace Go.Proofs.YtnlhpaidmiogbaaGreat
open Go.Lr
set_option linter.unusedVariables false
variable (lat lon:Int)
def jAZ:PS2:=⟨(jne lat lon 16000),JL,3⟩
def jCA:PS2:=⟨jnk,(jd6 lat lon 16000),5⟩
def jvJ:PS2:=⟨jnj,(Zj lat lon 16000),31⟩
def jCB:PS2:=⟨(jed 2),(Zj lat lon 16000),31⟩
def jA0:PS2:=⟨(kH 2 0),(Zj lat lon 16000),31⟩
def jCC:PS2:=⟨(kH 2 1),(qQ lat lon 16000 31 1 0 0 0 8000 (-9223372036854775808) 8000),38⟩
def jCD:PS2:=⟨(kH 2 2),(qQ lat lon 16000 38 2 0 0 0 16000 (-9223372036854775808) 8000),45⟩
def jCE:PS2:=⟨(kH 2 3),(qQ lat lon 16000 49 2 1 (-84238486) 8000 24000 8000 16000),57⟩
def jCF:PS2:=⟨(kH 2 4),(qQ lat lon 16000 61 2 2 (-168476972) 16000 32000 16000 24000),69⟩
def jCG:PS2:=⟨(kH 2 5),(qQ lat lon 16000 73 2 3 (-252715458) 24000 40000 24000 32000),81⟩
def jtd:PS2:=⟨(kH 2 6),(qQ lat lon 16000 85 2 4 (-336953944) 32000 48000 32000 40000),93⟩
def jte:PS2:=⟨(kH 2 7),(qQ lat lon 16000 97 2 5 (-421192430) 40000 56000 40000 48000),105⟩
def jtf:PS2:=⟨(kH 2 8),(qQ lat lon 16000 109 2 6 (-505430916) 48000 64000 48000 56000),117⟩
def jtg:PS2:=⟨(kH 2 9),(qQ lat lon 16000 121 2 7 (-589669402) 56000 72000 56000 64000),129⟩
def jth:PS2:=⟨(kH 2 10),(qQ lat lon 16000 133 2 8 (-673907888) 64000 80000 64000 72000),141⟩
def jti:PS2:=⟨(kH 2 11),(qQ lat lon 16000 145 2 9 (-758146374) 72000 88000 72000 80000),153⟩
def jtj:PS2:=⟨(kH 2 12),(jsz lat lon 16000 176 2 96000 158 3),184⟩
def jtk:PS2:=⟨(kH 2 13),(XB lat lon 16000 186 2 104000 193 4),199⟩
def jmJ:PS2:=⟨(jed 2),(XB lat lon 16000 186 2 104000 193 4),199⟩
def jtl:PS2:=⟨(jni 2 199),(jbW lat lon 16000 186 2 104000 193 4 199),200⟩
def jtm:PS2:=⟨(jng 2 199),(jbW lat lon 16000 186 2 104000 193 4 199),208⟩
def jtn:PS2:=⟨(jnh 2 199),(jbW lat lon 16000 186 2 104000 193 4 199),208⟩
def jto:PS2:=⟨(jd1 2 199 208),(jgP lat lon 16000 186 2 104000 193 4 199 208),209⟩
def jtp:PS2:=⟨(jd2 2 209),(jgQ lat lon 16000 186 2 104000 193 4 209),210⟩
def jtq:PS2:=⟨(kW 5 4 7 30 8 2),(XC lat lon 16000 186 2 104000 193 4 213 104001),220⟩
def jmK:PS2:=⟨(qp 2 0),(XC lat lon 16000 186 2 104000 193 4 213 104001),220⟩
def jtr:PS2:=⟨(qp 2 1),(JI lat lon 16000 223 2 96000 112000 230 5 213 12 104001 104000),236⟩
def jts:PS2:=⟨(qp 2 2),(JI lat lon 16000 239 2 104000 120000 246 6 213 13 104001 112000),252⟩
def jtt:PS2:=⟨(qp 2 3),(jgR lat lon 16000 343 2 112000 303 128000 350 7 213 14 120000),356⟩
def jtu:PS2:=⟨(qp 2 4),(XD lat lon 16000 359 2 120000 136000 112000 366 8 213 15 128000),372⟩
def jmL:PS2:=⟨(kW 5 4 7 30 8 2),(XD lat lon 16000 359 2 120000 136000 112000 366 8 213 15 128000),372⟩
def jmM:PS2:=⟨(jd4 2),(XE lat lon 16000 359 2 120000 136000 112000 366 8 375 213 15 128000 136001),382⟩
def jmN:PS2:=⟨(qr 2 0),(XE lat lon 16000 359 2 120000 136000 112000 366 8 375 213 15 128000 136001),382⟩
def jtv:PS2:=⟨(qr 2 1),(JJ lat lon 16000 386 2 128000 144000 112000 393 9 375 213 16 136001 136000),399⟩
def jtw:PS2:=⟨(qr 2 2),(JJ lat lon 16000 403 2 136000 152000 112000 410 10 375 213 17 136001 144000),416⟩
def jtx:PS2:=⟨(qr 2 3),(jgS lat lon 16000 538 2 144000 480 160000 112000 545 11 375 213 18 152000),551⟩
def jty:PS2:=⟨(qr 2 4),(xr lat lon 16000 555 2 144000 152000 168000 112000 562 12 375 213 19 160000),568⟩
def jmO:PS2:=⟨(xB 7),(xr lat lon 16000 555 2 144000 152000 168000 112000 562 12 375 213 19 160000),568⟩
def jg4:PS2:=⟨(xB 6),(xr lat lon 16000 555 2 144000 152000 168000 112000 562 12 375 213 19 160000),568⟩
variable {lat lon}
theorem jGq:zG 108 (c1 (zhB)) (jAZ lat lon) .normal (jCA lat lon):=
 zr jJ 0
theorem jGr:zG 108 (c1 (c2 (zhB))) (jCA lat lon) .normal (jvJ lat lon):=
 zr jJ 0
theorem jGs:zG 108 (c1 (c2 (c2 (zhB)))) (jvJ lat lon) .normal (jvJ lat lon):=
 zr jJ 0
theorem jGt:zG 108 (c1 (c2 (c2 (c2 (zhB))))) (jvJ lat lon) .normal (jCB lat lon):=
 zr jJ 0
theorem jGu:zG 108 (c1 (c1 (c2 (c2 (c2 (c2 (zhB))))))) (jCB lat lon) .normal (jA0 lat lon):=
 zr jJ 0
theorem jGv:zG 108 ky (jA0 lat lon) .normal (jCC lat lon):=
 zr jJ 3
theorem jGw:zG 108 ky (jCC lat lon) .normal (jCD lat lon):=
 zr jJ 3
theorem jGx:zG 108 ky (jCD lat lon) .normal (jCE lat lon):=
 zr jJ 3
theorem jGy:zG 108 ky (jCE lat lon) .normal (jCF lat lon):=
 zr jJ 3
theorem jGz:zG 108 ky (jCF lat lon) .normal (jCG lat lon):=
 zr jJ 3
theorem jGA:zG 108 ky (jCG lat lon) .normal (jtd lat lon):=
 zr jJ 3
theorem jGB:zG 108 ky (jtd lat lon) .normal (jte lat lon):=
 zr jJ 3
theorem jGC:zG 108 ky (jte lat lon) .normal (jtf lat lon):=
 zr jJ 3
theorem jGD:zG 108 ky (jtf lat lon) .normal (jtg lat lon):=
 zr jJ 3
theorem jA1:zG 108 ky (jtg lat lon) .normal (jth lat lon):=
 zr jJ 3
theorem jA2:zG 108 ky (jth lat lon) .normal (jti lat lon):=
 zr jJ 3
theorem jA3:zG 108 ky (jti lat lon) .normal (jtj lat lon):=
 zr jJ 11
theorem jA4:zG 108 ky (jtj lat lon) .normal (jtk lat lon):=
 zr jJ 11
theorem jA5:zG 108 ky (jtk lat lon) (.exit 0) (jmJ lat lon):=
 zr jJ 0
theorem jGE:zG 108 (c1 (c2 (c2 (c2 (c2 (c2 (zhB))))))) (jmJ lat lon) .normal (jtl lat lon):=
 zr jJ 0
theorem jGF:zG 108 (c1 (c2 (c2 (c2 (c2 (c2 (c2 (zhB)))))))) (jtl lat lon) .normal (jtm lat lon):=
 zr jJ 0
theorem jGG:zG 108 (c1 (c2 (c2 (c2 (c2 (c2 (c2 (c2 (zhB))))))))) (jtm lat lon) .normal (jtn lat lon):=
 zr jJ 0
theorem jGH:zG 108 (c1 (c2 (c2 (c2 (c2 (c2 (c2 (c2 (c2 (zhB)))))))))) (jtn lat lon) .normal (jto lat lon):=
 zr jJ 0
theorem jGI:zG 108 (c1 (c2 (c2 (c2 (c2 (c2 (c2 (c2 (c2 (c2 (zhB))))))))))) (jto lat lon) .normal (jtp lat lon):=
 zr jJ 0
theorem jA6:zG 108 (c1 (c2 (c2 (c2 (c2 (c2 (c2 (c2 (c2 (c2 (c2 (zhB)))))))))))) (jtp lat lon) .normal (jtq lat lon):=
 zr jJ 1
theorem jGJ:zG 108 (c1 (c1 (c2 (c2 (c2 (c2 (c2 (c2 (c2 (c2 (c2 (c2 (c2 (zhB)))))))))))))) (jtq lat lon) .normal (jmK lat lon):=
 zr jJ 0
theorem jGK:zG 108 yQ (jmK lat lon) .normal (jtr lat lon):=
 zr jJ 12
theorem jGL:zG 108 yQ (jtr lat lon) .normal (jts lat lon):=
 zr jJ 13
theorem jGM:zG 108 yQ (jts lat lon) .normal (jtt lat lon):=
 zr jJ 43
theorem jGN:zG 108 yQ (jtt lat lon) .normal (jtu lat lon):=
 zr jJ 15
theorem jGO:zG 108 yQ (jtu lat lon) (.exit 2) (jmL lat lon):=
 zr jJ 0
theorem jGP (hn:SmH lat) (he:SmH lon):zG 108 (c1 (c2 (c2 (c2 (c2 (c2 (c2 (c2 (c2 (c2 (c2 (c2 (c2 (zhB)))))))))))))) (jmL lat lon) .normal (jmM lat lon):=fun s=>
 ToP.run2 (z:=⟨false,false,false⟩) (n:=20000) (dec:=[]) (mask:=(xL 1 (zY 16 (xL 8 [])))) (os:=(ra 4 (decide (lon≤1800000000),true) (ra 4 (decide (lon≥ -1800000000),true) (ra 4 (decide (lat≤900000000),true) (ra 4 (decide (lat≥ -900000000),true) []))))) (es:=(zob (jmM lat lon))) jJ (fun dead=>by kernel_rfl) (jC (decide_eq_true (by have:=hn.1;have:=hn.2;have:=he.1;have:=he.2;omega)) (jC (decide_eq_true (by have:=hn.1;have:=hn.2;have:=he.1;have:=he.2;omega)) (jC (decide_eq_true (by have:=hn.1;have:=hn.2;have:=he.1;have:=he.2;omega)) (jC (decide_eq_true (by have:=hn.1;have:=hn.2;have:=he.1;have:=he.2;omega)) jd _) _) _) _) (ki _) (fun s=>jy (by kernel_rfl)) (by kernel_rfl)
theorem jGQ:zG 108 (c1 (c1 (c2 (c2 (c2 (c2 (c2 (c2 (c2 (c2 (c2 (c2 (c2 (c2 (c2 (zhB)))))))))))))))) (jmM lat lon) .normal (jmN lat lon):=
 zr jJ 0
theorem jGR:zG 108 yR (jmN lat lon) .normal (jtv lat lon):=
 zr jJ 16
theorem jGS:zG 108 yR (jtv lat lon) .normal (jtw lat lon):=
 zr jJ 17
theorem jGT (hn:SmH lat) (he:SmH lon) (bn:ShB (smN lat)) (be:ShB (smE lon)):zG 108 yR (jtw lat lon) .normal (jtx lat lon):=fun s=>
 ToP.run2 (z:=⟨false,false,false⟩) (n:=20000) (dec:=[]) (mask:=(xL 60 (zY 34 (xL 13 [])))) (os:=(ra 1 (decide (wr .i64 (lon - 0)≤ -1800000000),false) (ra 1 (decide (wr .i64 (lon - 0)>1800000000),false) (ra 4 (decide (lon≤1800000000),true) (ra 4 (decide (lon≥ -1800000000),true) (ra 4 (decide (lat≤900000000),true) (ra 4 (decide (lat≥ -900000000),true) (ra 4 (decide (lon≤1800000000),true) (ra 4 (decide (lon≥ -1800000000),true) (ra 4 (decide (lat≤900000000),true) (ra 4 (decide (lat≥ -900000000),true) []))))))))))) (es:=[zj5 lat lon,zj4 lat lon,qt lat lon,qs lat lon,qt lat lon,qs lat lon,qt lat lon,qs lat lon,qt lat lon,qs lat lon,qt lat lon,qs lat lon,qt lat lon,qs lat lon,qt lat lon,qs lat lon,qt lat lon,qs lat lon,qt lat lon,qs lat lon,qt lat lon,qs lat lon,jno lat lon,jnn lat lon]) jJ (fun dead=>by kernel_rfl) (jC (decide_eq_false (by have:=hn.1;have:=hn.2;have:=he.1;have:=he.2;rw [Go.Lr.w1 (by omega)];omega)) (jC (decide_eq_false (by have:=hn.1;have:=hn.2;have:=he.1;have:=he.2;rw [Go.Lr.w1 (by omega)];omega)) (jC (decide_eq_true (by have:=hn.1;have:=hn.2;have:=he.1;have:=he.2;omega)) (jC (decide_eq_true (by have:=hn.1;have:=hn.2;have:=he.1;have:=he.2;omega)) (jC (decide_eq_true (by have:=hn.1;have:=hn.2;have:=he.1;have:=he.2;omega)) (jC (decide_eq_true (by have:=hn.1;have:=hn.2;have:=he.1;have:=he.2;omega)) (jC (decide_eq_true (by have:=hn.1;have:=hn.2;have:=he.1;have:=he.2;omega)) (jC (decide_eq_true (by have:=hn.1;have:=hn.2;have:=he.1;have:=he.2;omega)) (jC (decide_eq_true (by have:=hn.1;have:=hn.2;have:=he.1;have:=he.2;omega)) (jC (decide_eq_true (by have:=hn.1;have:=hn.2;have:=he.1;have:=he.2;omega)) jd _) _) _) _) _) _) _) _) _) _) (j7 (js (jnm bn be) (js (jnl bn be) jP)) (j7 (js (jgX bn be) (js (jgW bn be) jP)) (j7 (js (jgV bn be) (js (jgU bn be) jP)) jP 1) 10) 1) (fun s=>jy (by kernel_rfl)) (by kernel_rfl)
theorem jGU (hn:SmH lat) (he:SmH lon) (bn:ShB (smN lat)) (be:ShB (smE lon)):zG 108 yR (jtx lat lon) .normal (jty lat lon):=fun s=>
 ToP.run2 (z:=⟨false,false,false⟩) (n:=20000) (dec:=[]) (mask:=(xL 19 [])) (os:=[]) (es:=[jmw lat lon,jmv lat lon,qd lat lon,qc lat lon,qd lat lon,qc lat lon,qd lat lon,qc lat lon,qd lat lon,qc lat lon,qd lat lon,qc lat lon,qd lat lon,qc lat lon,qd lat lon,qc lat lon,qd lat lon,qc lat lon,qd lat lon,qc lat lon,qd lat lon,qc lat lon,qd lat lon,qc lat lon,jnq lat lon,jnp lat lon]) jJ (fun dead=>by kernel_rfl) jd (j7 (js (jd8 bn be) (js (jd7 bn be) jP)) (j7 (js (jg1 bn be) (js (jg0 bn be) jP)) (j7 (js (jgZ bn be) (js (jgY bn be) jP)) jP 1) 11) 1) (fun s=>jy (by kernel_rfl)) (by kernel_rfl)
theorem jGV:zG 108 yR (jty lat lon) (.exit 4) (jmO lat lon):=
 zr jJ 0
theorem jGW:zG 108 (c1 (c2 (c2 (c2 (c2 (c2 (c2 (c2 (c2 (c2 (c2 (c2 (c2 (c2 (c2 (zhB)))))))))))))))) (jmO lat lon) .normal (jg4 lat lon):=
 zr jJ 0
theorem jGX:zG 108 (c2 (c2 (c2 (c2 (c2 (c2 (c2 (c2 (c2 (c2 (c2 (c2 (c2 (c2 (c2 (zhB)))))))))))))))) (jg4 lat lon) .ret (jg4 lat lon):=
 zr jJ 0
theorem jGY:zK 108 ky 14 (jA0 lat lon) (.exit 0) (jmJ lat lon):=
 zn jGv (zn jGw (zn jGx (zn jGy (zn jGz (zn jGA (zn jGB (zn jGC (zn jGD (zn jA1 (zn jA2 (zn jA3 (zn jA4 (zl jA5)))))))))))))
theorem jGZ:zK 108 yQ 5 (jmK lat lon) (.exit 2) (jmL lat lon):=
 zn jGK (zn jGL (zn jGM (zn jGN (zl jGO))))
theorem jG0 (hn:SmH lat) (he:SmH lon) (bn:ShB (smN lat)) (be:ShB (smE lon)):zK 108 yR 5 (jmN lat lon) (.exit 4) (jmO lat lon):=
 zn jGR (zn jGS (zn (jGT hn he bn be) (zn (jGU hn he bn be) (zl jGV))))
theorem jA7 (hn:SmH lat) (he:SmH lon) (bn:ShB (smN lat)) (be:ShB (smE lon)):zG 108 zhB (jAZ lat lon) .ret (jg4 lat lon):=
 zq jGq (zq jGr (zq jGs (zq jGt (zq (zo jGu jGY) (zq jGE (zq jGF (zq jGG (zq jGH (zq jGI (zq jA6 (zq (zo jGJ jGZ) (zq (jGP hn he) (zq (zo jGQ (jG0 hn he bn be)) (zq jGW jGX))))))))))))))
end Go.Proofs.YtnlhpaidmiogbaaGreat

/- TopShift: the law with a delay of 2. -/
namespace Go.Proofs.YtnlhpaidmiogbaaGreat
open Go.Lr
set_option linter.unusedVariables false
set_option maxRecDepth 100000
variable (lat lon:Int)
def jmm:PS2:=⟨(jnf lat lon 2),JL,0⟩
def jrF:PS2:=⟨(jgM lat lon 2),(jgN 40000),3⟩
def jrG:PS2:=⟨(jgM lat lon 2),(jgN 16000),3⟩
def jrH:PS2:=⟨(jd0 lat lon 16000),JL,3⟩
def jrI:PS2:=⟨(xB 46),(xr lat lon 16000 555 2 144000 152000 168000 112000 562 12 375 213 19 160000),568⟩
def ji1:PS2:=⟨(xB 8),(xr lat lon 16000 555 2 144000 152000 168000 112000 562 12 375 213 19 160000),568⟩
def jrJ:PS2:=⟨(Qf 8 30 9 570),(jgT lat lon 16000 555 2 144000 152000 168000 112000 562 12 375 213 19 160000 570),572⟩
def jrK:PS2:=⟨(jd5 570 574),(kX lat lon 570 574 168000),575⟩
def jrL:PS2:=⟨(Qf 9 570 11 574),(kX lat lon 570 574 168000),575⟩
def jrM:PS2:=⟨(kW 9 570 11 574 13 0),(kX lat lon 570 574 168000),575⟩
def jgD:PS2:=⟨(kW 9 570 11 574 13 1),(kX lat lon 570 574 168000),575⟩
def jgE:PS2:=⟨(kW 9 570 11 574 13 2),(kX lat lon 570 574 168000),575⟩
def jj2:PS2:=⟨(kW 9 570 11 574 13 3),(kX lat lon 570 574 168000),575⟩
def jj3:PS2:=⟨jdZ,JL,575⟩
def jay:PS2:=⟨jd3,JL,575⟩
variable {lat lon}
theorem jzS:zG 93 (c1 (c2 (c2 (c2 (zhC))))) (jmm lat lon) .normal (jrF lat lon):=
 zr jJ 0
theorem jzT:zG 93 (c1 (c2 (c2 (c2 (c2 (zhC)))))) (jrF lat lon) .normal (jrG lat lon):=
 zr jJ 0
theorem jEQ (s:Asg):ToO Tryz.prog 93 (qK (c1 (c2 (c2 (c2 (c2 (c2 (zhC)))))))) 0 4 (j8 s (jrG lat lon)) (zX (jrH lat lon)):=
 zro jJ 0 4 (s:=s)
theorem jER (hn:SmH lat) (he:SmH lon) (bn:ShB (smN lat)) (be:ShB (smE lon)) (s:Asg):ToO Tryz.prog 93 (qK (c1 (c2 (c2 (c2 (c2 (c2 (zhC)))))))) 4 1 (j8 s (jrH lat lon)) (zX (jrI lat lon)):=
 zca (t:=46) (f:=14) (A0:=(jAZ lat lon)) (D:=(jg4 lat lon)) (v:= .v (.one (.ptr 30 0))) jJ Tryz.func14 (jA7 hn he bn be) (fun s dead=>by kernel_rfl) (by kernel_rfl) (by kernel_rfl) (fun s=>by kernel_rfl) (by kernel_rfl) (fun s=>by kernel_rfl) (fun s dead=>by kernel_rfl) (fun s s2=>by kernel_rfl) (fun s=>by kernel_rfl) s
theorem jES (s:Asg):ToO Tryz.prog 93 (qK (c1 (c2 (c2 (c2 (c2 (c2 (zhC)))))))) 5 1 (j8 s (jrI lat lon)) (zX (ji1 lat lon)):=
 zro jJ 5 1 (s:=s)
theorem jzU:zG 93 (c1 (c2 (c2 (c2 (c2 (c2 (c2 (zhC)))))))) (ji1 lat lon) .normal (ji1 lat lon):=
 zr jt 0
theorem jzV:zG 93 (c1 (c2 (c2 (c2 (c2 (c2 (c2 (c2 (zhC))))))))) (ji1 lat lon) .normal (jrJ lat lon):=
 zr jt 0
theorem jzW:zG 93 (c1 (c2 (c2 (c2 (c2 (c2 (c2 (c2 (c2 (zhC)))))))))) (jrJ lat lon) .normal (jrK lat lon):=
 zr jt 0
theorem jzX:zG 93 (c1 (c2 (c2 (c2 (c2 (c2 (c2 (c2 (c2 (c2 (zhC))))))))))) (jrK lat lon) .normal (jrL lat lon):=
 zr jt 0
theorem jrN:zG 93 (c1 (c1 (c2 (c2 (c2 (c2 (c2 (c2 (c2 (c2 (c2 (c2 (zhC))))))))))))) (jrL lat lon) .normal (jrM lat lon):=
 zr jt 0
theorem jzY:zG 93 (c1 (c1 (c2 (c1 (c2 (c2 (c2 (c2 (c2 (c2 (c2 (c2 (c2 (c2 (zhC))))))))))))))) (jrM lat lon) .normal (jgD lat lon):=fun s=>
 ToP.run2 (z:=⟨false,false,false⟩) (n:=20000) (dec:=[]) (mask:=(xL 1 (zY 1 []))) (os:=(ra 1 (wiB (smN lat) (smN lat) 107374182,true) [])) (es:=(zob (jgD lat lon))) jt (fun dead=>by kernel_rfl) (jC (Qb rfl (by omega)) jd _) (ki _) (fun s=>jy (by kernel_rfl)) (by kernel_rfl)
theorem jzZ:zG 93 (c1 (c1 (c2 (c1 (c2 (c2 (c2 (c2 (c2 (c2 (c2 (c2 (c2 (c2 (zhC))))))))))))))) (jgD lat lon) .normal (jgE lat lon):=fun s=>
 ToP.run2 (z:=⟨false,false,false⟩) (n:=20000) (dec:=[]) (mask:=(xL 1 (zY 1 []))) (os:=(ra 1 (wiB (smE lon) (smE lon) 107374182,true) [])) (es:=(zob (jgE lat lon))) jt (fun dead=>by kernel_rfl) (jC (Qb rfl (by omega)) jd _) (ki _) (fun s=>jy (by kernel_rfl)) (by kernel_rfl)
theorem jz0:zG 93 (c1 (c1 (c2 (c1 (c2 (c2 (c2 (c2 (c2 (c2 (c2 (c2 (c2 (c2 (zhC))))))))))))))) (jgE lat lon) .normal (jj2 lat lon):=
 zr jt 2
theorem jz1:zG 93 (c1 (c1 (c2 (c1 (c2 (c2 (c2 (c2 (c2 (c2 (c2 (c2 (c2 (c2 (zhC))))))))))))))) (jj2 lat lon) (.exit 0) jj3:=
 zr jt 0
theorem jrO:zG 93 (c1 (c2 (c2 (c2 (c2 (c2 (c2 (c2 (c2 (c2 (c2 (c2 (zhC))))))))))))) jj3 .normal jay:=
 zr jt 0
theorem jrP:zG 93 (c2 (c2 (c2 (c2 (c2 (c2 (c2 (c2 (c2 (c2 (c2 (c2 (zhC))))))))))))) jay .ret jay:=
 zr jt 0
theorem jrQ (hn:SmH lat) (he:SmH lon) (bn:ShB (smN lat)) (be:ShB (smE lon)):zG 93 (c2 (c2 (c2 zhC))) (jmm lat lon) .ret jay:=
 zq jzS (zq jzT (zq (z3 jEQ (jER hn he bn be) jES) (zq jzU (zq jzV (zq jzW (zq jzX (zq (zo jrN (zn jzY (zn jzZ (zn jz0 (zl jz1))))) (zq jrO jrP))))))))
theorem jET (s:Asg):j8 s (zlA lat lon 2)=j8 s (jmm lat lon):=by kernel_rfl
theorem jEU:∀y,zX jay y→zlF y:=by rintro x ⟨s,rfl⟩;exact ⟨s,_,rfl⟩
end Go.Proofs.YtnlhpaidmiogbaaGreat
