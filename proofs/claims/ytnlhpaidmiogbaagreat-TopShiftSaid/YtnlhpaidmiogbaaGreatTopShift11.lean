/- Joined texts. What each part proves stands ahead of it; no condition. -/
import Derived.Test.YtnlhpaidmiogbaaGreatTopShift9

/- TopShift: aided with a delay of 1, stage by stage. -/
namespace Go.Proofs.YtnlhpaidmiogbaaGreat
open Go.Lr
set_option linter.unusedVariables false
variable (lat lon:Int)
def jAR:PS2:=⟨(jne lat lon 8000),JL,3⟩
def jCt:PS2:=⟨jnk,(jd6 lat lon 8000),5⟩
def jvI:PS2:=⟨jnj,(Zj lat lon 8000),31⟩
def jCu:PS2:=⟨(jed 1),(Zj lat lon 8000),31⟩
def jAS:PS2:=⟨(kH 1 0),(Zj lat lon 8000),31⟩
def jCv:PS2:=⟨(kH 1 1),(qQ lat lon 8000 31 1 0 0 0 8000 (-9223372036854775808) 8000),38⟩
def jCw:PS2:=⟨(kH 1 2),(qQ lat lon 8000 42 1 1 (-84238486) 8000 16000 8000 16000),50⟩
def jCx:PS2:=⟨(kH 1 3),(qQ lat lon 8000 54 1 2 (-168476972) 16000 24000 16000 24000),62⟩
def jCy:PS2:=⟨(kH 1 4),(qQ lat lon 8000 66 1 3 (-252715458) 24000 32000 24000 32000),74⟩
def jCz:PS2:=⟨(kH 1 5),(qQ lat lon 8000 78 1 4 (-336953944) 32000 40000 32000 40000),86⟩
def jsU:PS2:=⟨(kH 1 6),(qQ lat lon 8000 90 1 5 (-421192430) 40000 48000 40000 48000),98⟩
def jsV:PS2:=⟨(kH 1 7),(qQ lat lon 8000 102 1 6 (-505430916) 48000 56000 48000 56000),110⟩
def jsW:PS2:=⟨(kH 1 8),(qQ lat lon 8000 114 1 7 (-589669402) 56000 64000 56000 64000),122⟩
def jsX:PS2:=⟨(kH 1 9),(qQ lat lon 8000 126 1 8 (-673907888) 64000 72000 64000 72000),134⟩
def jsY:PS2:=⟨(kH 1 10),(qQ lat lon 8000 138 1 9 (-758146374) 72000 80000 72000 80000),146⟩
def jsZ:PS2:=⟨(kH 1 11),(jsz lat lon 8000 164 1 88000 151 2),172⟩
def js0:PS2:=⟨(kH 1 12),(XB lat lon 8000 174 1 96000 181 3),187⟩
def jmD:PS2:=⟨(jed 1),(XB lat lon 8000 174 1 96000 181 3),187⟩
def js1:PS2:=⟨(jni 1 187),(jbW lat lon 8000 174 1 96000 181 3 187),188⟩
def js2:PS2:=⟨(jng 1 187),(jbW lat lon 8000 174 1 96000 181 3 187),196⟩
def js3:PS2:=⟨(jnh 1 187),(jbW lat lon 8000 174 1 96000 181 3 187),196⟩
def js4:PS2:=⟨(jd1 1 187 196),(jgP lat lon 8000 174 1 96000 181 3 187 196),197⟩
def js5:PS2:=⟨(jd2 1 197),(jgQ lat lon 8000 174 1 96000 181 3 197),198⟩
def js6:PS2:=⟨(kW 5 4 7 30 8 1),(XC lat lon 8000 174 1 96000 181 3 201 96001),208⟩
def jmE:PS2:=⟨(qp 1 0),(XC lat lon 8000 174 1 96000 181 3 201 96001),208⟩
def js7:PS2:=⟨(qp 1 1),(JI lat lon 8000 211 1 96000 104000 218 4 201 12 96001 104000),224⟩
def js8:PS2:=⟨(qp 1 2),(jgR lat lon 8000 315 1 104000 275 112000 322 5 201 13 112000),328⟩
def js9:PS2:=⟨(qp 1 3),(XD lat lon 8000 331 1 112000 120000 104000 338 6 201 14 120000),344⟩
def jmF:PS2:=⟨(kW 5 4 7 30 8 1),(XD lat lon 8000 331 1 112000 120000 104000 338 6 201 14 120000),344⟩
def jmG:PS2:=⟨(jd4 1),(XE lat lon 8000 331 1 112000 120000 104000 338 6 347 201 14 120000 120001),354⟩
def jmH:PS2:=⟨(qr 1 0),(XE lat lon 8000 331 1 112000 120000 104000 338 6 347 201 14 120000 120001),354⟩
def jta:PS2:=⟨(qr 1 1),(JJ lat lon 8000 358 1 120000 128000 104000 365 7 347 201 15 120001 128000),371⟩
def jtb:PS2:=⟨(qr 1 2),(jgS lat lon 8000 493 1 128000 435 136000 104000 500 8 347 201 16 136000),506⟩
def jtc:PS2:=⟨(qr 1 3),(xr lat lon 8000 510 1 128000 136000 144000 104000 517 9 347 201 17 144000),523⟩
def jmI:PS2:=⟨(xB 7),(xr lat lon 8000 510 1 128000 136000 144000 104000 517 9 347 201 17 144000),523⟩
def jg3:PS2:=⟨(xB 6),(xr lat lon 8000 510 1 128000 136000 144000 104000 517 9 347 201 17 144000),523⟩
variable {lat lon}
theorem jFR:zG 108 (c1 (zhB)) (jAR lat lon) .normal (jCt lat lon):=
 zr jN 0
theorem jFS:zG 108 (c1 (c2 (zhB))) (jCt lat lon) .normal (jvI lat lon):=
 zr jN 0
theorem jFT:zG 108 (c1 (c2 (c2 (zhB)))) (jvI lat lon) .normal (jvI lat lon):=
 zr jN 0
theorem jFU:zG 108 (c1 (c2 (c2 (c2 (zhB))))) (jvI lat lon) .normal (jCu lat lon):=
 zr jN 0
theorem jFV:zG 108 (c1 (c1 (c2 (c2 (c2 (c2 (zhB))))))) (jCu lat lon) .normal (jAS lat lon):=
 zr jN 0
theorem jFW:zG 108 ky (jAS lat lon) .normal (jCv lat lon):=
 zr jN 3
theorem jFX:zG 108 ky (jCv lat lon) .normal (jCw lat lon):=
 zr jN 3
theorem jFY:zG 108 ky (jCw lat lon) .normal (jCx lat lon):=
 zr jN 3
theorem jFZ:zG 108 ky (jCx lat lon) .normal (jCy lat lon):=
 zr jN 3
theorem jF0:zG 108 ky (jCy lat lon) .normal (jCz lat lon):=
 zr jN 3
theorem jF1:zG 108 ky (jCz lat lon) .normal (jsU lat lon):=
 zr jN 3
theorem jF2:zG 108 ky (jsU lat lon) .normal (jsV lat lon):=
 zr jN 3
theorem jF3:zG 108 ky (jsV lat lon) .normal (jsW lat lon):=
 zr jN 3
theorem jF4:zG 108 ky (jsW lat lon) .normal (jsX lat lon):=
 zr jN 3
theorem jAT:zG 108 ky (jsX lat lon) .normal (jsY lat lon):=
 zr jN 3
theorem jAU:zG 108 ky (jsY lat lon) .normal (jsZ lat lon):=
 zr jN 9
theorem jAV:zG 108 ky (jsZ lat lon) .normal (js0 lat lon):=
 zr jN 10
theorem jAW:zG 108 ky (js0 lat lon) (.exit 0) (jmD lat lon):=
 zr jN 0
theorem jF5:zG 108 (c1 (c2 (c2 (c2 (c2 (c2 (zhB))))))) (jmD lat lon) .normal (js1 lat lon):=
 zr jN 0
theorem jF6:zG 108 (c1 (c2 (c2 (c2 (c2 (c2 (c2 (zhB)))))))) (js1 lat lon) .normal (js2 lat lon):=
 zr jN 0
theorem jF7:zG 108 (c1 (c2 (c2 (c2 (c2 (c2 (c2 (c2 (zhB))))))))) (js2 lat lon) .normal (js3 lat lon):=
 zr jN 0
theorem jF8:zG 108 (c1 (c2 (c2 (c2 (c2 (c2 (c2 (c2 (c2 (zhB)))))))))) (js3 lat lon) .normal (js4 lat lon):=
 zr jN 0
theorem jF9:zG 108 (c1 (c2 (c2 (c2 (c2 (c2 (c2 (c2 (c2 (c2 (zhB))))))))))) (js4 lat lon) .normal (js5 lat lon):=
 zr jN 0
theorem jAX:zG 108 (c1 (c2 (c2 (c2 (c2 (c2 (c2 (c2 (c2 (c2 (c2 (zhB)))))))))))) (js5 lat lon) .normal (js6 lat lon):=
 zr jN 1
theorem jGa:zG 108 (c1 (c1 (c2 (c2 (c2 (c2 (c2 (c2 (c2 (c2 (c2 (c2 (c2 (zhB)))))))))))))) (js6 lat lon) .normal (jmE lat lon):=
 zr jN 0
theorem jGb:zG 108 yQ (jmE lat lon) .normal (js7 lat lon):=
 zr jN 11
theorem jGc:zG 108 yQ (js7 lat lon) .normal (js8 lat lon):=
 zr jN 41
theorem jGd:zG 108 yQ (js8 lat lon) .normal (js9 lat lon):=
 zr jN 13
theorem jGe:zG 108 yQ (js9 lat lon) (.exit 2) (jmF lat lon):=
 zr jN 0
theorem jGf (hn:SmH lat) (he:SmH lon):zG 108 (c1 (c2 (c2 (c2 (c2 (c2 (c2 (c2 (c2 (c2 (c2 (c2 (c2 (zhB)))))))))))))) (jmF lat lon) .normal (jmG lat lon):=fun s=>
 ToP.run2 (z:=⟨false,false,false⟩) (n:=20000) (dec:=[]) (mask:=(xL 1 (zY 16 (xL 8 [])))) (os:=(ra 4 (decide (lon≤1800000000),true) (ra 4 (decide (lon≥ -1800000000),true) (ra 4 (decide (lat≤900000000),true) (ra 4 (decide (lat≥ -900000000),true) []))))) (es:=(zob (jmG lat lon))) jN (fun dead=>by kernel_rfl) (jC (decide_eq_true (by have:=hn.1;have:=hn.2;have:=he.1;have:=he.2;omega)) (jC (decide_eq_true (by have:=hn.1;have:=hn.2;have:=he.1;have:=he.2;omega)) (jC (decide_eq_true (by have:=hn.1;have:=hn.2;have:=he.1;have:=he.2;omega)) (jC (decide_eq_true (by have:=hn.1;have:=hn.2;have:=he.1;have:=he.2;omega)) jd _) _) _) _) (ki _) (fun s=>jy (by kernel_rfl)) (by kernel_rfl)
theorem jGg:zG 108 (c1 (c1 (c2 (c2 (c2 (c2 (c2 (c2 (c2 (c2 (c2 (c2 (c2 (c2 (c2 (zhB)))))))))))))))) (jmG lat lon) .normal (jmH lat lon):=
 zr jN 0
theorem jGh:zG 108 yR (jmH lat lon) .normal (jta lat lon):=
 zr jN 14
theorem jGi (hn:SmH lat) (he:SmH lon) (bn:ShB (smN lat)) (be:ShB (smE lon)):zG 108 yR (jta lat lon) .normal (jtb lat lon):=fun s=>
 ToP.run2 (z:=⟨false,false,false⟩) (n:=20000) (dec:=[]) (mask:=(xL 57 (zY 34 (xL 13 [])))) (os:=(ra 1 (decide (wr .i64 (lon - 0)≤ -1800000000),false) (ra 1 (decide (wr .i64 (lon - 0)>1800000000),false) (ra 4 (decide (lon≤1800000000),true) (ra 4 (decide (lon≥ -1800000000),true) (ra 4 (decide (lat≤900000000),true) (ra 4 (decide (lat≥ -900000000),true) (ra 4 (decide (lon≤1800000000),true) (ra 4 (decide (lon≥ -1800000000),true) (ra 4 (decide (lat≤900000000),true) (ra 4 (decide (lat≥ -900000000),true) []))))))))))) (es:=[zj5 lat lon,zj4 lat lon,qt lat lon,qs lat lon,qt lat lon,qs lat lon,qt lat lon,qs lat lon,qt lat lon,qs lat lon,qt lat lon,qs lat lon,qt lat lon,qs lat lon,qt lat lon,qs lat lon,jno lat lon,jnn lat lon]) jN (fun dead=>by kernel_rfl) (jC (decide_eq_false (by have:=hn.1;have:=hn.2;have:=he.1;have:=he.2;rw [Go.Lr.w1 (by omega)];omega)) (jC (decide_eq_false (by have:=hn.1;have:=hn.2;have:=he.1;have:=he.2;rw [Go.Lr.w1 (by omega)];omega)) (jC (decide_eq_true (by have:=hn.1;have:=hn.2;have:=he.1;have:=he.2;omega)) (jC (decide_eq_true (by have:=hn.1;have:=hn.2;have:=he.1;have:=he.2;omega)) (jC (decide_eq_true (by have:=hn.1;have:=hn.2;have:=he.1;have:=he.2;omega)) (jC (decide_eq_true (by have:=hn.1;have:=hn.2;have:=he.1;have:=he.2;omega)) (jC (decide_eq_true (by have:=hn.1;have:=hn.2;have:=he.1;have:=he.2;omega)) (jC (decide_eq_true (by have:=hn.1;have:=hn.2;have:=he.1;have:=he.2;omega)) (jC (decide_eq_true (by have:=hn.1;have:=hn.2;have:=he.1;have:=he.2;omega)) (jC (decide_eq_true (by have:=hn.1;have:=hn.2;have:=he.1;have:=he.2;omega)) jd _) _) _) _) _) _) _) _) _) _) (j7 (js (jnm bn be) (js (jnl bn be) jP)) (j7 (js (jgX bn be) (js (jgW bn be) jP)) (j7 (js (jgV bn be) (js (jgU bn be) jP)) jP 1) 7) 1) (fun s=>jy (by kernel_rfl)) (by kernel_rfl)
theorem jGj (hn:SmH lat) (he:SmH lon) (bn:ShB (smN lat)) (be:ShB (smE lon)):zG 108 yR (jtb lat lon) .normal (jtc lat lon):=fun s=>
 ToP.run2 (z:=⟨false,false,false⟩) (n:=20000) (dec:=[]) (mask:=(xL 16 [])) (os:=[]) (es:=[jmw lat lon,jmv lat lon,qd lat lon,qc lat lon,qd lat lon,qc lat lon,qd lat lon,qc lat lon,qd lat lon,qc lat lon,qd lat lon,qc lat lon,qd lat lon,qc lat lon,qd lat lon,qc lat lon,qd lat lon,qc lat lon,jnq lat lon,jnp lat lon]) jN (fun dead=>by kernel_rfl) jd (j7 (js (jd8 bn be) (js (jd7 bn be) jP)) (j7 (js (jg1 bn be) (js (jg0 bn be) jP)) (j7 (js (jgZ bn be) (js (jgY bn be) jP)) jP 1) 8) 1) (fun s=>jy (by kernel_rfl)) (by kernel_rfl)
theorem jGk:zG 108 yR (jtc lat lon) (.exit 4) (jmI lat lon):=
 zr jN 0
theorem jGl:zG 108 (c1 (c2 (c2 (c2 (c2 (c2 (c2 (c2 (c2 (c2 (c2 (c2 (c2 (c2 (c2 (zhB)))))))))))))))) (jmI lat lon) .normal (jg3 lat lon):=
 zr jN 0
theorem jGm:zG 108 (c2 (c2 (c2 (c2 (c2 (c2 (c2 (c2 (c2 (c2 (c2 (c2 (c2 (c2 (c2 (zhB)))))))))))))))) (jg3 lat lon) .ret (jg3 lat lon):=
 zr jN 0
theorem jGn:zK 108 ky 13 (jAS lat lon) (.exit 0) (jmD lat lon):=
 zn jFW (zn jFX (zn jFY (zn jFZ (zn jF0 (zn jF1 (zn jF2 (zn jF3 (zn jF4 (zn jAT (zn jAU (zn jAV (zl jAW))))))))))))
theorem jGo:zK 108 yQ 4 (jmE lat lon) (.exit 2) (jmF lat lon):=
 zn jGb (zn jGc (zn jGd (zl jGe)))
theorem jGp (hn:SmH lat) (he:SmH lon) (bn:ShB (smN lat)) (be:ShB (smE lon)):zK 108 yR 4 (jmH lat lon) (.exit 4) (jmI lat lon):=
 zn jGh (zn (jGi hn he bn be) (zn (jGj hn he bn be) (zl jGk)))
theorem jAY (hn:SmH lat) (he:SmH lon) (bn:ShB (smN lat)) (be:ShB (smE lon)):zG 108 zhB (jAR lat lon) .ret (jg3 lat lon):=
 zq jFR (zq jFS (zq jFT (zq jFU (zq (zo jFV jGn) (zq jF5 (zq jF6 (zq jF7 (zq jF8 (zq jF9 (zq jAX (zq (zo jGa jGo) (zq (jGf hn he) (zq (zo jGg (jGp hn he bn be)) (zq jGl jGm))))))))))))))
end Go.Proofs.YtnlhpaidmiogbaaGreat

/- TopShift: the law with a delay of 1. -/
namespace Go.Proofs.YtnlhpaidmiogbaaGreat
open Go.Lr
set_option linter.unusedVariables false
set_option maxRecDepth 100000
variable (lat lon:Int)
def jml:PS2:=⟨(jnf lat lon 1),JL,0⟩
def jrt:PS2:=⟨(jgM lat lon 1),(jgN 40000),3⟩
def jru:PS2:=⟨(jgM lat lon 1),(jgN 8000),3⟩
def jrv:PS2:=⟨(jd0 lat lon 8000),JL,3⟩
def jrw:PS2:=⟨(xB 46),(xr lat lon 8000 510 1 128000 136000 144000 104000 517 9 347 201 17 144000),523⟩
def ji0:PS2:=⟨(xB 8),(xr lat lon 8000 510 1 128000 136000 144000 104000 517 9 347 201 17 144000),523⟩
def jrx:PS2:=⟨(Qf 8 30 9 525),(jgT lat lon 8000 510 1 128000 136000 144000 104000 517 9 347 201 17 144000 525),527⟩
def jry:PS2:=⟨(jd5 525 529),(kX lat lon 525 529 144000),530⟩
def jrz:PS2:=⟨(Qf 9 525 11 529),(kX lat lon 525 529 144000),530⟩
def jrA:PS2:=⟨(kW 9 525 11 529 13 0),(kX lat lon 525 529 144000),530⟩
def jgB:PS2:=⟨(kW 9 525 11 529 13 1),(kX lat lon 525 529 144000),530⟩
def jgC:PS2:=⟨(kW 9 525 11 529 13 2),(kX lat lon 525 529 144000),530⟩
def jj0:PS2:=⟨(kW 9 525 11 529 13 3),(kX lat lon 525 529 144000),530⟩
def jj1:PS2:=⟨jdZ,JL,530⟩
def jax:PS2:=⟨jd3,JL,530⟩
variable {lat lon}
theorem jzI:zG 93 (c1 (c2 (c2 (c2 (zhC))))) (jml lat lon) .normal (jrt lat lon):=
 zr jN 0
theorem jzJ:zG 93 (c1 (c2 (c2 (c2 (c2 (zhC)))))) (jrt lat lon) .normal (jru lat lon):=
 zr jN 0
theorem jEL (s:Asg):ToO Tryz.prog 93 (qK (c1 (c2 (c2 (c2 (c2 (c2 (zhC)))))))) 0 4 (j8 s (jru lat lon)) (zX (jrv lat lon)):=
 zro jN 0 4 (s:=s)
theorem jEM (hn:SmH lat) (he:SmH lon) (bn:ShB (smN lat)) (be:ShB (smE lon)) (s:Asg):ToO Tryz.prog 93 (qK (c1 (c2 (c2 (c2 (c2 (c2 (zhC)))))))) 4 1 (j8 s (jrv lat lon)) (zX (jrw lat lon)):=
 zca (t:=46) (f:=14) (A0:=(jAR lat lon)) (D:=(jg3 lat lon)) (v:= .v (.one (.ptr 30 0))) jN Tryz.func14 (jAY hn he bn be) (fun s dead=>by kernel_rfl) (by kernel_rfl) (by kernel_rfl) (fun s=>by kernel_rfl) (by kernel_rfl) (fun s=>by kernel_rfl) (fun s dead=>by kernel_rfl) (fun s s2=>by kernel_rfl) (fun s=>by kernel_rfl) s
theorem jEN (s:Asg):ToO Tryz.prog 93 (qK (c1 (c2 (c2 (c2 (c2 (c2 (zhC)))))))) 5 1 (j8 s (jrw lat lon)) (zX (ji0 lat lon)):=
 zro jN 5 1 (s:=s)
theorem jzK:zG 93 (c1 (c2 (c2 (c2 (c2 (c2 (c2 (zhC)))))))) (ji0 lat lon) .normal (ji0 lat lon):=
 zr jt 0
theorem jzL:zG 93 (c1 (c2 (c2 (c2 (c2 (c2 (c2 (c2 (zhC))))))))) (ji0 lat lon) .normal (jrx lat lon):=
 zr jt 0
theorem jzM:zG 93 (c1 (c2 (c2 (c2 (c2 (c2 (c2 (c2 (c2 (zhC)))))))))) (jrx lat lon) .normal (jry lat lon):=
 zr jt 0
theorem jzN:zG 93 (c1 (c2 (c2 (c2 (c2 (c2 (c2 (c2 (c2 (c2 (zhC))))))))))) (jry lat lon) .normal (jrz lat lon):=
 zr jt 0
theorem jrB:zG 93 (c1 (c1 (c2 (c2 (c2 (c2 (c2 (c2 (c2 (c2 (c2 (c2 (zhC))))))))))))) (jrz lat lon) .normal (jrA lat lon):=
 zr jt 0
theorem jzO:zG 93 (c1 (c1 (c2 (c1 (c2 (c2 (c2 (c2 (c2 (c2 (c2 (c2 (c2 (c2 (zhC))))))))))))))) (jrA lat lon) .normal (jgB lat lon):=fun s=>
 ToP.run2 (z:=⟨false,false,false⟩) (n:=20000) (dec:=[]) (mask:=(xL 1 (zY 1 []))) (os:=(ra 1 (wiB (smN lat) (smN lat) 107374182,true) [])) (es:=(zob (jgB lat lon))) jt (fun dead=>by kernel_rfl) (jC (Qb rfl (by omega)) jd _) (ki _) (fun s=>jy (by kernel_rfl)) (by kernel_rfl)
theorem jzP:zG 93 (c1 (c1 (c2 (c1 (c2 (c2 (c2 (c2 (c2 (c2 (c2 (c2 (c2 (c2 (zhC))))))))))))))) (jgB lat lon) .normal (jgC lat lon):=fun s=>
 ToP.run2 (z:=⟨false,false,false⟩) (n:=20000) (dec:=[]) (mask:=(xL 1 (zY 1 []))) (os:=(ra 1 (wiB (smE lon) (smE lon) 107374182,true) [])) (es:=(zob (jgC lat lon))) jt (fun dead=>by kernel_rfl) (jC (Qb rfl (by omega)) jd _) (ki _) (fun s=>jy (by kernel_rfl)) (by kernel_rfl)
theorem jzQ:zG 93 (c1 (c1 (c2 (c1 (c2 (c2 (c2 (c2 (c2 (c2 (c2 (c2 (c2 (c2 (zhC))))))))))))))) (jgC lat lon) .normal (jj0 lat lon):=
 zr jt 2
theorem jzR:zG 93 (c1 (c1 (c2 (c1 (c2 (c2 (c2 (c2 (c2 (c2 (c2 (c2 (c2 (c2 (zhC))))))))))))))) (jj0 lat lon) (.exit 0) jj1:=
 zr jt 0
theorem jrC:zG 93 (c1 (c2 (c2 (c2 (c2 (c2 (c2 (c2 (c2 (c2 (c2 (c2 (zhC))))))))))))) jj1 .normal jax:=
 zr jt 0
theorem jrD:zG 93 (c2 (c2 (c2 (c2 (c2 (c2 (c2 (c2 (c2 (c2 (c2 (c2 (zhC))))))))))))) jax .ret jax:=
 zr jt 0
theorem jrE (hn:SmH lat) (he:SmH lon) (bn:ShB (smN lat)) (be:ShB (smE lon)):zG 93 (c2 (c2 (c2 zhC))) (jml lat lon) .ret jax:=
 zq jzI (zq jzJ (zq (z3 jEL (jEM hn he bn be) jEN) (zq jzK (zq jzL (zq jzM (zq jzN (zq (zo jrB (zn jzO (zn jzP (zn jzQ (zl jzR))))) (zq jrC jrD))))))))
theorem jEO (s:Asg):j8 s (zlA lat lon 1)=j8 s (jml lat lon):=by kernel_rfl
theorem jEP:∀y,zX jax y→zlF y:=by rintro x ⟨s,rfl⟩;exact ⟨s,_,rfl⟩
end Go.Proofs.YtnlhpaidmiogbaaGreat
