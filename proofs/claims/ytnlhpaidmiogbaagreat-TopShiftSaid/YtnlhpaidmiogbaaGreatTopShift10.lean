/- Joined texts. What each part proves stands ahead of it; no condition. -/
import Derived.Test.YtnlhpaidmiogbaaGreatTopShift9

/- TopShift: aided with a delay of 0, stage by stage. -/
namespace Go.Proofs.YtnlhpaidmiogbaaGreat
open Go.Lr
set_option linter.unusedVariables false
variable (lat lon:Int)
def jAK:PS2:=⟨(jne lat lon 0),JL,3⟩
def jCm:PS2:=⟨jnk,(jd6 lat lon 0),5⟩
def jvH:PS2:=⟨jnj,(Zj lat lon 0),31⟩
def jCn:PS2:=⟨(jed 0),(Zj lat lon 0),31⟩
def jAL:PS2:=⟨(kH 0 0),(Zj lat lon 0),31⟩
def jCo:PS2:=⟨(kH 0 1),(ji9 lat lon 35 1 (-84238486) 8000),43⟩
def jCp:PS2:=⟨(kH 0 2),(ji9 lat lon 47 2 (-168476972) 16000),55⟩
def jCq:PS2:=⟨(kH 0 3),(ji9 lat lon 59 3 (-252715458) 24000),67⟩
def jCr:PS2:=⟨(kH 0 4),(ji9 lat lon 71 4 (-336953944) 32000),79⟩
def jCs:PS2:=⟨(kH 0 5),(ji9 lat lon 83 5 (-421192430) 40000),91⟩
def jsE:PS2:=⟨(kH 0 6),(ji9 lat lon 95 6 (-505430916) 48000),103⟩
def jsF:PS2:=⟨(kH 0 7),(ji9 lat lon 107 7 (-589669402) 56000),115⟩
def jsG:PS2:=⟨(kH 0 8),(ji9 lat lon 119 8 (-673907888) 64000),127⟩
def jsH:PS2:=⟨(kH 0 9),(ji9 lat lon 131 9 (-758146374) 72000),139⟩
def jsI:PS2:=⟨(kH 0 10),(jFb lat lon),160⟩
def jsJ:PS2:=⟨(kH 0 11),(jCk lat lon),175⟩
def jmx:PS2:=⟨(jed 0),(jCk lat lon),175⟩
def jsK:PS2:=⟨(jni 0 175),(jAE lat lon),176⟩
def jsL:PS2:=⟨(jng 0 175),(jAE lat lon),184⟩
def jsM:PS2:=⟨(jnh 0 175),(jAE lat lon),184⟩
def jsN:PS2:=⟨(jd1 0 175 184),(jAF lat lon),185⟩
def jsO:PS2:=⟨(jd2 0 185),(jAG lat lon),186⟩
def jsP:PS2:=⟨(kW 5 4 7 30 8 0),(jsA lat lon),196⟩
def jmy:PS2:=⟨(qp 0 0),(jsA lat lon),196⟩
def jsQ:PS2:=⟨(qp 0 1),(jAH lat lon),300⟩
def jsR:PS2:=⟨(qp 0 2),(jsB lat lon),316⟩
def jmz:PS2:=⟨(kW 5 4 7 30 8 0),(jsB lat lon),316⟩
def jmA:PS2:=⟨(jd4 0),(jsC lat lon),326⟩
def jmB:PS2:=⟨(qr 0 0),(jsC lat lon),326⟩
def jsS:PS2:=⟨(qr 0 1),(jAI lat lon),461⟩
def jsT:PS2:=⟨(qr 0 2),(jgO lat lon),478⟩
def jmC:PS2:=⟨(xB 7),(jgO lat lon),478⟩
def jg2:PS2:=⟨(xB 6),(jgO lat lon),478⟩
variable {lat lon}
theorem jFk:zG 108 (c1 (zhB)) (jAK lat lon) .normal (jCm lat lon):=
 zr soundAV0 0
theorem jFl:zG 108 (c1 (c2 (zhB))) (jCm lat lon) .normal (jvH lat lon):=
 zr soundAV0 0
theorem jFm:zG 108 (c1 (c2 (c2 (zhB)))) (jvH lat lon) .normal (jvH lat lon):=
 zr soundAV0 0
theorem jFn:zG 108 (c1 (c2 (c2 (c2 (zhB))))) (jvH lat lon) .normal (jCn lat lon):=
 zr soundAV0 0
theorem jFo:zG 108 (c1 (c1 (c2 (c2 (c2 (c2 (zhB))))))) (jCn lat lon) .normal (jAL lat lon):=
 zr soundAV0 0
theorem jFp:zG 108 ky (jAL lat lon) .normal (jCo lat lon):=
 zr soundAV0 3
theorem jFq:zG 108 ky (jCo lat lon) .normal (jCp lat lon):=
 zr soundAV0 3
theorem jFr:zG 108 ky (jCp lat lon) .normal (jCq lat lon):=
 zr soundAV0 3
theorem jFs:zG 108 ky (jCq lat lon) .normal (jCr lat lon):=
 zr soundAV0 3
theorem jFt:zG 108 ky (jCr lat lon) .normal (jCs lat lon):=
 zr soundAV0 3
theorem jFu:zG 108 ky (jCs lat lon) .normal (jsE lat lon):=
 zr soundAV0 3
theorem jFv:zG 108 ky (jsE lat lon) .normal (jsF lat lon):=
 zr soundAV0 3
theorem jFw:zG 108 ky (jsF lat lon) .normal (jsG lat lon):=
 zr soundAV0 3
theorem jFx:zG 108 ky (jsG lat lon) .normal (jsH lat lon):=
 zr soundAV0 3
theorem jAM:zG 108 ky (jsH lat lon) .normal (jsI lat lon):=
 zr soundAV0 7
theorem jAN:zG 108 ky (jsI lat lon) .normal (jsJ lat lon):=
 zr soundAV0 9
theorem jAO:zG 108 ky (jsJ lat lon) (.exit 0) (jmx lat lon):=
 zr soundAV0 0
theorem jFy:zG 108 (c1 (c2 (c2 (c2 (c2 (c2 (zhB))))))) (jmx lat lon) .normal (jsK lat lon):=
 zr soundAV0 0
theorem jFz:zG 108 (c1 (c2 (c2 (c2 (c2 (c2 (c2 (zhB)))))))) (jsK lat lon) .normal (jsL lat lon):=
 zr soundAV0 0
theorem jFA:zG 108 (c1 (c2 (c2 (c2 (c2 (c2 (c2 (c2 (zhB))))))))) (jsL lat lon) .normal (jsM lat lon):=
 zr soundAV0 0
theorem jFB:zG 108 (c1 (c2 (c2 (c2 (c2 (c2 (c2 (c2 (c2 (zhB)))))))))) (jsM lat lon) .normal (jsN lat lon):=
 zr soundAV0 0
theorem jFC:zG 108 (c1 (c2 (c2 (c2 (c2 (c2 (c2 (c2 (c2 (c2 (zhB))))))))))) (jsN lat lon) .normal (jsO lat lon):=
 zr soundAV0 0
theorem jAP:zG 108 (c1 (c2 (c2 (c2 (c2 (c2 (c2 (c2 (c2 (c2 (c2 (zhB)))))))))))) (jsO lat lon) .normal (jsP lat lon):=
 zr soundAV0 1
theorem jFD:zG 108 (c1 (c1 (c2 (c2 (c2 (c2 (c2 (c2 (c2 (c2 (c2 (c2 (c2 (zhB)))))))))))))) (jsP lat lon) .normal (jmy lat lon):=
 zr soundAV0 0
theorem jFE:zG 108 yQ (jmy lat lon) .normal (jsQ lat lon):=
 zr soundAV0 39
theorem jFF:zG 108 yQ (jsQ lat lon) .normal (jsR lat lon):=
 zr soundAV0 11
theorem jFG:zG 108 yQ (jsR lat lon) (.exit 2) (jmz lat lon):=
 zr soundAV0 0
theorem jFH (hn:SmH lat) (he:SmH lon):zG 108 (c1 (c2 (c2 (c2 (c2 (c2 (c2 (c2 (c2 (c2 (c2 (c2 (c2 (zhB)))))))))))))) (jmz lat lon) .normal (jmA lat lon):=fun s=>
 ToP.run2 (z:=⟨false,false,false⟩) (n:=20000) (dec:=[]) (mask:=(xL 1 (zY 16 (xL 8 [])))) (os:=(ra 4 (decide (lon≤1800000000),true) (ra 4 (decide (lon≥ -1800000000),true) (ra 4 (decide (lat≤900000000),true) (ra 4 (decide (lat≥ -900000000),true) []))))) (es:=(zob (jmA lat lon))) soundAV0 (fun dead=>by kernel_rfl) (jC (decide_eq_true (by have:=hn.1;have:=hn.2;have:=he.1;have:=he.2;omega)) (jC (decide_eq_true (by have:=hn.1;have:=hn.2;have:=he.1;have:=he.2;omega)) (jC (decide_eq_true (by have:=hn.1;have:=hn.2;have:=he.1;have:=he.2;omega)) (jC (decide_eq_true (by have:=hn.1;have:=hn.2;have:=he.1;have:=he.2;omega)) jd _) _) _) _) (ki _) (fun s=>jy (by kernel_rfl)) (by kernel_rfl)
theorem jFI:zG 108 (c1 (c1 (c2 (c2 (c2 (c2 (c2 (c2 (c2 (c2 (c2 (c2 (c2 (c2 (c2 (zhB)))))))))))))))) (jmA lat lon) .normal (jmB lat lon):=
 zr soundAV0 0
theorem jFJ (hn:SmH lat) (he:SmH lon) (bn:ShB (smN lat)) (be:ShB (smE lon)):zG 108 yR (jmB lat lon) .normal (jsS lat lon):=fun s=>
 ToP.run2 (z:=⟨false,false,false⟩) (n:=20000) (dec:=[]) (mask:=(xL 54 (zY 34 (xL 13 [])))) (os:=(ra 1 (decide (wr .i64 (lon - 0)≤ -1800000000),false) (ra 1 (decide (wr .i64 (lon - 0)>1800000000),false) (ra 4 (decide (lon≤1800000000),true) (ra 4 (decide (lon≥ -1800000000),true) (ra 4 (decide (lat≤900000000),true) (ra 4 (decide (lat≥ -900000000),true) (ra 4 (decide (lon≤1800000000),true) (ra 4 (decide (lon≥ -1800000000),true) (ra 4 (decide (lat≤900000000),true) (ra 4 (decide (lat≥ -900000000),true) []))))))))))) (es:=[zj5 lat lon,zj4 lat lon,zj3 lat lon,zj2 lat lon,zj3 lat lon,zj2 lat lon,zj3 lat lon,zj2 lat lon,zj3 lat lon,zj2 lat lon,zj1 lat lon,zj0 lat lon]) soundAV0 (fun dead=>by kernel_rfl) (jC (decide_eq_false (by have:=hn.1;have:=hn.2;have:=he.1;have:=he.2;rw [Go.Lr.w1 (by omega)];omega)) (jC (decide_eq_false (by have:=hn.1;have:=hn.2;have:=he.1;have:=he.2;rw [Go.Lr.w1 (by omega)];omega)) (jC (decide_eq_true (by have:=hn.1;have:=hn.2;have:=he.1;have:=he.2;omega)) (jC (decide_eq_true (by have:=hn.1;have:=hn.2;have:=he.1;have:=he.2;omega)) (jC (decide_eq_true (by have:=hn.1;have:=hn.2;have:=he.1;have:=he.2;omega)) (jC (decide_eq_true (by have:=hn.1;have:=hn.2;have:=he.1;have:=he.2;omega)) (jC (decide_eq_true (by have:=hn.1;have:=hn.2;have:=he.1;have:=he.2;omega)) (jC (decide_eq_true (by have:=hn.1;have:=hn.2;have:=he.1;have:=he.2;omega)) (jC (decide_eq_true (by have:=hn.1;have:=hn.2;have:=he.1;have:=he.2;omega)) (jC (decide_eq_true (by have:=hn.1;have:=hn.2;have:=he.1;have:=he.2;omega)) jd _) _) _) _) _) _) _) _) _) _) (j7 (js (jnm bn be) (js (jnl bn be) jP)) (j7 (js (jFf bn be) (js (jFe bn be) jP)) (j7 (js (jFd bn be) (js (jFc bn be) jP)) jP 1) 4) 1) (fun s=>jy (by kernel_rfl)) (by kernel_rfl)
theorem jFK (hn:SmH lat) (he:SmH lon) (bn:ShB (smN lat)) (be:ShB (smE lon)):zG 108 yR (jsS lat lon) .normal (jsT lat lon):=fun s=>
 ToP.run2 (z:=⟨false,false,false⟩) (n:=20000) (dec:=[]) (mask:=(xL 13 [])) (os:=[]) (es:=[jmw lat lon,jmv lat lon,zj9 lat lon,zj8 lat lon,zj9 lat lon,zj8 lat lon,zj9 lat lon,zj8 lat lon,zj9 lat lon,zj8 lat lon,zj9 lat lon,zj8 lat lon,zj7 lat lon,zj6 lat lon]) soundAV0 (fun dead=>by kernel_rfl) jd (j7 (js (jd8 bn be) (js (jd7 bn be) jP)) (j7 (js (jFj bn be) (js (jFi bn be) jP)) (j7 (js (jFh bn be) (js (jFg bn be) jP)) jP 1) 5) 1) (fun s=>jy (by kernel_rfl)) (by kernel_rfl)
theorem jFL:zG 108 yR (jsT lat lon) (.exit 4) (jmC lat lon):=
 zr soundAV0 0
theorem jFM:zG 108 (c1 (c2 (c2 (c2 (c2 (c2 (c2 (c2 (c2 (c2 (c2 (c2 (c2 (c2 (c2 (zhB)))))))))))))))) (jmC lat lon) .normal (jg2 lat lon):=
 zr soundAV0 0
theorem jFN:zG 108 (c2 (c2 (c2 (c2 (c2 (c2 (c2 (c2 (c2 (c2 (c2 (c2 (c2 (c2 (c2 (zhB)))))))))))))))) (jg2 lat lon) .ret (jg2 lat lon):=
 zr soundAV0 0
theorem jFO:zK 108 ky 12 (jAL lat lon) (.exit 0) (jmx lat lon):=
 zn jFp (zn jFq (zn jFr (zn jFs (zn jFt (zn jFu (zn jFv (zn jFw (zn jFx (zn jAM (zn jAN (zl jAO)))))))))))
theorem jFP:zK 108 yQ 3 (jmy lat lon) (.exit 2) (jmz lat lon):=
 zn jFE (zn jFF (zl jFG))
theorem jFQ (hn:SmH lat) (he:SmH lon) (bn:ShB (smN lat)) (be:ShB (smE lon)):zK 108 yR 3 (jmB lat lon) (.exit 4) (jmC lat lon):=
 zn (jFJ hn he bn be) (zn (jFK hn he bn be) (zl jFL))
theorem jAQ (hn:SmH lat) (he:SmH lon) (bn:ShB (smN lat)) (be:ShB (smE lon)):zG 108 zhB (jAK lat lon) .ret (jg2 lat lon):=
 zq jFk (zq jFl (zq jFm (zq jFn (zq (zo jFo jFO) (zq jFy (zq jFz (zq jFA (zq jFB (zq jFC (zq jAP (zq (zo jFD jFP) (zq (jFH hn he) (zq (zo jFI (jFQ hn he bn be)) (zq jFM jFN))))))))))))))
end Go.Proofs.YtnlhpaidmiogbaaGreat

/- TopShift: the law with a delay of 0. -/
namespace Go.Proofs.YtnlhpaidmiogbaaGreat
open Go.Lr
set_option linter.unusedVariables false
set_option maxRecDepth 100000
variable (lat lon:Int)
def jmk:PS2:=⟨(jnf lat lon 0),JL,0⟩
def jrh:PS2:=⟨(jgM lat lon 0),(jgN 40000),3⟩
def jri:PS2:=⟨(jgM lat lon 0),(jgN 0),3⟩
def jrj:PS2:=⟨(jd0 lat lon 0),JL,3⟩
def jrk:PS2:=⟨(xB 46),(jgO lat lon),478⟩
def jiZ:PS2:=⟨(xB 8),(jgO lat lon),478⟩
def jrl:PS2:=⟨(Qf 8 30 9 480),(jAJ lat lon),482⟩
def jrm:PS2:=⟨(jd5 480 484),(kX lat lon 480 484 120000),485⟩
def jrn:PS2:=⟨(Qf 9 480 11 484),(kX lat lon 480 484 120000),485⟩
def jro:PS2:=⟨(kW 9 480 11 484 13 0),(kX lat lon 480 484 120000),485⟩
def jgz:PS2:=⟨(kW 9 480 11 484 13 1),(kX lat lon 480 484 120000),485⟩
def jgA:PS2:=⟨(kW 9 480 11 484 13 2),(kX lat lon 480 484 120000),485⟩
def jjY:PS2:=⟨(kW 9 480 11 484 13 3),(kX lat lon 480 484 120000),485⟩
def jjZ:PS2:=⟨jdZ,JL,485⟩
def jaw:PS2:=⟨jd3,JL,485⟩
variable {lat lon}
theorem jzy:zG 93 (c1 (c2 (c2 (c2 (zhC))))) (jmk lat lon) .normal (jrh lat lon):=
 zr soundAV0 0
theorem jzz:zG 93 (c1 (c2 (c2 (c2 (c2 (zhC)))))) (jrh lat lon) .normal (jri lat lon):=
 zr soundAV0 0
theorem jEG (s:Asg):ToO Tryz.prog 93 (qK (c1 (c2 (c2 (c2 (c2 (c2 (zhC)))))))) 0 4 (j8 s (jri lat lon)) (zX (jrj lat lon)):=
 zro soundAV0 0 4 (s:=s)
theorem jEH (hn:SmH lat) (he:SmH lon) (bn:ShB (smN lat)) (be:ShB (smE lon)) (s:Asg):ToO Tryz.prog 93 (qK (c1 (c2 (c2 (c2 (c2 (c2 (zhC)))))))) 4 1 (j8 s (jrj lat lon)) (zX (jrk lat lon)):=
 zca (t:=46) (f:=14) (A0:=(jAK lat lon)) (D:=(jg2 lat lon)) (v:= .v (.one (.ptr 30 0))) soundAV0 Tryz.func14 (jAQ hn he bn be) (fun s dead=>by kernel_rfl) (by kernel_rfl) (by kernel_rfl) (fun s=>by kernel_rfl) (by kernel_rfl) (fun s=>by kernel_rfl) (fun s dead=>by kernel_rfl) (fun s s2=>by kernel_rfl) (fun s=>by kernel_rfl) s
theorem jEI (s:Asg):ToO Tryz.prog 93 (qK (c1 (c2 (c2 (c2 (c2 (c2 (zhC)))))))) 5 1 (j8 s (jrk lat lon)) (zX (jiZ lat lon)):=
 zro soundAV0 5 1 (s:=s)
theorem jzA:zG 93 (c1 (c2 (c2 (c2 (c2 (c2 (c2 (zhC)))))))) (jiZ lat lon) .normal (jiZ lat lon):=
 zr jt 0
theorem jzB:zG 93 (c1 (c2 (c2 (c2 (c2 (c2 (c2 (c2 (zhC))))))))) (jiZ lat lon) .normal (jrl lat lon):=
 zr jt 0
theorem jzC:zG 93 (c1 (c2 (c2 (c2 (c2 (c2 (c2 (c2 (c2 (zhC)))))))))) (jrl lat lon) .normal (jrm lat lon):=
 zr jt 0
theorem jzD:zG 93 (c1 (c2 (c2 (c2 (c2 (c2 (c2 (c2 (c2 (c2 (zhC))))))))))) (jrm lat lon) .normal (jrn lat lon):=
 zr jt 0
theorem jrp:zG 93 (c1 (c1 (c2 (c2 (c2 (c2 (c2 (c2 (c2 (c2 (c2 (c2 (zhC))))))))))))) (jrn lat lon) .normal (jro lat lon):=
 zr jt 0
theorem jzE:zG 93 (c1 (c1 (c2 (c1 (c2 (c2 (c2 (c2 (c2 (c2 (c2 (c2 (c2 (c2 (zhC))))))))))))))) (jro lat lon) .normal (jgz lat lon):=fun s=>
 ToP.run2 (z:=⟨false,false,false⟩) (n:=20000) (dec:=[]) (mask:=(xL 1 (zY 1 []))) (os:=(ra 1 (wiB (smN lat) (smN lat) 107374182,true) [])) (es:=(zob (jgz lat lon))) jt (fun dead=>by kernel_rfl) (jC (Qb rfl (by omega)) jd _) (ki _) (fun s=>jy (by kernel_rfl)) (by kernel_rfl)
theorem jzF:zG 93 (c1 (c1 (c2 (c1 (c2 (c2 (c2 (c2 (c2 (c2 (c2 (c2 (c2 (c2 (zhC))))))))))))))) (jgz lat lon) .normal (jgA lat lon):=fun s=>
 ToP.run2 (z:=⟨false,false,false⟩) (n:=20000) (dec:=[]) (mask:=(xL 1 (zY 1 []))) (os:=(ra 1 (wiB (smE lon) (smE lon) 107374182,true) [])) (es:=(zob (jgA lat lon))) jt (fun dead=>by kernel_rfl) (jC (Qb rfl (by omega)) jd _) (ki _) (fun s=>jy (by kernel_rfl)) (by kernel_rfl)
theorem jzG:zG 93 (c1 (c1 (c2 (c1 (c2 (c2 (c2 (c2 (c2 (c2 (c2 (c2 (c2 (c2 (zhC))))))))))))))) (jgA lat lon) .normal (jjY lat lon):=
 zr jt 2
theorem jzH:zG 93 (c1 (c1 (c2 (c1 (c2 (c2 (c2 (c2 (c2 (c2 (c2 (c2 (c2 (c2 (zhC))))))))))))))) (jjY lat lon) (.exit 0) jjZ:=
 zr jt 0
theorem jrq:zG 93 (c1 (c2 (c2 (c2 (c2 (c2 (c2 (c2 (c2 (c2 (c2 (c2 (zhC))))))))))))) jjZ .normal jaw:=
 zr jt 0
theorem jrr:zG 93 (c2 (c2 (c2 (c2 (c2 (c2 (c2 (c2 (c2 (c2 (c2 (c2 (zhC))))))))))))) jaw .ret jaw:=
 zr jt 0
theorem jrs (hn:SmH lat) (he:SmH lon) (bn:ShB (smN lat)) (be:ShB (smE lon)):zG 93 (c2 (c2 (c2 zhC))) (jmk lat lon) .ret jaw:=
 zq jzy (zq jzz (zq (z3 jEG (jEH hn he bn be) jEI) (zq jzA (zq jzB (zq jzC (zq jzD (zq (zo jrp (zn jzE (zn jzF (zn jzG (zl jzH))))) (zq jrq jrr))))))))
theorem jEJ (s:Asg):j8 s (zlA lat lon 0)=j8 s (jmk lat lon):=by kernel_rfl
theorem jEK:∀y,zX jaw y→zlF y:=by rintro x ⟨s,rfl⟩;exact ⟨s,_,rfl⟩
end Go.Proofs.YtnlhpaidmiogbaaGreat
