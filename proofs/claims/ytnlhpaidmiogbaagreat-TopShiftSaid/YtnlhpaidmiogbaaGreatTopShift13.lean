/- Joined texts. What each part proves stands ahead of it; no condition. -/
import Derived.Test.YtnlhpaidmiogbaaGreatTopShift9

/- TopShift: aided with a delay of 3, stage by stage. -/
namespace Go.Proofs.YtnlhpaidmiogbaaGreat
open Go.Lr
set_option linter.unusedVariables false
variable (lat lon:Int)
def jA8:PS2:=⟨(jne lat lon 24000),JL,3⟩
def jCH:PS2:=⟨jnk,(jd6 lat lon 24000),5⟩
def jvK:PS2:=⟨jnj,(Zj lat lon 24000),31⟩
def jCI:PS2:=⟨(jed 3),(Zj lat lon 24000),31⟩
def jA9:PS2:=⟨(kH 3 0),(Zj lat lon 24000),31⟩
def jCJ:PS2:=⟨(kH 3 1),(qQ lat lon 24000 31 1 0 0 0 8000 (-9223372036854775808) 8000),38⟩
def jCK:PS2:=⟨(kH 3 2),(qQ lat lon 24000 38 2 0 0 0 16000 (-9223372036854775808) 8000),45⟩
def jCL:PS2:=⟨(kH 3 3),(qQ lat lon 24000 45 3 0 0 0 24000 (-9223372036854775808) 8000),52⟩
def jCM:PS2:=⟨(kH 3 4),(qQ lat lon 24000 56 3 1 (-84238486) 8000 32000 8000 16000),64⟩
def jCN:PS2:=⟨(kH 3 5),(qQ lat lon 24000 68 3 2 (-168476972) 16000 40000 16000 24000),76⟩
def jtz:PS2:=⟨(kH 3 6),(qQ lat lon 24000 80 3 3 (-252715458) 24000 48000 24000 32000),88⟩
def jtA:PS2:=⟨(kH 3 7),(qQ lat lon 24000 92 3 4 (-336953944) 32000 56000 32000 40000),100⟩
def jtB:PS2:=⟨(kH 3 8),(qQ lat lon 24000 104 3 5 (-421192430) 40000 64000 40000 48000),112⟩
def jtC:PS2:=⟨(kH 3 9),(qQ lat lon 24000 116 3 6 (-505430916) 48000 72000 48000 56000),124⟩
def jtD:PS2:=⟨(kH 3 10),(qQ lat lon 24000 128 3 7 (-589669402) 56000 80000 56000 64000),136⟩
def jtE:PS2:=⟨(kH 3 11),(qQ lat lon 24000 140 3 8 (-673907888) 64000 88000 64000 72000),148⟩
def jtF:PS2:=⟨(kH 3 12),(qQ lat lon 24000 152 3 9 (-758146374) 72000 96000 72000 80000),160⟩
def jtG:PS2:=⟨(kH 3 13),(jsz lat lon 24000 188 3 104000 165 4),196⟩
def jtH:PS2:=⟨(kH 3 14),(XB lat lon 24000 198 3 112000 205 5),211⟩
def jmP:PS2:=⟨(jed 3),(XB lat lon 24000 198 3 112000 205 5),211⟩
def jtI:PS2:=⟨(jni 3 211),(jbW lat lon 24000 198 3 112000 205 5 211),212⟩
def jtJ:PS2:=⟨(jng 3 211),(jbW lat lon 24000 198 3 112000 205 5 211),220⟩
def jtK:PS2:=⟨(jnh 3 211),(jbW lat lon 24000 198 3 112000 205 5 211),220⟩
def jtL:PS2:=⟨(jd1 3 211 220),(jgP lat lon 24000 198 3 112000 205 5 211 220),221⟩
def jtM:PS2:=⟨(jd2 3 221),(jgQ lat lon 24000 198 3 112000 205 5 221),222⟩
def jtN:PS2:=⟨(kW 5 4 7 30 8 3),(XC lat lon 24000 198 3 112000 205 5 225 112001),232⟩
def jmQ:PS2:=⟨(qp 3 0),(XC lat lon 24000 198 3 112000 205 5 225 112001),232⟩
def jtO:PS2:=⟨(qp 3 1),(JI lat lon 24000 235 3 96000 120000 242 6 225 12 112001 104000),248⟩
def jtP:PS2:=⟨(qp 3 2),(JI lat lon 24000 251 3 104000 128000 258 7 225 13 112001 112000),264⟩
def jtQ:PS2:=⟨(qp 3 3),(JI lat lon 24000 267 3 112000 136000 274 8 225 14 112001 120000),280⟩
def jtR:PS2:=⟨(qp 3 4),(jgR lat lon 24000 371 3 120000 331 144000 378 9 225 15 128000),384⟩
def jtS:PS2:=⟨(qp 3 5),(XD lat lon 24000 387 3 128000 152000 120000 394 10 225 16 136000),400⟩
def jmR:PS2:=⟨(kW 5 4 7 30 8 3),(XD lat lon 24000 387 3 128000 152000 120000 394 10 225 16 136000),400⟩
def jmS:PS2:=⟨(jd4 3),(XE lat lon 24000 387 3 128000 152000 120000 394 10 403 225 16 136000 152001),410⟩
def jmT:PS2:=⟨(qr 3 0),(XE lat lon 24000 387 3 128000 152000 120000 394 10 403 225 16 136000 152001),410⟩
def jtT:PS2:=⟨(qr 3 1),(JJ lat lon 24000 414 3 136000 160000 120000 421 11 403 225 17 152001 144000),427⟩
def jtU:PS2:=⟨(qr 3 2),(JJ lat lon 24000 431 3 144000 168000 120000 438 12 403 225 18 152001 152000),444⟩
def jtV:PS2:=⟨(qr 3 3),(JJ lat lon 24000 448 3 152000 176000 120000 455 13 403 225 19 152001 160000),461⟩
def jtW:PS2:=⟨(qr 3 4),(jgS lat lon 24000 583 3 160000 525 184000 120000 590 14 403 225 20 168000),596⟩
def jtX:PS2:=⟨(qr 3 5),(xr lat lon 24000 600 3 160000 168000 192000 120000 607 15 403 225 21 176000),613⟩
def jmU:PS2:=⟨(xB 7),(xr lat lon 24000 600 3 160000 168000 192000 120000 607 15 403 225 21 176000),613⟩
def jg5:PS2:=⟨(xB 6),(xr lat lon 24000 600 3 160000 168000 192000 120000 607 15 403 225 21 176000),613⟩
variable {lat lon}
theorem jG1:zG 108 (c1 (zhB)) (jA8 lat lon) .normal (jCH lat lon):=
 zr jG 0
theorem jG2:zG 108 (c1 (c2 (zhB))) (jCH lat lon) .normal (jvK lat lon):=
 zr jG 0
theorem jG3:zG 108 (c1 (c2 (c2 (zhB)))) (jvK lat lon) .normal (jvK lat lon):=
 zr jG 0
theorem jG4:zG 108 (c1 (c2 (c2 (c2 (zhB))))) (jvK lat lon) .normal (jCI lat lon):=
 zr jG 0
theorem jG5:zG 108 (c1 (c1 (c2 (c2 (c2 (c2 (zhB))))))) (jCI lat lon) .normal (jA9 lat lon):=
 zr jG 0
theorem jG6:zG 108 ky (jA9 lat lon) .normal (jCJ lat lon):=
 zr jG 3
theorem jG7:zG 108 ky (jCJ lat lon) .normal (jCK lat lon):=
 zr jG 3
theorem jG8:zG 108 ky (jCK lat lon) .normal (jCL lat lon):=
 zr jG 3
theorem jG9:zG 108 ky (jCL lat lon) .normal (jCM lat lon):=
 zr jG 3
theorem jHa:zG 108 ky (jCM lat lon) .normal (jCN lat lon):=
 zr jG 3
theorem jHb:zG 108 ky (jCN lat lon) .normal (jtz lat lon):=
 zr jG 3
theorem jHc:zG 108 ky (jtz lat lon) .normal (jtA lat lon):=
 zr jG 3
theorem jHd:zG 108 ky (jtA lat lon) .normal (jtB lat lon):=
 zr jG 3
theorem jHe:zG 108 ky (jtB lat lon) .normal (jtC lat lon):=
 zr jG 3
theorem jBa:zG 108 ky (jtC lat lon) .normal (jtD lat lon):=
 zr jG 3
theorem jBb:zG 108 ky (jtD lat lon) .normal (jtE lat lon):=
 zr jG 3
theorem jBc:zG 108 ky (jtE lat lon) .normal (jtF lat lon):=
 zr jG 3
theorem jBd:zG 108 ky (jtF lat lon) .normal (jtG lat lon):=
 zr jG 13
theorem jBe:zG 108 ky (jtG lat lon) .normal (jtH lat lon):=
 zr jG 12
theorem jBf:zG 108 ky (jtH lat lon) (.exit 0) (jmP lat lon):=
 zr jG 0
theorem jHf:zG 108 (c1 (c2 (c2 (c2 (c2 (c2 (zhB))))))) (jmP lat lon) .normal (jtI lat lon):=
 zr jG 0
theorem jHg:zG 108 (c1 (c2 (c2 (c2 (c2 (c2 (c2 (zhB)))))))) (jtI lat lon) .normal (jtJ lat lon):=
 zr jG 0
theorem jHh:zG 108 (c1 (c2 (c2 (c2 (c2 (c2 (c2 (c2 (zhB))))))))) (jtJ lat lon) .normal (jtK lat lon):=
 zr jG 0
theorem jHi:zG 108 (c1 (c2 (c2 (c2 (c2 (c2 (c2 (c2 (c2 (zhB)))))))))) (jtK lat lon) .normal (jtL lat lon):=
 zr jG 0
theorem jHj:zG 108 (c1 (c2 (c2 (c2 (c2 (c2 (c2 (c2 (c2 (c2 (zhB))))))))))) (jtL lat lon) .normal (jtM lat lon):=
 zr jG 0
theorem jBg:zG 108 (c1 (c2 (c2 (c2 (c2 (c2 (c2 (c2 (c2 (c2 (c2 (zhB)))))))))))) (jtM lat lon) .normal (jtN lat lon):=
 zr jG 1
theorem jHk:zG 108 (c1 (c1 (c2 (c2 (c2 (c2 (c2 (c2 (c2 (c2 (c2 (c2 (c2 (zhB)))))))))))))) (jtN lat lon) .normal (jmQ lat lon):=
 zr jG 0
theorem jHl:zG 108 yQ (jmQ lat lon) .normal (jtO lat lon):=
 zr jG 13
theorem jHm:zG 108 yQ (jtO lat lon) .normal (jtP lat lon):=
 zr jG 14
theorem jHn:zG 108 yQ (jtP lat lon) .normal (jtQ lat lon):=
 zr jG 15
theorem jHo:zG 108 yQ (jtQ lat lon) .normal (jtR lat lon):=
 zr jG 45
theorem jHp:zG 108 yQ (jtR lat lon) .normal (jtS lat lon):=
 zr jG 17
theorem jHq:zG 108 yQ (jtS lat lon) (.exit 2) (jmR lat lon):=
 zr jG 0
theorem jHr (hn:SmH lat) (he:SmH lon):zG 108 (c1 (c2 (c2 (c2 (c2 (c2 (c2 (c2 (c2 (c2 (c2 (c2 (c2 (zhB)))))))))))))) (jmR lat lon) .normal (jmS lat lon):=fun s=>
 ToP.run2 (z:=⟨false,false,false⟩) (n:=20000) (dec:=[]) (mask:=(xL 1 (zY 16 (xL 8 [])))) (os:=(ra 4 (decide (lon≤1800000000),true) (ra 4 (decide (lon≥ -1800000000),true) (ra 4 (decide (lat≤900000000),true) (ra 4 (decide (lat≥ -900000000),true) []))))) (es:=(zob (jmS lat lon))) jG (fun dead=>by kernel_rfl) (jC (decide_eq_true (by have:=hn.1;have:=hn.2;have:=he.1;have:=he.2;omega)) (jC (decide_eq_true (by have:=hn.1;have:=hn.2;have:=he.1;have:=he.2;omega)) (jC (decide_eq_true (by have:=hn.1;have:=hn.2;have:=he.1;have:=he.2;omega)) (jC (decide_eq_true (by have:=hn.1;have:=hn.2;have:=he.1;have:=he.2;omega)) jd _) _) _) _) (ki _) (fun s=>jy (by kernel_rfl)) (by kernel_rfl)
theorem jHs:zG 108 (c1 (c1 (c2 (c2 (c2 (c2 (c2 (c2 (c2 (c2 (c2 (c2 (c2 (c2 (c2 (zhB)))))))))))))))) (jmS lat lon) .normal (jmT lat lon):=
 zr jG 0
theorem jHt:zG 108 yR (jmT lat lon) .normal (jtT lat lon):=
 zr jG 18
theorem jHu:zG 108 yR (jtT lat lon) .normal (jtU lat lon):=
 zr jG 19
theorem jHv:zG 108 yR (jtU lat lon) .normal (jtV lat lon):=
 zr jG 20
theorem jHw (hn:SmH lat) (he:SmH lon) (bn:ShB (smN lat)) (be:ShB (smE lon)):zG 108 yR (jtV lat lon) .normal (jtW lat lon):=fun s=>
 ToP.run2 (z:=⟨false,false,false⟩) (n:=20000) (dec:=[]) (mask:=(xL 63 (zY 34 (xL 13 [])))) (os:=(ra 1 (decide (wr .i64 (lon - 0)≤ -1800000000),false) (ra 1 (decide (wr .i64 (lon - 0)>1800000000),false) (ra 4 (decide (lon≤1800000000),true) (ra 4 (decide (lon≥ -1800000000),true) (ra 4 (decide (lat≤900000000),true) (ra 4 (decide (lat≥ -900000000),true) (ra 4 (decide (lon≤1800000000),true) (ra 4 (decide (lon≥ -1800000000),true) (ra 4 (decide (lat≤900000000),true) (ra 4 (decide (lat≥ -900000000),true) []))))))))))) (es:=[zj5 lat lon,zj4 lat lon,qt lat lon,qs lat lon,qt lat lon,qs lat lon,qt lat lon,qs lat lon,qt lat lon,qs lat lon,qt lat lon,qs lat lon,qt lat lon,qs lat lon,qt lat lon,qs lat lon,qt lat lon,qs lat lon,qt lat lon,qs lat lon,qt lat lon,qs lat lon,qt lat lon,qs lat lon,qt lat lon,qs lat lon,qt lat lon,qs lat lon,jno lat lon,jnn lat lon]) jG (fun dead=>by kernel_rfl) (jC (decide_eq_false (by have:=hn.1;have:=hn.2;have:=he.1;have:=he.2;rw [Go.Lr.w1 (by omega)];omega)) (jC (decide_eq_false (by have:=hn.1;have:=hn.2;have:=he.1;have:=he.2;rw [Go.Lr.w1 (by omega)];omega)) (jC (decide_eq_true (by have:=hn.1;have:=hn.2;have:=he.1;have:=he.2;omega)) (jC (decide_eq_true (by have:=hn.1;have:=hn.2;have:=he.1;have:=he.2;omega)) (jC (decide_eq_true (by have:=hn.1;have:=hn.2;have:=he.1;have:=he.2;omega)) (jC (decide_eq_true (by have:=hn.1;have:=hn.2;have:=he.1;have:=he.2;omega)) (jC (decide_eq_true (by have:=hn.1;have:=hn.2;have:=he.1;have:=he.2;omega)) (jC (decide_eq_true (by have:=hn.1;have:=hn.2;have:=he.1;have:=he.2;omega)) (jC (decide_eq_true (by have:=hn.1;have:=hn.2;have:=he.1;have:=he.2;omega)) (jC (decide_eq_true (by have:=hn.1;have:=hn.2;have:=he.1;have:=he.2;omega)) jd _) _) _) _) _) _) _) _) _) _) (j7 (js (jnm bn be) (js (jnl bn be) jP)) (j7 (js (jgX bn be) (js (jgW bn be) jP)) (j7 (js (jgV bn be) (js (jgU bn be) jP)) jP 1) 13) 1) (fun s=>jy (by kernel_rfl)) (by kernel_rfl)
theorem jHx (hn:SmH lat) (he:SmH lon) (bn:ShB (smN lat)) (be:ShB (smE lon)):zG 108 yR (jtW lat lon) .normal (jtX lat lon):=fun s=>
 ToP.run2 (z:=⟨false,false,false⟩) (n:=20000) (dec:=[]) (mask:=(xL 22 [])) (os:=[]) (es:=[jmw lat lon,jmv lat lon,qd lat lon,qc lat lon,qd lat lon,qc lat lon,qd lat lon,qc lat lon,qd lat lon,qc lat lon,qd lat lon,qc lat lon,qd lat lon,qc lat lon,qd lat lon,qc lat lon,qd lat lon,qc lat lon,qd lat lon,qc lat lon,qd lat lon,qc lat lon,qd lat lon,qc lat lon,qd lat lon,qc lat lon,qd lat lon,qc lat lon,qd lat lon,qc lat lon,jnq lat lon,jnp lat lon]) jG (fun dead=>by kernel_rfl) jd (j7 (js (jd8 bn be) (js (jd7 bn be) jP)) (j7 (js (jg1 bn be) (js (jg0 bn be) jP)) (j7 (js (jgZ bn be) (js (jgY bn be) jP)) jP 1) 14) 1) (fun s=>jy (by kernel_rfl)) (by kernel_rfl)
theorem jHy:zG 108 yR (jtX lat lon) (.exit 4) (jmU lat lon):=
 zr jG 0
theorem jHz:zG 108 (c1 (c2 (c2 (c2 (c2 (c2 (c2 (c2 (c2 (c2 (c2 (c2 (c2 (c2 (c2 (zhB)))))))))))))))) (jmU lat lon) .normal (jg5 lat lon):=
 zr jG 0
theorem jHA:zG 108 (c2 (c2 (c2 (c2 (c2 (c2 (c2 (c2 (c2 (c2 (c2 (c2 (c2 (c2 (c2 (zhB)))))))))))))))) (jg5 lat lon) .ret (jg5 lat lon):=
 zr jG 0
theorem jHB:zK 108 ky 15 (jA9 lat lon) (.exit 0) (jmP lat lon):=
 zn jG6 (zn jG7 (zn jG8 (zn jG9 (zn jHa (zn jHb (zn jHc (zn jHd (zn jHe (zn jBa (zn jBb (zn jBc (zn jBd (zn jBe (zl jBf))))))))))))))
theorem jHC:zK 108 yQ 6 (jmQ lat lon) (.exit 2) (jmR lat lon):=
 zn jHl (zn jHm (zn jHn (zn jHo (zn jHp (zl jHq)))))
theorem jHD (hn:SmH lat) (he:SmH lon) (bn:ShB (smN lat)) (be:ShB (smE lon)):zK 108 yR 6 (jmT lat lon) (.exit 4) (jmU lat lon):=
 zn jHt (zn jHu (zn jHv (zn (jHw hn he bn be) (zn (jHx hn he bn be) (zl jHy)))))
theorem jBh (hn:SmH lat) (he:SmH lon) (bn:ShB (smN lat)) (be:ShB (smE lon)):zG 108 zhB (jA8 lat lon) .ret (jg5 lat lon):=
 zq jG1 (zq jG2 (zq jG3 (zq jG4 (zq (zo jG5 jHB) (zq jHf (zq jHg (zq jHh (zq jHi (zq jHj (zq jBg (zq (zo jHk jHC) (zq (jHr hn he) (zq (zo jHs (jHD hn he bn be)) (zq jHz jHA))))))))))))))
end Go.Proofs.YtnlhpaidmiogbaaGreat

/- TopShift: the law with a delay of 3. -/
namespace Go.Proofs.YtnlhpaidmiogbaaGreat
open Go.Lr
set_option linter.unusedVariables false
set_option maxRecDepth 100000
variable (lat lon:Int)
def jmn:PS2:=⟨(jnf lat lon 3),JL,0⟩
def jrR:PS2:=⟨(jgM lat lon 3),(jgN 40000),3⟩
def jrS:PS2:=⟨(jgM lat lon 3),(jgN 24000),3⟩
def jrT:PS2:=⟨(jd0 lat lon 24000),JL,3⟩
def jrU:PS2:=⟨(xB 46),(xr lat lon 24000 600 3 160000 168000 192000 120000 607 15 403 225 21 176000),613⟩
def ji2:PS2:=⟨(xB 8),(xr lat lon 24000 600 3 160000 168000 192000 120000 607 15 403 225 21 176000),613⟩
def jrV:PS2:=⟨(Qf 8 30 9 615),(jgT lat lon 24000 600 3 160000 168000 192000 120000 607 15 403 225 21 176000 615),617⟩
def jrW:PS2:=⟨(jd5 615 619),(kX lat lon 615 619 192000),620⟩
def jrX:PS2:=⟨(Qf 9 615 11 619),(kX lat lon 615 619 192000),620⟩
def jrY:PS2:=⟨(kW 9 615 11 619 13 0),(kX lat lon 615 619 192000),620⟩
def jgF:PS2:=⟨(kW 9 615 11 619 13 1),(kX lat lon 615 619 192000),620⟩
def jgG:PS2:=⟨(kW 9 615 11 619 13 2),(kX lat lon 615 619 192000),620⟩
def jj4:PS2:=⟨(kW 9 615 11 619 13 3),(kX lat lon 615 619 192000),620⟩
def jj5:PS2:=⟨jdZ,JL,620⟩
def jaz:PS2:=⟨jd3,JL,620⟩
variable {lat lon}
theorem jz2:zG 93 (c1 (c2 (c2 (c2 (zhC))))) (jmn lat lon) .normal (jrR lat lon):=
 zr jG 0
theorem jz3:zG 93 (c1 (c2 (c2 (c2 (c2 (zhC)))))) (jrR lat lon) .normal (jrS lat lon):=
 zr jG 0
theorem jEV (s:Asg):ToO Tryz.prog 93 (qK (c1 (c2 (c2 (c2 (c2 (c2 (zhC)))))))) 0 4 (j8 s (jrS lat lon)) (zX (jrT lat lon)):=
 zro jG 0 4 (s:=s)
theorem jEW (hn:SmH lat) (he:SmH lon) (bn:ShB (smN lat)) (be:ShB (smE lon)) (s:Asg):ToO Tryz.prog 93 (qK (c1 (c2 (c2 (c2 (c2 (c2 (zhC)))))))) 4 1 (j8 s (jrT lat lon)) (zX (jrU lat lon)):=
 zca (t:=46) (f:=14) (A0:=(jA8 lat lon)) (D:=(jg5 lat lon)) (v:= .v (.one (.ptr 30 0))) jG Tryz.func14 (jBh hn he bn be) (fun s dead=>by kernel_rfl) (by kernel_rfl) (by kernel_rfl) (fun s=>by kernel_rfl) (by kernel_rfl) (fun s=>by kernel_rfl) (fun s dead=>by kernel_rfl) (fun s s2=>by kernel_rfl) (fun s=>by kernel_rfl) s
theorem jEX (s:Asg):ToO Tryz.prog 93 (qK (c1 (c2 (c2 (c2 (c2 (c2 (zhC)))))))) 5 1 (j8 s (jrU lat lon)) (zX (ji2 lat lon)):=
 zro jG 5 1 (s:=s)
theorem jz4:zG 93 (c1 (c2 (c2 (c2 (c2 (c2 (c2 (zhC)))))))) (ji2 lat lon) .normal (ji2 lat lon):=
 zr jt 0
theorem jz5:zG 93 (c1 (c2 (c2 (c2 (c2 (c2 (c2 (c2 (zhC))))))))) (ji2 lat lon) .normal (jrV lat lon):=
 zr jt 0
theorem jz6:zG 93 (c1 (c2 (c2 (c2 (c2 (c2 (c2 (c2 (c2 (zhC)))))))))) (jrV lat lon) .normal (jrW lat lon):=
 zr jt 0
theorem jz7:zG 93 (c1 (c2 (c2 (c2 (c2 (c2 (c2 (c2 (c2 (c2 (zhC))))))))))) (jrW lat lon) .normal (jrX lat lon):=
 zr jt 0
theorem jrZ:zG 93 (c1 (c1 (c2 (c2 (c2 (c2 (c2 (c2 (c2 (c2 (c2 (c2 (zhC))))))))))))) (jrX lat lon) .normal (jrY lat lon):=
 zr jt 0
theorem jz8:zG 93 (c1 (c1 (c2 (c1 (c2 (c2 (c2 (c2 (c2 (c2 (c2 (c2 (c2 (c2 (zhC))))))))))))))) (jrY lat lon) .normal (jgF lat lon):=fun s=>
 ToP.run2 (z:=⟨false,false,false⟩) (n:=20000) (dec:=[]) (mask:=(xL 1 (zY 1 []))) (os:=(ra 1 (wiB (smN lat) (smN lat) 107374182,true) [])) (es:=(zob (jgF lat lon))) jt (fun dead=>by kernel_rfl) (jC (Qb rfl (by omega)) jd _) (ki _) (fun s=>jy (by kernel_rfl)) (by kernel_rfl)
theorem jz9:zG 93 (c1 (c1 (c2 (c1 (c2 (c2 (c2 (c2 (c2 (c2 (c2 (c2 (c2 (c2 (zhC))))))))))))))) (jgF lat lon) .normal (jgG lat lon):=fun s=>
 ToP.run2 (z:=⟨false,false,false⟩) (n:=20000) (dec:=[]) (mask:=(xL 1 (zY 1 []))) (os:=(ra 1 (wiB (smE lon) (smE lon) 107374182,true) [])) (es:=(zob (jgG lat lon))) jt (fun dead=>by kernel_rfl) (jC (Qb rfl (by omega)) jd _) (ki _) (fun s=>jy (by kernel_rfl)) (by kernel_rfl)
theorem jAa:zG 93 (c1 (c1 (c2 (c1 (c2 (c2 (c2 (c2 (c2 (c2 (c2 (c2 (c2 (c2 (zhC))))))))))))))) (jgG lat lon) .normal (jj4 lat lon):=
 zr jt 2
theorem jAb:zG 93 (c1 (c1 (c2 (c1 (c2 (c2 (c2 (c2 (c2 (c2 (c2 (c2 (c2 (c2 (zhC))))))))))))))) (jj4 lat lon) (.exit 0) jj5:=
 zr jt 0
theorem jr0:zG 93 (c1 (c2 (c2 (c2 (c2 (c2 (c2 (c2 (c2 (c2 (c2 (c2 (zhC))))))))))))) jj5 .normal jaz:=
 zr jt 0
theorem jr1:zG 93 (c2 (c2 (c2 (c2 (c2 (c2 (c2 (c2 (c2 (c2 (c2 (c2 (zhC))))))))))))) jaz .ret jaz:=
 zr jt 0
theorem jr2 (hn:SmH lat) (he:SmH lon) (bn:ShB (smN lat)) (be:ShB (smE lon)):zG 93 (c2 (c2 (c2 zhC))) (jmn lat lon) .ret jaz:=
 zq jz2 (zq jz3 (zq (z3 jEV (jEW hn he bn be) jEX) (zq jz4 (zq jz5 (zq jz6 (zq jz7 (zq (zo jrZ (zn jz8 (zn jz9 (zn jAa (zl jAb))))) (zq jr0 jr1))))))))
theorem jEY (s:Asg):j8 s (zlA lat lon 3)=j8 s (jmn lat lon):=by kernel_rfl
theorem jEZ:∀y,zX jaz y→zlF y:=by rintro x ⟨s,rfl⟩;exact ⟨s,_,rfl⟩
end Go.Proofs.YtnlhpaidmiogbaaGreat
