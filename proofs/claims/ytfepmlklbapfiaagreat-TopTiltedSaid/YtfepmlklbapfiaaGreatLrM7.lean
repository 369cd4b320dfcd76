/- Joined texts. What each part proves stands ahead of it; no condition. -/
import Derived.Test.YtfepmlklbapfiaaGreatLrM6
import Derived.WalkKit
import Derived.ProofKit
import Derived.OpenShut
import Derived.WideKeyArr2
import Derived.Test.YtfepmlklbapfiaaGreatLrM1

/- Tilts: the vector made One long. Plain. -/
namespace Go.Proofs.YtfepmlklbapfiaaGreat
open Go.Lr Go.Tg
set_option linter.unusedVariables false
set_option linter.unusedSimpArgs false
theorem sq_pass_t {x t n:Int} (h:nb (2*(t*n - x*1073741824)) n) (hx:nb x n):nb (4*(n*n*(t*t) - 1152921504606846976*(x*x))) (4294967297*(n*n)):=by
 have e:4*(n*n*(t*t) - 1152921504606846976*(x*x))=4294967296*(x*(2*(t*n - x*1073741824)))+2*(t*n - x*1073741824)*(2*(t*n - x*1073741824)):=by grind
 have p:=hx.mul h
 have q:=h.mul h
 rw [e]
 generalize x*(2*(t*n - x*1073741824))=A at *
 generalize 2*(t*n - x*1073741824)*(2*(t*n - x*1073741824))=B at *
 generalize n*n=C at *
 unfold nb at *;omega
theorem unit_eps {f0 f1 f2 n u0 u1 u2:Int} (hn:16777216≤n) (b0:nb f0 n) (b1:nb f1 n) (b2:nb f2 n) (r0:nb (2*(u0*n - f0*1073741824)) n) (r1:nb (2*(u1*n - f1*1073741824)) n) (r2:nb (2*(u2*n - f2*1073741824)) n)
  (F0:n*n - n<f0*f0+(f1*f1+f2*f2)) (F1:f0*f0+(f1*f1+f2*f2)≤n*n+n):nb (u0*u0+u1*u1+u2*u2 - 1152921504606846976) 72000000000:=by
 have s0:=sq_pass_t r0 b0
 have s1:=sq_pass_t r1 b1
 have s2:=sq_pass_t r2 b2
 have hp:16777216*n≤n*n:=Int.mul_le_mul_of_nonneg_right hn (by omega)
 have pos:0<n*n:=by omega
 refine nb.cancel pos ?_
 have e:n*n*(u0*u0+u1*u1+u2*u2 - 1152921504606846976)=n*n*(u0*u0)+n*n*(u1*u1)+n*n*(u2*u2) - 1152921504606846976*(n*n):=by grind
 have e2:n*n*72000000000=72000000000*(n*n):=by grind
 rw [e,e2]
 clear r0 r1 r2 e e2 b0 b1 b2
 generalize n*n*(u0*u0)=X0 at *
 generalize n*n*(u1*u1)=X1 at *
 generalize n*n*(u2*u2)=X2 at *
 generalize f0*f0=G0 at *
 generalize f1*f1=G1 at *
 generalize f2*f2=G2 at *
 generalize n*n=P at *
 unfold nb at *;omega
theorem low1 {f u n:Int} (r:nb (2*(u*n - f*1073741824)) n):63*(1152921504606846976*(f*f)) - 1024*(n*n)≤64*(n*n*(u*u)):=by
 have q:=sqnn0 (1073741824*f+32*(2*(u*n - f*1073741824)))
 have q2:=r.mul r
 have q3:=sqnn0 (2*(u*n - f*1073741824))
 have e:(1073741824*f+32*(2*(u*n - f*1073741824)))*(1073741824*f+32*(2*(u*n - f*1073741824)))=64*(1073741824*(f*(2*(u*n - f*1073741824))))+1152921504606846976*(f*f)+1024*(2*(u*n - f*1073741824)*(2*(u*n - f*1073741824))):=by grind
 have e2:4*(n*n*(u*u))=4*(1152921504606846976*(f*f))+4*(1073741824*(f*(2*(u*n - f*1073741824))))+2*(u*n - f*1073741824)*(2*(u*n - f*1073741824)):=by grind
 rw [e] at q
 clear e r
 generalize 2*(u*n - f*1073741824)*(2*(u*n - f*1073741824))=R at *
 generalize f*(2*(u*n - f*1073741824))=S at *
 generalize n*n*(u*u)=T at *
 generalize f*f=V at *
 generalize n*n=P at *
 unfold nb at *;omega
theorem tilt_lev {f0 f1 f2 n u0 u1 u2:Int} (hn:16777216≤n) (b2:nb f2 n) (r0:nb (2*(u0*n - f0*1073741824)) n) (r1:nb (2*(u1*n - f1*1073741824)) n) (r2:nb (2*(u2*n - f2*1073741824)) n)
  (F0:n*n - n<f0*f0+(f1*f1+f2*f2)) (w0:17≤1073741824 - u2) (w1:1073741824 - u2≤1048576):9663676416*(1073741824 - u2)≤10*(u0*u0+u1*u1):=by
 have l0:=low1 r0
 have l1:=low1 r1
 obtain ⟨W,hW⟩:∃W,W=1073741824 - u2:=⟨_,rfl⟩
 obtain ⟨k,hk⟩:∃k,k=n - f2:=⟨_,rfl⟩
 obtain ⟨r,hr⟩:∃r,r=2*(u2*n - f2*1073741824):=⟨_,rfl⟩
 have hf2:f2=n - k:=by omega
 have hu2:u2=1073741824 - W:=by omega
 rw [←hr] at r2
 have eW:2*(W*n)=2*1073741824*k - r:=by subst hr hf2 hu2;grind
 rw [←hW] at w0 w1 ⊢
 have k0:17*n≤W*n:=Int.mul_le_mul_of_nonneg_right w0 (by omega)
 have k1:W*n≤1048576*n:=Int.mul_le_mul_of_nonneg_right w1 (by omega)
 have kp:1≤k:=by unfold nb at r2;omega
 have ks:1000*k≤n:=by unfold nb at r2;omega
 have kn:n≤k*n:=by
  have:=Int.mul_le_mul_of_nonneg_right kp (show 0≤n by omega);omega
 have kk:1000*(k*k)≤k*n:=by
  have:=Int.mul_le_mul_of_nonneg_left ks (show 0≤k by omega)
  have e:k*(1000*k)=1000*(k*k):=by grind
  omega
 have eF:f2*f2=n*n - 2*(k*n)+k*k:=by subst hf2;grind
 have eP:2*(W*(n*n))=2*1073741824*(k*n) - r*n:=by
  have:2*(W*(n*n))=2*(W*n)*n:=by grind
  rw [this,eW];grind
 have wP:17*(n*n)≤W*(n*n):=Int.mul_le_mul_of_nonneg_right w0 (sqnn0 n)
 have rn:nb (r*n) (n*n):=by
  have h1:nb n n:=by unfold nb;omega
  exact r2.mul h1
 have pos:0<n*n:=Int.mul_pos (by omega) (by omega)
 refine Int.le_of_mul_le_mul_left (a:=n*n) ?_ pos
 have e1:n*n*(9663676416*W)=9663676416*(W*(n*n)):=by grind
 have e2:n*n*(10*(u0*u0+u1*u1))=10*(n*n*(u0*u0))+10*(n*n*(u1*u1)):=by grind
 rw [e1,e2]
 rw [eF] at F0
 clear e1 e2 eW k0 k1 r0 r1 hr hW hk hf2 hu2 eF
 generalize n*n*(u0*u0)=X0 at *
 generalize n*n*(u1*u1)=X1 at *
 generalize W*(n*n)=WP at *
 generalize r*n=RN at *
 generalize f0*f0=G0 at *
 generalize f1*f1=G1 at *
 generalize k*n=KN at *
 generalize k*k=KK at *
 generalize n*n=P at *
 unfold nb at rn
 omega
theorem tilt_all {f0 f1 f2 n u0 u1 u2:Int} (hn:16777216≤n) (b0:nb f0 n) (b1:nb f1 n) (b2:nb f2 n) (r0:nb (2*(u0*n - f0*1073741824)) n) (r1:nb (2*(u1*n - f1*1073741824)) n) (r2:nb (2*(u2*n - f2*1073741824)) n)
  (g0:nb u0 1073741824) (g1:nb u1 1073741824) (g2:nb u2 1073741824) (F0:n*n - n<f0*f0+(f1*f1+f2*f2)) (F1:f0*f0+(f1*f1+f2*f2)≤n*n+n) (w0:17≤1073741824 - u2) {q0 q1 q2 q3:Int}
  (h0:q0=uV0 (1073741824 - u2) (-u1) u0 0) (h1:q1=uV1 (1073741824 - u2) (-u1) u0 0) (h2:q2=uV2 (1073741824 - u2) (-u1) u0 0) (h3:q3=uV3 (1073741824 - u2) (-u1) u0 0):
  nb (dotV 30 [rm6 q0 q1 q2 q3,rm7 q0 q1 q2 q3,rm8 q0 q1 q2 q3] [u0,u1,u2]+1073741824) 300∧
  (1048576≤1073741824 - u2→nb (dotV 30 [rm0 q0 q1 q2 q3,rm1 q0 q1 q2 q3,rm2 q0 q1 q2 q3] [u0,u1,u2]) 3100∧nb (dotV 30 [rm3 q0 q1 q2 q3,rm4 q0 q1 q2 q3,rm5 q0 q1 q2 q3] [u0,u1,u2]) 3100):=by
 have eps:=unit_eps hn b0 b1 b2 r0 r1 r2 F0 F1
 have hu:UnitQ q0 q1 q2 q3:=by rw [h0,h1,h2,h3];exact unit_ok _ _ _ _
 have bw:nb (1073741824 - u2) 2147483648:=by unfold nb at *;omega
 obtain ⟨a,m,tp,e3⟩:=two_ok (x0:=1073741824 - u2) (x1:= -u1) (x2:=u0) w0 bw.2 (g1.neg.le (by omega)) (g0.le (by omega))
 rw [←h0,←h1,←h2] at tp
 rw [←h3] at e3
 clear h0 h1 h2 h3
 subst e3
 have cq:=cols_ok hu
 obtain ⟨v0,v1,v2,v3,v4,v5,v6,v7,v8,-⟩:=rm_eq hu.ha hu.hb hu.hc hu.hd
 have up:∀{x:Int},nb x 1073741830→nb x 4294967296:=fun h=>h.le (by omega)
 have vp:∀{x:Int},nb x 1073741824→nb x 4398046511104:=fun h=>h.le (by omega)
 have z0:=(dot3 (up cq.b0) (up cq.b1) (up cq.b2) (vp g0) (vp g1) (vp g2)).1
 have z1:=(dot3 (up cq.b3) (up cq.b4) (up cq.b5) (vp g0) (vp g1) (vp g2)).1
 have z2:=(dot3 (up cq.b6) (up cq.b7) (up cq.b8) (vp g0) (vp g1) (vp g2)).1
 clear cq
 rw [v0,v1,v2] at z0
 rw [v3,v4,v5] at z1
 rw [v6,v7,v8] at z2
 rw [v0,v1,v2,v3,v4,v5,v6,v7,v8]
 have y0:=dotX (rn30 _) (rn30 _) (rn30 _) g0 g1 g2 z0
 have y1:=dotX (rn30 _) (rn30 _) (rn30 _) g0 g1 g2 z1
 have y2:=dotX (rn30 _) (rn30 _) (rn30 _) g0 g1 g2 z2
 obtain ⟨m0,m1,m2,m3,m4,m5,m6,m7,m8⟩:=mx_two tp
 have pk:0≤a*m*(a*m):=sqnn0 _
 have x0:=dotK pk y0 (rowK m0 m1 m2 g0 g1 g2)
 have x1:=dotK pk y1 (rowK m3 m4 m5 g0 g1 g2)
 have x2:=dotK pk y2 (rowK m6 m7 m8 g0 g1 g2)
 obtain ⟨t0,t1,t2⟩:=tilt_row u0 u1 u2
 rw [t0] at x0
 rw [t1] at x1
 rw [t2] at x2
 clear t0 t1 t2 y0 y1 y2 z0 z1 z2 m0 m1 m2 m3 m4 m5 m6 m7 m8 v0 v1 v2 v3 v4 v5 v6 v7 v8
 generalize dotV 30 [rndV (mx0 q0 q1 q2 0) 30,rndV (mx1 q0 q1 q2 0) 30,rndV (mx2 q0 q1 q2 0) 30] [u0,u1,u2]=Z0 at *
 generalize dotV 30 [rndV (mx3 q0 q1 q2 0) 30,rndV (mx4 q0 q1 q2 0) 30,rndV (mx5 q0 q1 q2 0) 30] [u0,u1,u2]=Z1 at *
 generalize dotV 30 [rndV (mx6 q0 q1 q2 0) 30,rndV (mx7 q0 q1 q2 0) 30,rndV (mx8 q0 q1 q2 0) 30] [u0,u1,u2]=Z2 at *
 have N0:=tp.N0
 have N1:=tp.N1
 have s0:=sqnn0 u0
 have s1:=sqnn0 u1
 have sn: -u1 * -u1=u1*u1:=by grind
 have sw:=sqnn0 (1073741824 - u2)
 have ew:(1073741824 - u2)*(1073741824 - u2)=1152921504606846976 - 2*(1073741824*u2)+u2*u2:=by grind
 have hN:9663676416*(1073741824 - u2)≤10*((1073741824 - u2)*(1073741824 - u2) + -u1 * -u1+u0*u0):=by
  rcases Int.lt_or_le (1073741824 - u2) 1048576 with g | g
  ·have:=tilt_lev hn b2 r0 r1 r2 F0 w0 (by omega)
   rw [sn];omega
  ·rw [sn,ew];unfold nb at eps;omega
 have he:nb ((u0*u0+u1*u1+u2*u2 - 1152921504606846976)*(1073741824 - u2)) (80*((1073741824 - u2)*(1073741824 - u2) + -u1 * -u1+u0*u0)):=by
  have h1:nb (1073741824 - u2) (1073741824 - u2):=by unfold nb;omega
  have p:=eps.mul h1
  generalize (u0*u0+u1*u1+u2*u2 - 1152921504606846976)*(1073741824 - u2)=X at *
  generalize (1073741824 - u2)*(1073741824 - u2) + -u1 * -u1+u0*u0=Y at *
  unfold nb at *;omega
 refine ⟨up_near tp.hn tp.m0 tp.m1 (by rw [sn];omega) he tp.hM x2,fun wl=> ?_⟩
 have ha:40000000≤a:=by
  rcases Int.lt_or_le a 40000000 with g | g
  ·exfalso
   have hh:=tp.hn
   have:a*(a+1)≤39999999*40000000:=Int.mul_le_mul (by omega) (by omega) (by omega) (by omega)
   have e:a*(a+1)=a*a+a:=by grind
   rw [sn,ew] at N1
   unfold nb at eps;omega
  ·exact g
 exact ⟨lev_small ha tp.m0 eps tp.b2 x0,lev_small ha tp.m0 eps (by have:=tp.b1;unfold nb at *;omega) x1⟩
end Go.Proofs.YtfepmlklbapfiaaGreat

/- TopTilted: the plain part. -/
namespace Go.Proofs.YtfepmlklbapfiaaGreat
open Go.Lr Go.Tg
set_option linter.unusedVariables false
set_option linter.unusedSimpArgs false
theorem ti_dn {w u:Int} (hu:1≤u):nb (2*(divV w u*u - w)) u:=by
 have odd:∀w:Int,divV (-w) u = -divV w u:=by
  intro w
  unfold divV
  rw [absV_negate]
  have hu':decide (u<0)=false:=by simp;omega
  rw [hu']
  by_cases g0:w=0
  ·subst g0
   have:quoR (absV 0) (absV u)=0:=by
    rw [show absV 0=0 from rfl]
    exact quoR_zero (by unfold absV;split <;> omega)
   rw [this];rfl
  ·by_cases g1:w<0
   ·have e1:decide (w<0)=true:=by simpa using g1
    have e2:decide (-w<0)=false:=by simp;omega
    rw [e1,e2];unfold sgn;simp
   ·have e1:decide (w<0)=false:=by simp;omega
    have e2:decide (-w<0)=true:=by simp;omega
    rw [e1,e2];unfold sgn;simp
 by_cases h:0≤w
 ·rw [div_pos h (by omega)];exact quo_bd h (by omega)
 ·have k:=quo_bd (a:= -w) (b:=u) (by omega) (by omega)
  rw [←div_pos (a:= -w) (b:=u) (by omega) (by omega),odd,Int.neg_mul] at k
  unfold nb;omega
theorem ti_md {f n:Int} (hf:nb (satV f) n) (h0:16777216≤n) (h1:n≤1099511627776):nb (2*(mulDivV f 84238486 n*n - satV f*84238486)) n∧nb (mulDivV f 84238486 n) 84238487:=by
 have d:=ti_dn (w:=satV f*84238486) (u:=n) (by omega)
 have b:nb (divV (satV f*84238486) n) 84238487:=by
  refine nb.cancel (m:=n) (by omega) ?_
  have e:n*divV (satV f*84238486) n=divV (satV f*84238486) n*n:=Int.mul_comm ..
  rw [e]
  generalize divV (satV f*84238486) n*n=X at *
  generalize satV f=F at *
  unfold nb at *;omega
 have b':=b
 unfold nb at b'
 have e:mulDivV f 84238486 n=divV (satV f*84238486) n:=by
  unfold mulDivV byV
  rw [sat_in (a:=84238486) (by omega) (by omega),sat_in (a:=n) (by omega) (by omega),if_neg (by omega),sat_in (a:=divV (satV f*84238486) n) (by omega) (by omega)]
 rw [e]
 exact ⟨d,b⟩
theorem ti_sq {w n F:Int} (r:nb (2*(w*n - F*84238486)) n) (hF:nb F n):nb (4*(n*n*(w*w) - 7096122523572196*(F*F))) (336953945*(n*n)):=by
 have e:4*(n*n*(w*w) - 7096122523572196*(F*F))=336953944*(F*(2*(w*n - F*84238486)))+2*(w*n - F*84238486)*(2*(w*n - F*84238486)):=by grind
 have p:=hF.mul r
 have q:=r.mul r
 rw [e]
 generalize F*(2*(w*n - F*84238486))=A at *
 generalize 2*(w*n - F*84238486)*(2*(w*n - F*84238486))=B at *
 generalize n*n=C at *
 unfold nb at *;omega
theorem ti_P {w0 w1 w2 n F0 F1 F2:Int} (h0:16777216≤n) (r0:nb (2*(w0*n - F0*84238486)) n) (r1:nb (2*(w1*n - F1*84238486)) n) (r2:nb (2*(w2*n - F2*84238486)) n) (b0:nb F0 n) (b1:nb F1 n) (b2:nb F2 n)
  (s0:n*n - n<F0*F0+(F1*F1+F2*F2)) (s1:F0*F0+(F1*F1+F2*F2)≤n*n+n):nb (w0*w0+(w1*w1+w2*w2) - 7096122523572196) 700000000:=by
 have q0:=ti_sq r0 b0
 have q1:=ti_sq r1 b1
 have q2:=ti_sq r2 b2
 have hp:16777216*n≤n*n:=Int.mul_le_mul_of_nonneg_right h0 (by omega)
 refine nb.cancel (m:=n*n) (by omega) ?_
 have e:n*n*(w0*w0+(w1*w1+w2*w2) - 7096122523572196)=n*n*(w0*w0)+n*n*(w1*w1)+n*n*(w2*w2) - 7096122523572196*(n*n):=by grind
 have e2:n*n*700000000=700000000*(n*n):=Int.mul_comm ..
 rw [e,e2]
 clear r0 r1 r2 e e2 b0 b1 b2
 generalize n*n*(w0*w0)=X0 at *
 generalize n*n*(w1*w1)=X1 at *
 generalize n*n*(w2*w2)=X2 at *
 generalize F0*F0=G0 at *
 generalize F1*F1=G1 at *
 generalize F2*F2=G2 at *
 generalize n*n=P at *
 unfold nb at *;omega
theorem ti_len1 {P m:Int} (hP:nb (P - 7096122523572196) 700000000) (m0:0≤m) (a1:P≤m*m+m) (a2:m*m - m<P):nb (m - 84238486) 6:=by
 have e1:m*(m - 1)=m*m - m:=by grind
 have e2:m*(m+1)=m*m+m:=by grind
 unfold nb at *
 constructor
 ·rcases Int.lt_or_le m 84238480 with h | h
  ·exfalso
   have h1:m*(m+1)≤84238479*84238480:=Int.mul_le_mul (by omega) (by omega) (by omega) (by omega)
   omega
  ·omega
 ·rcases Int.lt_or_le 84238492 m with h | h
  ·exfalso
   have h1:84238493*84238492≤m*(m - 1):=Int.mul_le_mul (by omega) (by omega) (by omega) (by omega)
   omega
  ·omega
theorem ti_len10 {P m:Int} (hP:nb (P - 709612252357219600) 70000000000) (m0:0≤m) (a1:P≤m*m+m) (a2:m*m - m<P):nb (m - 842384860) 43:=by
 have e1:m*(m - 1)=m*m - m:=by grind
 have e2:m*(m+1)=m*m+m:=by grind
 unfold nb at *
 constructor
 ·rcases Int.lt_or_le m 842384817 with h | h
  ·exfalso
   have h1:m*(m+1)≤842384816*842384817:=Int.mul_le_mul (by omega) (by omega) (by omega) (by omega)
   omega
  ·omega
 ·rcases Int.lt_or_le 842384903 m with h | h
  ·exfalso
   have h1:842384904*842384903≤m*(m - 1):=Int.mul_le_mul (by omega) (by omega) (by omega) (by omega)
   omega
  ·omega
theorem ti_lin {m0 m1 m2 w0 w1 w2 u0 u1 u2 N Z X:Int} (b0:nb m0 1073741830) (b1:nb m1 1073741830) (b2:nb m2 1073741830) (hN:nb (N - 842384860) 43)
  (r0:nb (2*(u0*N - 10*w0*1073741824)) N) (r1:nb (2*(u1*N - 10*w1*1073741824)) N) (r2:nb (2*(u2*N - 10*w2*1073741824)) N)
  (hz:nb (2*(Z*1073741824 - (m0*u0+m1*u1+m2*u2))) 1073741824) (hx:nb (2*(X*1073741824 - (m0*w0+m1*w1+m2*w2))) 1073741824):nb (N*Z - 10737418240*X) 7200000000:=by
 have N0:0≤N:=by unfold nb at hN;omega
 have p0:=b0.mul r0
 have p1:=b1.mul r1
 have p2:=b2.mul r2
 have pz:=hz.lmul N0
 have e:2147483648*(N*Z - 10737418240*X)=m0*(2*(u0*N - 10*w0*1073741824))+m1*(2*(u1*N - 10*w1*1073741824))+m2*(2*(u2*N - 10*w2*1073741824))+N*(2*(Z*1073741824 - (m0*u0+m1*u1+m2*u2))) - 10737418240*(2*(X*1073741824 - (m0*w0+m1*w1+m2*w2))):=by grind
 have hx2:=hx.lmul (m:=10737418240) (by omega)
 refine nb.cancel (m:=2147483648) (by omega) ?_
 rw [e]
 clear e r0 r1 r2 hz hx b0 b1 b2
 generalize m0*(2*(u0*N - 10*w0*1073741824))=A0 at *
 generalize m1*(2*(u1*N - 10*w1*1073741824))=A1 at *
 generalize m2*(2*(u2*N - 10*w2*1073741824))=A2 at *
 generalize N*(2*(Z*1073741824 - (m0*u0+m1*u1+m2*u2)))=B at *
 generalize 10737418240*(2*(X*1073741824 - (m0*w0+m1*w1+m2*w2)))=C at *
 unfold nb at *;omega
theorem ti_up {N Z X:Int} (hN:nb (N - 842384860) 43) (hZ:nb (Z+1073741824) 300) (h:nb (N*Z - 10737418240*X) 7200000000):nb (X+84238486) 30:=by
 have N0:0≤N:=by unfold nb at hN;omega
 have p:=hZ.lmul N0
 have e:N*(Z+1073741824)=N*Z+1073741824*N:=by grind
 rw [e] at p
 generalize N*Z=A at *
 unfold nb at *;omega
theorem ti_flat {N Z X:Int} (hN:nb (N - 842384860) 43) (hZ:nb Z 3100) (h:nb (N*Z - 10737418240*X) 7200000000):nb X 300:=by
 have N0:0≤N:=by unfold nb at hN;omega
 have p:=hZ.lmul N0
 generalize N*Z=A at *
 unfold nb at *;omega
theorem sq_far {x c:Int} (c0:0≤c) (h:¬nb x c):c*(x.natAbs:Int)≤x*x∧c<x.natAbs:=by
 have e:x*x=(x.natAbs:Int)*x.natAbs:=by
  rw [←Int.natAbs_mul_self' x]
 have h2:c<x.natAbs:=by unfold nb at h;omega
 rw [e]
 exact ⟨Int.mul_le_mul_of_nonneg_right (by omega) (by omega),h2⟩
theorem sq_abs (x:Int):(x.natAbs:Int)≤x*x:=by
 have e:x*x=(x.natAbs:Int)*x.natAbs:=by
  rw [←Int.natAbs_mul_self' x]
 rcases Int.lt_or_le 0 x.natAbs with h | h
 ·have:=Int.mul_le_mul_of_nonneg_right (show (1:Int)≤x.natAbs by omega) (show (0:Int)≤x.natAbs by omega)
  omega
 ·have:=sqnn0 x;omega
theorem ti_sides {P X0 X1 X2:Int} (hP:nb (P - 7096122523572196) 700000000) (h2:nb (X2+84238486) 30)
  (h:nb (1073741824*(X0*X0+X1*X1+X2*X2 - P)) (20*P+1073741824*(X0.natAbs+X1.natAbs+X2.natAbs)+4294967296)):nb X0 262144∧nb X1 262144:=by
 have s2:7096117000000000≤X2*X2:=by
  have:=Int.mul_le_mul (a:=84238456) (b:=84238456) (c:= -X2) (d:= -X2) (by unfold nb at h2;omega) (by unfold nb at h2;omega) (by omega) (by unfold nb at h2;omega)
  rw [Int.neg_mul_neg] at this;omega
 have a2:(X2.natAbs:Int)≤84238516:=by unfold nb at h2;omega
 have a0:=sq_abs X0
 have a1:=sq_abs X1
 refine ⟨Classical.byContradiction fun g=> ?_,Classical.byContradiction fun g=> ?_⟩
 ·obtain ⟨g1,g2⟩:=sq_far (by omega) g
  generalize X0*X0=Q0 at *
  generalize X1*X1=Q1 at *
  generalize X2*X2=Q2 at *
  unfold nb at *;omega
 ·obtain ⟨g1,g2⟩:=sq_far (by omega) g
  generalize X0*X0=Q0 at *
  generalize X1*X1=Q1 at *
  generalize X2*X2=Q2 at *
  unfold nb at *;omega
theorem hyp_ex (a b c:Int):hypV [a,b,c]=exN a b c:=by
 unfold exN hypV
 rw [sqS3,sqS3,sat_sat,sat_sat,sat_sat]
theorem ex_sat (a b c:Int):exN (satV a) (satV b) (satV c)=exN a b c:=by
 unfold exN
 rw [sat_sat,sat_sat,sat_sat]
theorem ti_pre {f0 f1 f2 w0 w1 w2:Int} (h0:16777216≤hypV [f0,f1,f2]) (h1:hypV [f0,f1,f2]≤1099511627776) (e0:w0=mulDivV f0 84238486 (hypV [f0,f1,f2])) (e1:w1=mulDivV f1 84238486 (hypV [f0,f1,f2])) (e2:w2=mulDivV f2 84238486 (hypV [f0,f1,f2])):
  (nb w0 84238487∧nb w1 84238487∧nb w2 84238487)∧nb (w0*w0+(w1*w1+w2*w2) - 7096122523572196) 700000000∧nb (exN w0 w1 w2 - 84238486) 6∧nb (exN (10*w0) (10*w1) (10*w2) - 842384860) 43:=by
 rw [hyp_ex] at h0 h1 e0 e1 e2
 obtain ⟨⟨a0,a0'⟩,⟨a1,a1'⟩,⟨a2,a2'⟩,-,-⟩:=exN_side f0 f1 f2
 have s0:nb (satV f0) (exN f0 f1 f2):=by unfold nb;omega
 have s1:nb (satV f1) (exN f0 f1 f2):=by unfold nb;omega
 have s2:nb (satV f2) (exN f0 f1 f2):=by unfold nb;omega
 obtain ⟨-,-,-,-,-,u0,u1,-⟩:=hyp3 (s0.le h1) (s1.le h1) (s2.le h1)
 rw [ex_sat] at u0 u1
 obtain ⟨r0,b0⟩:=ti_md (f:=f0) s0 h0 h1
 obtain ⟨r1,b1⟩:=ti_md (f:=f1) s1 h0 h1
 obtain ⟨r2,b2⟩:=ti_md (f:=f2) s2 h0 h1
 rw [←e0] at r0 b0
 rw [←e1] at r1 b1
 rw [←e2] at r2 b2
 have hP:=ti_P h0 r0 r1 r2 s0 s1 s2 (u1.resolve_left (by omega)) u0
 clear r0 r1 r2 u0 u1 s0 s1 s2 a0 a0' a1 a1' a2 a2' e0 e1 e2 h0 h1
 refine ⟨⟨b0,b1,b2⟩,hP, ?_, ?_⟩
 ·obtain ⟨c0,c1,d0,-,-,c2,c3,-⟩:=hyp3 (b0.le (by omega)) (b1.le (by omega)) (b2.le (by omega))
  have c4:exN w0 w1 w2≠0:=by
   intro h
   rw [h] at c2
   unfold nb at hP;omega
  exact ti_len1 hP c0 c2 (c3.resolve_left c4)
 ·have t:∀{w:Int},nb w 84238487→nb (10*w) 1099511627776:=by intro w h;unfold nb at *;omega
  obtain ⟨c0,c1,d0,-,-,c2,c3,-⟩:=hyp3 (t b0) (t b1) (t b2)
  have e:∀w:Int,10*w*(10*w)=100*(w*w):=by intro w;grind
  rw [e,e,e] at c2 c3
  have hP':nb (100*(w0*w0)+(100*(w1*w1)+100*(w2*w2)) - 709612252357219600) 70000000000:=by
   unfold nb at *;omega
  have c4:exN (10*w0) (10*w1) (10*w2)≠0:=by
   intro h
   rw [h] at c2
   unfold nb at hP';omega
  exact ti_len10 hP' c0 c2 (c3.resolve_left c4)
def tiX (w0 w1 w2:Int) (a b c:Int→Int→Int→Int→Int):Int:=dotV 30 [a (satV (tV0 (10*w0) (10*w1) (10*w2))) (satV (tV1 (10*w0) (10*w1) (10*w2))) (satV (tV2 (10*w0) (10*w1) (10*w2))) (satV (tV3 (10*w0) (10*w1) (10*w2))),b (satV (tV0 (10*w0) (10*w1) (10*w2))) (satV (tV1 (10*w0) (10*w1) (10*w2))) (satV (tV2 (10*w0) (10*w1) (10*w2))) (satV (tV3 (10*w0) (10*w1) (10*w2))),c (satV (tV0 (10*w0) (10*w1) (10*w2))) (satV (tV1 (10*w0) (10*w1) (10*w2))) (satV (tV2 (10*w0) (10*w1) (10*w2))) (satV (tV3 (10*w0) (10*w1) (10*w2)))] [w0,w1,w2]
theorem ti_fin {w0 w1 w2:Int} (b0:nb w0 84238487) (b1:nb w1 84238487) (b2:nb w2 84238487) (hP:nb (w0*w0+(w1*w1+w2*w2) - 7096122523572196) 700000000) (hN:nb (exN (10*w0) (10*w1) (10*w2) - 842384860) 43):
  nb (tiX w0 w1 w2 rm6 rm7 rm8+84238486) 65536∧nb (tiX w0 w1 w2 rm0 rm1 rm2) 262144∧nb (tiX w0 w1 w2 rm3 rm4 rm5) 262144:=by
 have t:∀{w:Int},nb w 84238487→nb (10*w) 1099511627776:=by intro w h;unfold nb at *;omega
 obtain ⟨c0,c1,c2,c3,c4,c5,c6,-⟩:=hyp3 (t b0) (t b1) (t b2)
 have i0:=satV_S (inS_nb (t b0) (by omega))
 have i1:=satV_S (inS_nb (t b1) (by omega))
 have i2:=satV_S (inS_nb (t b2) (by omega))
 unfold tiX
 have hN':=hN
 unfold nb at hN'
 have hz:(exN (10*w0) (10*w1) (10*w2)==0)=false:=by
  have:exN (10*w0) (10*w1) (10*w2)≠0:=by omega
  simpa using this
 have eu:∀v,satV v=v→tU v (10*w0) (10*w1) (10*w2)=divPV v (exN (10*w0) (10*w1) (10*w2)) 30:=by intro v hv;unfold tU;rw [hv]
 have t0:tV0 (10*w0) (10*w1) (10*w2)=bif decide (wr IntKind.i64 (1073741824 - divPV (10*w2) (exN (10*w0) (10*w1) (10*w2)) 30)≤16) then 0 else uV0 (wr IntKind.i64 (1073741824 - divPV (10*w2) (exN (10*w0) (10*w1) (10*w2)) 30)) (wr IntKind.i64 (0 - divPV (10*w1) (exN (10*w0) (10*w1) (10*w2)) 30)) (divPV (10*w0) (exN (10*w0) (10*w1) (10*w2)) 30) 0:=by
  unfold tV0;rw [cond_f hz,eu _ i0,eu _ i1,eu _ i2]
 have t1:tV1 (10*w0) (10*w1) (10*w2)=bif decide (wr IntKind.i64 (1073741824 - divPV (10*w2) (exN (10*w0) (10*w1) (10*w2)) 30)≤16) then 1073741824 else uV1 (wr IntKind.i64 (1073741824 - divPV (10*w2) (exN (10*w0) (10*w1) (10*w2)) 30)) (wr IntKind.i64 (0 - divPV (10*w1) (exN (10*w0) (10*w1) (10*w2)) 30)) (divPV (10*w0) (exN (10*w0) (10*w1) (10*w2)) 30) 0:=by
  unfold tV1;rw [cond_f hz,eu _ i0,eu _ i1,eu _ i2]
 have t2:tV2 (10*w0) (10*w1) (10*w2)=bif decide (wr IntKind.i64 (1073741824 - divPV (10*w2) (exN (10*w0) (10*w1) (10*w2)) 30)≤16) then 0 else uV2 (wr IntKind.i64 (1073741824 - divPV (10*w2) (exN (10*w0) (10*w1) (10*w2)) 30)) (wr IntKind.i64 (0 - divPV (10*w1) (exN (10*w0) (10*w1) (10*w2)) 30)) (divPV (10*w0) (exN (10*w0) (10*w1) (10*w2)) 30) 0:=by
  unfold tV2;rw [cond_f hz,eu _ i0,eu _ i1,eu _ i2]
 have t3:tV3 (10*w0) (10*w1) (10*w2)=bif decide (wr IntKind.i64 (1073741824 - divPV (10*w2) (exN (10*w0) (10*w1) (10*w2)) 30)≤16) then 0 else uV3 (wr IntKind.i64 (1073741824 - divPV (10*w2) (exN (10*w0) (10*w1) (10*w2)) 30)) (wr IntKind.i64 (0 - divPV (10*w1) (exN (10*w0) (10*w1) (10*w2)) 30)) (divPV (10*w0) (exN (10*w0) (10*w1) (10*w2)) 30) 0:=by
  unfold tV3;rw [cond_f hz,eu _ i0,eu _ i1,eu _ i2]
 obtain ⟨r0,g0,-⟩:=dpass c2.1 c2.2 (show 1≤exN (10*w0) (10*w1) (10*w2) by omega) (by omega)
 obtain ⟨r1,g1,-⟩:=dpass c3.1 c3.2 (show 1≤exN (10*w0) (10*w1) (10*w2) by omega) (by omega)
 obtain ⟨r2,g2,-⟩:=dpass c4.1 c4.2 (show 1≤exN (10*w0) (10*w1) (10*w2) by omega) (by omega)
 rw [t0,t1,t2,t3]
 clear t0 t1 t2 t3 eu hz i0 i1 i2 hN'
 generalize divPV (10*w0) (exN (10*w0) (10*w1) (10*w2)) 30=u0 at *
 generalize divPV (10*w1) (exN (10*w0) (10*w1) (10*w2)) 30=u1 at *
 generalize divPV (10*w2) (exN (10*w0) (10*w1) (10*w2)) 30=u2 at *
 generalize exN (10*w0) (10*w1) (10*w2)=n at *
 have n0:842384817≤n:=by unfold nb at hN;omega
 have e2:wr IntKind.i64 (1073741824 - u2)=1073741824 - u2:=w64_in (by omega) (by omega)
 have e1:wr IntKind.i64 (0 - u1) = -u1:=by have h:wr IntKind.i64 (0 - u1)=0 - u1:=w64_in (by omega) (by omega);omega
 have c7:=c6.resolve_left (by omega)
 rw [e2,e1]
 have wp:∀{x:Int},nb x 84238487→nb x 4398046511104:=fun h=>h.le (by omega)
 have wq:∀{x:Int},nb x 84238487→nb x 1099511627776:=fun h=>h.le (by omega)
 by_cases hw:1073741824 - u2≤16
 ·rw [decide_eq_true hw,cond_t rfl,cond_t rfl,cond_t rfl,cond_t rfl,satV_S (show inS 0 by unfold inS;omega),satV_S (show inS 1073741824 by unfold inS;omega)]
  have q0:rm0 0 1073741824 0 0=1073741824:=by kernel_rfl
  have q1:rm1 0 1073741824 0 0=0:=by kernel_rfl
  have q2:rm2 0 1073741824 0 0=0:=by kernel_rfl
  have q3:rm3 0 1073741824 0 0=0:=by kernel_rfl
  have q4:rm4 0 1073741824 0 0 = -1073741824:=by kernel_rfl
  have q5:rm5 0 1073741824 0 0=0:=by kernel_rfl
  have q6:rm6 0 1073741824 0 0=0:=by kernel_rfl
  have q7:rm7 0 1073741824 0 0=0:=by kernel_rfl
  have q8:rm8 0 1073741824 0 0 = -1073741824:=by kernel_rfl
  rw [q0,q1,q2,q3,q4,q5,q6,q7,q8]
  have z:nb (0:Int) 4294967296:=by unfold nb;omega
  have o:nb (1073741824:Int) 4294967296:=by unfold nb;omega
  have p:nb (-1073741824:Int) 4294967296:=by unfold nb;omega
  have d0:=(dot3 o z z (wp b0) (wp b1) (wp b2)).1
  have d1:=(dot3 z p z (wp b0) (wp b1) (wp b2)).1
  have d2:=(dot3 z z p (wp b0) (wp b1) (wp b2)).1
  generalize dotV 30 [1073741824,0,0] [w0,w1,w2]=X0 at *
  generalize dotV 30 [0,-1073741824,0] [w0,w1,w2]=X1 at *
  generalize dotV 30 [0,0,-1073741824] [w0,w1,w2]=X2 at *
  have x0:X0=w0:=by unfold nb at d0;omega
  have x1:X1 = -w1:=by unfold nb at d1;omega
  have x2:X2 = -w2:=by unfold nb at d2;omega
  have w2l:84238470≤w2:=by
   have:(1073741824 - 16)*n≤u2*n:=Int.mul_le_mul_of_nonneg_right (by omega) (by omega)
   unfold nb at hN;omega
  have s2:84238470*84238470≤w2*w2:=Int.mul_le_mul w2l w2l (by omega) (by omega)
  have q0:=sqnn0 w0
  have q1:=sqnn0 w1
  subst x0 x1 x2
  refine ⟨by unfold nb at *;omega,Classical.byContradiction fun g=> ?_,Classical.byContradiction fun g=> ?_⟩
  ·obtain ⟨g1,g2⟩:=sq_far (by omega) g
   unfold nb at hP;omega
  ·have g:¬nb w1 262144:=by intro h;apply g;unfold nb at *;omega
   obtain ⟨g1,g2⟩:=sq_far (by omega) g
   unfold nb at hP;omega
 ·have hu:=unit_ok (1073741824 - u2) (-u1) u0 0
  rw [decide_eq_false hw,cond_f rfl,cond_f rfl,cond_f rfl,cond_f rfl,satV_S (inS_bd hu.ha),satV_S (inS_bd hu.hb),satV_S (inS_bd hu.hc),satV_S (inS_bd hu.hd)]
  obtain ⟨k0,k1⟩:=tilt_all (f0:=10*w0) (f1:=10*w1) (f2:=10*w2) (n:=n) (u0:=u0) (u1:=u1) (u2:=u2) (by omega) (by unfold nb;omega) (by unfold nb;omega) (by unfold nb;omega) r0 r1 r2 (by unfold nb;omega) (by unfold nb;omega) (by unfold nb;omega) c7 c5 (by omega) rfl rfl rfl rfl
  have cq:=cols_ok hu
  have up:∀{x:Int},nb x 1073741830→nb x 4294967296:=fun h=>h.le (by omega)
  have vp:∀{x:Int},-1073741824≤x∧x≤1073741824→nb x 4398046511104:=fun h=>by unfold nb;omega
  have z0:=(dot3 (up cq.b0) (up cq.b1) (up cq.b2) (vp g0) (vp g1) (vp g2)).1
  have z1:=(dot3 (up cq.b3) (up cq.b4) (up cq.b5) (vp g0) (vp g1) (vp g2)).1
  have z2:=(dot3 (up cq.b6) (up cq.b7) (up cq.b8) (vp g0) (vp g1) (vp g2)).1
  have x0:=(dot3 (up cq.b0) (up cq.b1) (up cq.b2) (wp b0) (wp b1) (wp b2)).1
  have x1:=(dot3 (up cq.b3) (up cq.b4) (up cq.b5) (wp b0) (wp b1) (wp b2)).1
  have x2:=(dot3 (up cq.b6) (up cq.b7) (up cq.b8) (wp b0) (wp b1) (wp b2)).1
  have l0:=ti_lin cq.b0 cq.b1 cq.b2 hN r0 r1 r2 z0 x0
  have l1:=ti_lin cq.b3 cq.b4 cq.b5 hN r0 r1 r2 z1 x1
  have l2:=ti_lin cq.b6 cq.b7 cq.b8 hN r0 r1 r2 z2 x2
  have y2:=ti_up hN k0 l2
  refine ⟨y2.le (by omega), ?_⟩
  by_cases hl:1048576≤1073741824 - u2
  ·obtain ⟨k2,k3⟩:=k1 hl
   exact ⟨(ti_flat hN k2 l0).le (by omega),(ti_flat hN k3 l1).le (by omega)⟩
  ·have gX:∀{m0 m1 m2 X:Int},nb m0 1073741830→nb m1 1073741830→nb m2 1073741830→nb (2*(X*1073741824 - (m0*w0+m1*w1+m2*w2))) 1073741824→nb X 4398046511104:=by
    intro m0 m1 m2 X a0 a1 a2 h
    have p0:=a0.mul b0
    have p1:=a1.mul b1
    have p2:=a2.mul b2
    generalize m0*w0=A0 at *
    generalize m1*w1=A1 at *
    generalize m2*w2=A2 at *
    unfold nb at *;omega
   have nt:=norm_turn cq (wq b0) (wq b1) (wq b2) (gX cq.b0 cq.b1 cq.b2 x0) (gX cq.b3 cq.b4 cq.b5 x1) (gX cq.b6 cq.b7 cq.b8 x2) x0 x1 x2
   rw [show w0*w0+w1*w1+w2*w2=w0*w0+(w1*w1+w2*w2) by omega] at nt
   exact ti_sides hP y2 nt
end Go.Proofs.YtfepmlklbapfiaaGreat

/- TopTilted: the walk. -/
namespace Go.Proofs.YtfepmlklbapfiaaGreat
open Go.Lr Go.Tg
set_option linter.unusedVariables false
def ztPar:List Go.Lr.P2:=[qI 8000,qI 0,qI 16]++rq 7 (qI 5)++[qI 1000000,qI 1000000,qI 1000000,qI 1000000,qI 1000000,qI 1000000,qI 1048576,qI 1048576,qI 1048576,qI 1048576,qI 17179869184,qI 17179869184,qI 17179869184,qI 16384,qI 16384,qI 16384,qI 1024,qI 1024,qI 1024,qI 65536,qI 65536,qI 65536,qI 16384,qI 16384,qI 16384,qI 16384,qI 16384,qI 16384,qI 17179869184,qI 17179869184,qI 68719476736,qI 68719476736,qI 68719476736,qI 68719476736,qI 17592186044416,qI 17592186044416,qI 17592186044416,qI 17592186044416,qI 17592186044416,qI 17592186044416,qI 67108864,qI 67108864,qI 67108864,qI 4294967296,qI 4294967296,qI 4294967296,qI 17179869184,qI 17179869184,qI 17179869184,qI 17179869184,qI 17179869184,qI 17179869184,qI 17592186044416,qI 17592186044416,qI 5000000,qI 68719476736,qI 1,qI 268435456,qI 32,qI 0,qI 0,qI 0]
def ztVar:List Go.Lr.P2:=[qI 68719476736,qI 68719476736,qI 68719476736,qI 68719476736,qI 17592186044416,qI 17592186044416,qI 17592186044416,qI 17592186044416,qI 17592186044416,qI 17592186044416,qI 67108864,qI 67108864,qI 67108864,qI 4294967296,qI 4294967296,qI 4294967296,qI 17179869184,qI 17179869184,qI 17179869184,qI 17179869184,qI 17179869184,qI 17179869184,qI 17592186044416,qI 17592186044416]
def ztMon:List Go.Lr.P2:=[qI 0,qI 0,qB false,qI 0,qI 1000000,qI 5,qI 0,qI 0,qB false,qI 1,qI 1000000,qI 5,qI 0,qI 0,qB false,qI 2,qI 1000000,qI 5,qI 0,qI 0,qB false,qI 3,qI 1000000,qI 5,qI 0,qI 0,qB false,qI 4,qI 1000000,qI 5,qI 0,qI 0,qB false,qI 5,qI 1000000,qI 5,qI 0]
def ztA (w0 w1 w2:Int):List (Nat×PB2):=[(1,⟨67,(0,0),0,[qO],none⟩),(2,⟨46,(0,0),0,[qS w0,qS w1,qS w2],none⟩),(15,⟨99,(0,0),0,ztPar++[qB false,qI 1073741824]++rq 299 (qI 0)++ztVar++[qL (.ptr 22 0),qL (.ptr 23 0),qL .nilsl,qL (.ptr 26 0),qL (.ptr 27 0),qL (.ptr 28 0),qL (.ptr 29 0),qL (.ptr 30 0),qL (.ptr 31 0),qL (.ptr 24 0),qI 0,qI 0,qB false,qB false,qL (.ptr 25 0),qB false,qI 0,qI 0,qI 0,qI 0,qB false,qB false,qB false,qI 0,qI 0,qI 0,qI 1073741824]++rq 9 (qI 0)++[qL .nilsl],none⟩),(22,⟨189,(0,0),0,[qI 0,qI 0,qI 0,qI 12157770197,qI 12239707452],none⟩),(23,⟨133,(0,0),0,[qI 8000]++rq 8 (qI 0)++[qB false],none⟩),(24,⟨165,(0,0),0,ztMon,none⟩),(25,⟨136,(0,0),0,[qI 32,qI 268435456,qL .nilsl],none⟩),(26,⟨193,(0,0),0,[qI 0,qI 0,qI 0,qI 0,qI 0,qI 16,qL .nilsl,qI (-9223372036854775808)],none⟩),(27,⟨193,(0,0),0,[qI 0,qI 0,qI 0,qI 0,qI 0,qI 16,qL .nilsl,qI (-9223372036854775808)],none⟩),(28,⟨193,(0,0),0,[qI 0,qI 0,qI 0,qI 0,qI 0,qI 16,qL .nilsl,qI (-9223372036854775808)],none⟩),(29,⟨193,(0,0),0,[qI 0,qI 0,qI 0,qI 0,qI 0,qI 16,qL .nilsl,qI (-9223372036854775808)],none⟩),(30,⟨193,(0,0),0,[qI 0,qI 0,qI 0,qI 0,qI 0,qI 16,qL .nilsl,qI (-9223372036854775808)],none⟩),(31,⟨193,(0,0),0,[qI 0,qI 0,qI 0,qI 0,qI 0,qI 16,qL .nilsl,qI (-9223372036854775808)],none⟩),(32,⟨40,(0,0),0,[qL (.ptr 15 0),qI 0,qI 0,qB false],none⟩)]
def ztM (Q:Nat) (k w0 w1 w2:Int):List (Nat×PB2):=[(1,⟨67,(0,0),0,[qO],none⟩),(2,⟨46,(0,0),0,[qS w0,qS w1,qS w2],none⟩),(15,⟨99,(0,0),0,ztPar++[qO,qI 1073741824]++rq 299 (qI 0)++ztVar++[qL (.ptr 22 0),qL (.ptr 23 0),qL (.slu Q 0),qL (.ptr 26 0),qL (.ptr 27 0),qL (.ptr 28 0),qL (.ptr 29 0),qL (.ptr 30 0),qL (.ptr 31 0),qL (.ptr 24 0),qI 0,qI 0,qB false,qB false,qL (.ptr 25 0),qB false,qI k,qS (k*w0),qS (k*w1),qS (k*w2),qB false,qB false,qB false,qI 0,qI (8000*k),qI 0,qI 1073741824]++rq 9 (qI 0)++[qL .nilsl],none⟩),(22,⟨189,(0,0),0,[qI 0,qI 0,qI 0,qI 12157770197,qI 12239707452],none⟩),(23,⟨133,(0,0),0,[qI 8000,qI (8000*k)]++rq 7 (qI 0)++[qB true],none⟩),(24,⟨165,(0,0),0,ztMon,none⟩),(25,⟨136,(0,0),0,[qI 32,qI 268435456,qL .nilsl],none⟩),(26,⟨193,(0,0),0,[qI 0,qI 0,qI 0,qI 0,qI 0,qI 16,qL .nilsl,qI (8000*k)],none⟩),(27,⟨193,(0,0),0,[qI 0,qI 0,qI 0,qI 0,qI 0,qI 16,qL .nilsl,qI (8000*k)],none⟩),(28,⟨193,(0,0),0,[qI 0,qI 0,qI 0,qI 0,qI 0,qI 16,qL .nilsl,qI (8000*k)],none⟩),(29,⟨193,(0,0),0,[qI 0,qI 0,qI 0,qI 0,qI 0,qI 16,qL .nilsl,qI (8000*k)],none⟩),(30,⟨193,(0,0),0,[qI 0,qI 0,qI 0,qI 0,qI 0,qI 16,qL .nilsl,qI (8000*k)],none⟩),(31,⟨193,(0,0),0,[qI 0,qI 0,qI 0,qI 0,qI 0,qI 16,qL .nilsl,qI (8000*k)],none⟩),(32,⟨40,(0,0),0,[qL (.ptr 15 0),qI 0,qI 0,qB false],none⟩),(Q,⟨36,(0,0),8,[],none⟩)]
def ztZ10 (w0 w1 w2 a0 a1 a2 a3:Int):List (Nat×PB2):=[(1,⟨67,(0,0),0,[qO],none⟩),(2,⟨46,(0,0),0,[qS w0,qS w1,qS w2],none⟩),(15,⟨99,(0,0),0,ztPar++[qO,qS a0,qS a1,qS a2,qS a3]++rq 20 (qI 0)++rq 300 (qH)++[qL (.ptr 22 0),qL (.ptr 23 0),qL (.slu 334 0),qL (.ptr 26 0),qL (.ptr 27 0),qL (.ptr 28 0),qL (.ptr 29 0),qL (.ptr 30 0),qL (.ptr 31 0),qL (.ptr 24 0),qI 1,qI 0,qB false,qB false,qL (.ptr 25 0),qB true,qI 10,qH,qH,qH,qB true,qB false,qB false,qI 0,qI 80000,qI 0,qI 1073741824]++rq 9 (qI 0)++[qL .nilsl],none⟩),(22,⟨189,(0,0),0,[qI 0,qI 0,qI 0,qI 12157770197,qI 12239707452],none⟩),(23,⟨133,(0,0),0,[qI 8000,qI 80000]++rq 7 (qI 0)++[qB true],none⟩),(24,⟨165,(0,0),0,ztMon,none⟩),(25,⟨136,(0,0),0,[qI 32,qI 268435456,qL (.sl 306 0 1 1)],none⟩),(26,⟨193,(0,0),0,[qI 0,qI 0,qI 0,qI 0,qI 0,qI 16,qL .nilsl,qI 80000],none⟩),(27,⟨193,(0,0),0,[qI 0,qI 0,qI 0,qI 0,qI 0,qI 16,qL .nilsl,qI 80000],none⟩),(28,⟨193,(0,0),0,[qI 0,qI 0,qI 0,qI 0,qI 0,qI 16,qL .nilsl,qI 80000],none⟩),(29,⟨193,(0,0),0,[qI 0,qI 0,qI 0,qI 0,qI 0,qI 16,qL .nilsl,qI 80000],none⟩),(30,⟨193,(0,0),0,[qI 0,qI 0,qI 0,qI 0,qI 0,qI 16,qL .nilsl,qI 80000],none⟩),(31,⟨193,(0,0),0,[qI 0,qI 0,qI 0,qI 0,qI 0,qI 16,qL .nilsl,qI 80000],none⟩),(32,⟨40,(0,0),0,[qL (.ptr 15 0),qI 0,qI 0,qB false],none⟩),(306,⟨48,(0,0),0,[qI 80000,qH,qH,qH,qH,qI 0,qI 0,qI 0,qI 0,qI 0,qI 0],none⟩),(334,⟨36,(0,0),8,[],none⟩)]
def ztY (w0 w1 w2 a0 a1 a2 a3:Int):List (Nat×PB2):=[(1,⟨67,(0,0),0,[qO],none⟩),(2,⟨46,(0,0),0,[qS w0,qS w1,qS w2],none⟩),(15,⟨99,(0,0),0,ztPar++[qO,qH,qH,qH,qH]++rq 20 (qI 0)++rq 300 (qH)++[qL (.ptr 22 0),qL (.ptr 23 0),qL (.slu 334 0),qL (.ptr 26 0),qL (.ptr 27 0),qL (.ptr 28 0),qL (.ptr 29 0),qL (.ptr 30 0),qL (.ptr 31 0),qL (.ptr 24 0),qI 1,qI 0,qB false,qB false,qL (.ptr 25 0),qB true,qI 10,qH,qH,qH,qB true,qB false,qB false,qI 0,qI 80000,qI 0,qI 1073741824]++rq 9 (qI 0)++[qL .nilsl],none⟩),(22,⟨189,(0,0),0,[qI 0,qI 0,qI 0,qI 12157770197,qI 12239707452],none⟩),(23,⟨133,(0,0),0,[qI 8000,qI 80000]++rq 7 (qI 0)++[qB true],none⟩),(24,⟨165,(0,0),0,ztMon,none⟩),(25,⟨136,(0,0),0,[qI 32,qI 268435456,qL (.sl 306 0 1 1)],none⟩),(26,⟨193,(0,0),0,[qI 0,qI 0,qI 0,qI 0,qI 0,qI 16,qL .nilsl,qI 80000],none⟩),(27,⟨193,(0,0),0,[qI 0,qI 0,qI 0,qI 0,qI 0,qI 16,qL .nilsl,qI 80000],none⟩),(28,⟨193,(0,0),0,[qI 0,qI 0,qI 0,qI 0,qI 0,qI 16,qL .nilsl,qI 80000],none⟩),(29,⟨193,(0,0),0,[qI 0,qI 0,qI 0,qI 0,qI 0,qI 16,qL .nilsl,qI 80000],none⟩),(30,⟨193,(0,0),0,[qI 0,qI 0,qI 0,qI 0,qI 0,qI 16,qL .nilsl,qI 80000],none⟩),(31,⟨193,(0,0),0,[qI 0,qI 0,qI 0,qI 0,qI 0,qI 16,qL .nilsl,qI 80000],none⟩),(32,⟨40,(0,0),0,[qL (.ptr 15 0),qI 0,qI 0,qB false],none⟩),(306,⟨48,(0,0),0,[qI 80000,qH,qH,qH,qH,qI 0,qI 0,qI 0,qI 0,qI 0,qI 0],none⟩),(334,⟨36,(0,0),8,[],none⟩),(344,⟨51,(0,0),0,[qS a0,qS a1,qS a2,qS a3]++rq 20 (qI 0),none⟩)]
def ztW (y0 y1 y2:Int):List (Nat×PB2):=[(15,⟨99,(0,0),0,ztPar++[qO,qH,qH,qH,qH]++rq 20 (qI 0)++rq 300 (qH)++[qL (.ptr 22 0),qL (.ptr 23 0),qL (.slu 334 0),qL (.ptr 26 0),qL (.ptr 27 0),qL (.ptr 28 0),qL (.ptr 29 0),qL (.ptr 30 0),qL (.ptr 31 0),qL (.ptr 24 0),qI 1,qI 0,qB false,qB false,qL (.ptr 25 0),qB true,qI 10,qH,qH,qH,qB true,qB false,qB false,qI 0,qI 80000,qI 0,qI 1073741824]++rq 9 (qI 0)++[qL .nilsl],none⟩),(22,⟨189,(0,0),0,[qI 0,qI 0,qI 0,qI 12157770197,qI 12239707452],none⟩),(23,⟨133,(0,0),0,[qI 8000,qI 80000]++rq 7 (qI 0)++[qB true],none⟩),(24,⟨165,(0,0),0,ztMon,none⟩),(25,⟨136,(0,0),0,[qI 32,qI 268435456,qL (.sl 306 0 1 1)],none⟩),(26,⟨193,(0,0),0,[qI 0,qI 0,qI 0,qI 0,qI 0,qI 16,qL .nilsl,qI 80000],none⟩),(27,⟨193,(0,0),0,[qI 0,qI 0,qI 0,qI 0,qI 0,qI 16,qL .nilsl,qI 80000],none⟩),(28,⟨193,(0,0),0,[qI 0,qI 0,qI 0,qI 0,qI 0,qI 16,qL .nilsl,qI 80000],none⟩),(29,⟨193,(0,0),0,[qI 0,qI 0,qI 0,qI 0,qI 0,qI 16,qL .nilsl,qI 80000],none⟩),(30,⟨193,(0,0),0,[qI 0,qI 0,qI 0,qI 0,qI 0,qI 16,qL .nilsl,qI 80000],none⟩),(31,⟨193,(0,0),0,[qI 0,qI 0,qI 0,qI 0,qI 0,qI 16,qL .nilsl,qI 80000],none⟩),(32,⟨40,(0,0),0,[qL (.ptr 15 0),qI 0,qI 0,qB false],none⟩),(306,⟨48,(0,0),0,[qI 80000,qH,qH,qH,qH,qI 0,qI 0,qI 0,qI 0,qI 0,qI 0],none⟩),(334,⟨36,(0,0),8,[],none⟩),(346,⟨46,(0,0),0,[qS y0,qS y1,qS y2],none⟩)]
def ztB (w0 w1 w2:Int):PS2:=⟨[(3,.one (qL (.ptr 1 0))),(4,.one (qI 84238486)),(6,.one (qL (.ptr 2 0))),(7,.one (qL (.ptr 32 0))),(8,.one (qI 1))],ztA w0 w1 w2,33⟩
def ztS (Q nb:Nat) (k w0 w1 w2:Int):PS2:=⟨[(3,.one (qL (.ptr 1 0))),(4,.one (qI 84238486)),(6,.one (qL (.ptr 2 0))),(7,.one (qL (.ptr 32 0))),(8,.one (qI (k+1)))],ztM Q k w0 w1 w2,nb⟩
def ztT (w0 w1 w2 a0 a1 a2 a3:Int):PS2:=⟨[(3,.one (qL (.ptr 1 0))),(4,.one (qI 84238486)),(6,.one (qL (.ptr 2 0))),(7,.one (qL (.ptr 32 0))),(8,.one (qI 11))],ztZ10 w0 w1 w2 a0 a1 a2 a3,342⟩
def ztX (w0 w1 w2 a0 a1 a2 a3:Int):PS2:=⟨[(3,.one (qL (.ptr 1 0))),(4,.one (qI 84238486)),(6,.one (qL (.ptr 2 0))),(7,.one (qL (.ptr 32 0)))],ztZ10 w0 w1 w2 a0 a1 a2 a3,342⟩
def ztYs (w0 w1 w2 a0 a1 a2 a3:Int):PS2:=⟨[(3,.one (qL (.ptr 1 0))),(4,.one (qI 84238486)),(6,.one (qL (.ptr 2 0))),(7,.one (qL (.ptr 32 0))),(11,.one (qL (.ptr 344 0)))],ztY w0 w1 w2 a0 a1 a2 a3,346⟩
def ztWs (y0 y1 y2:Int):PS2:=⟨[(4,.one (qI 84238486)),(7,.one (qL (.ptr 32 0))),(13,.one (qL (.ptr 346 0)))],ztW y0 y1 y2,347⟩
def ztR (j:Nat):PS2:=⟨[(2,.one (qR (.bool true)))],[],j⟩
def ztP0 (f0 f1 f2:Int):PS2:=⟨[(0,.agg [qS f0,qS f1,qS f2])],[],0⟩
def ztP1 (f0 f1 f2:Int):PS2:=⟨[(1,.one (qL (.ptr 0 0)))],[(0,⟨46,(0,0),0,[qS f0,qS f1,qS f2],none⟩)],1⟩
def ztP3 (f0 f1 f2:Int):PS2:=⟨[(1,.one (qL (.ptr 0 0))),(3,.one (qL (.ptr 1 0)))],[(0,⟨46,(0,0),0,[qS f0,qS f1,qS f2],none⟩),(1,⟨67,(0,0),0,[qB false],none⟩)],2⟩
def ztP4 (f0 f1 f2:Int):PS2:=⟨[(1,.one (qL (.ptr 0 0))),(3,.one (qL (.ptr 1 0))),(4,.one (qI 84238486))],[(0,⟨46,(0,0),0,[qS f0,qS f1,qS f2],none⟩),(1,⟨67,(0,0),0,[qB false],none⟩)],2⟩
def ztP5 (f0 f1 f2 n:Int):PS2:=⟨[(1,.one (qL (.ptr 0 0))),(3,.one (qL (.ptr 1 0))),(4,.one (qI 84238486)),(5,.one (qS n))],[(0,⟨46,(0,0),0,[qS f0,qS f1,qS f2],none⟩),(1,⟨67,(0,0),0,[qO],none⟩)],2⟩
def ztP8 (w0 w1 w2:Int):PS2:=⟨[(3,.one (qL (.ptr 1 0))),(4,.one (qI 84238486)),(6,.one (qL (.ptr 2 0)))],[(1,⟨67,(0,0),0,[qO],none⟩),(2,⟨46,(0,0),0,[qS w0,qS w1,qS w2],none⟩)],3⟩
def ztP9 (w0 w1 w2:Int):PS2:=⟨[(3,.one (qL (.ptr 1 0))),(4,.one (qI 84238486)),(6,.one (qL (.ptr 2 0))),(7,.one (qL (.ptr 32 0)))],ztA w0 w1 w2,33⟩
theorem tob_nil:AllOb []:=fun q h=>by cases h
theorem tob_cons {q:Ob} {l:List Ob} (h:q.ok) (k:AllOb l):AllOb (q::l):=fun x hx=>by
 rcases List.mem_cons.1 hx with rfl | hx
 ·exact h
 ·exact k x hx
def ztD (a b c:Int):Bool:=decide (wr .i64 (4*if wr .i64 (mulV 10529810258 (mulDivV (wr .i64 (0+8000)) 1073741824 1000000) 30 - hypV [a,b,c])>wr .i64 (hypV [a,b,c] - mulV 10529810258 (mulDivV (wr .i64 (0+8000)) 1073741824 1000000) 30) then wr .i64 (mulV 10529810258 (mulDivV (wr .i64 (0+8000)) 1073741824 1000000) 30 - hypV [a,b,c]) else wr .i64 (hypV [a,b,c] - mulV 10529810258 (mulDivV (wr .i64 (0+8000)) 1073741824 1000000) 30))>mulV 10529810258 (mulDivV (wr .i64 (0+8000)) 1073741824 1000000) 30)
theorem zt_g:mulV 10529810258 (mulDivV (wr .i64 (0+8000)) 1073741824 1000000) 30=84238486:=by kernel_rfl
structure ZtH (w0 w1 w2:Int):Prop where
 b0:nb w0 84238487
 b1:nb w1 84238487
 b2:nb w2 84238487
 n1:nb (exN w0 w1 w2 - 84238486) 6
theorem fa2 {x y:Int} (hx:nb x 1099511627776) (hy:nb y 1099511627776):faddV [x,y]=x+y:=by
 show satV (satV x+(satV y+0))=_
 unfold nb at *
 rw [sat_in (a:=x) (by omega) (by omega),sat_in (a:=y) (by omega) (by omega),Int.add_zero,sat_in (by omega) (by omega)]
theorem fa0 {y:Int} (hy:nb y 84238487):faddV [0,y]=y:=by
 rw [fa2 (by unfold nb;omega) (hy.le (by omega)),Int.zero_add]
def faI (x w:Int):Int:=faddV (intL [At.int IntKind.i64 x,At.int IntKind.i64 (faddV (intL [At.int IntKind.i64 0,At.int IntKind.i64 w]))])
theorem faL (x y:Int):faddV (intL [At.int IntKind.i64 x,At.int IntKind.i64 y])=faddV [x,y]:=by kernel_rfl
theorem fak {w x z:Int} (hw:nb w 84238487) (hx:nb x 1099511627776) (hz:x+w=z):faI x w=z:=by
 unfold faI
 rw [faL,faL,fa0 hw,fa2 hx (hw.le (by omega)),hz]
theorem ZtH.hD {w0 w1 w2:Int} (h:ZtH w0 w1 w2):ztD (faddV [0,w0]) (faddV [0,w1]) (faddV [0,w2])=false:=by
 unfold ztD
 rw [fa0 h.b0,fa0 h.b1,fa0 h.b2,hyp_ex,zt_g]
 have:=h.n1
 generalize exN w0 w1 w2=n at *
 unfold nb at this
 refine decide_eq_false ?_
 rw [Go.Lr.w1 (x:=84238486 - n) (by omega),Go.Lr.w1 (x:=n - 84238486) (by omega)]
 split <;> rw [Go.Lr.w1 (by omega)] <;> omega
theorem zt_fabs {d:Int} (h:nb d 84238487):(!decide (fabsV d>34359738368))=true:=by
 unfold nb at h
 have:fabsV d≤34359738368:=by unfold fabsV;split <;> (try split) <;> (try split) <;> omega
 rw [decide_eq_false (by omega)];rfl
theorem ZtH.hG {w0 w1 w2:Int} (h:ZtH w0 w1 w2) {T:Int} (hT:decide (T≥0)=true) (hT2:decide (T≤1125899906842624)=true):goodB T 8000 0 0 0 w0 w1 w2=true:=by
 unfold goodB
 rw [zt_fabs h.b0,zt_fabs h.b1,zt_fabs h.b2,hT,hT2]
 rfl
theorem zt_nn {w:Int} (h:0≤w):0≤rndS w 30:=by
 have b:=(rnd_bd w (30:Int).toNat).1
 rw [show pow2 (30:Int).toNat=1073741824 from rfl] at b
 unfold rndS
 rw [if_neg (by decide),if_neg (by decide)]
 generalize rndV w (30:Int).toNat=r at *
 unfold satV clampV
 (repeat' split) <;> omega
theorem zt_cj (b:Int):wr .i64 (0 - satV (wr .i64 (0 - satV b)))=satV b:=by
 have h:=sat_bd b
 have e1:wr .i64 (0 - satV b) = -satV b:=by rw [Go.Lr.w1 (by omega)];omega
 rw [e1,sat_in (a:= -satV b) (by omega) (by omega),Go.Lr.w1 (by omega)];omega
theorem zt_mq (a b c d:Int):¬mq0 a b c d (satV a) (wr .i64 (0 - satV b)) (wr .i64 (0 - satV c)) (wr .i64 (0 - satV d))<0:=by
 unfold mq0 dotV
 show ¬rndS (satV (satV a)*satV (satV (satV a))+(satV (satV b)*satV (wr .i64 (0 - satV (wr .i64 (0 - satV b))))+(satV (satV c)*satV (wr .i64 (0 - satV (wr .i64 (0 - satV c))))+(satV (satV d)*satV (wr .i64 (0 - satV (wr .i64 (0 - satV d))))+0)))) 30<0
 rw [zt_cj,zt_cj,zt_cj,sat_sat,sat_sat,sat_sat,sat_sat,sat_sat]
 have:=zt_nn (w:=satV a*satV a+(satV b*satV b+(satV c*satV c+(satV d*satV d+0)))) (by
  have:=sqnn0 (satV a);have:=sqnn0 (satV b);have:=sqnn0 (satV c);have:=sqnn0 (satV d);omega)
 omega
def ztC (q0 q1 q2 q3:Int):Bool:=decide (mq0 (bif kunB q0 q1 q2 q3 then q0 else uV0 q0 q1 q2 q3) (bif kunB q0 q1 q2 q3 then q1 else uV1 q0 q1 q2 q3) (bif kunB q0 q1 q2 q3 then q2 else uV2 q0 q1 q2 q3) (bif kunB q0 q1 q2 q3 then q3 else uV3 q0 q1 q2 q3) (satV (bif kunB q0 q1 q2 q3 then q0 else uV0 q0 q1 q2 q3)) (wr .i64 (0 - satV (bif kunB q0 q1 q2 q3 then q1 else uV1 q0 q1 q2 q3))) (wr .i64 (0 - satV (bif kunB q0 q1 q2 q3 then q2 else uV2 q0 q1 q2 q3))) (wr .i64 (0 - satV (bif kunB q0 q1 q2 q3 then q3 else uV3 q0 q1 q2 q3)))<0)
theorem ztC_f (q0 q1 q2 q3:Int):ztC q0 q1 q2 q3=false:=decide_eq_false (zt_mq _ _ _ _)
noncomputable abbrev ztLB:Code:=(c1 (c1 (c2 (c1 (c2 (c2 (c2 (c2 (c2 (c2 (c2 (c2 (c2 ((bodyF Tryz.prog 4)))))))))))))))
noncomputable def GV:FuncId→Option SumK:=moreG G3 26 (narG 1 67 (autoA Tryz.prog KPg Zl 4000 26))
theorem soundGV:Sound Tryz.prog GV:=soundG3.moreG (narG_ok (autoA_ok soundKPg (own_of soundKPg Tryz.func26 (by kernel_rfl))))
noncomputable def GW:FuncId→Option SumK:=moreG GV 10 (autoAD Tryz.prog GV zF 20000 10 (nn 24 (ff 1 [])))
theorem soundGW:Sound Tryz.prog GW:=soundGV.moreG (autoAD_ok soundGV (own_of soundGV Tryz.func10 (by kernel_rfl)))
noncomputable def GY:FuncId→Option SumK:=moreG GV 65 (autoAD Tryz.prog K33u Zl 4000 65 (nn 5 (ff 1 (nn 1 (ff 1 (nn 1 (ff 1 [])))))))
theorem soundGY:Sound Tryz.prog GY:=soundGV.moreG (autoAD_ok soundK33u (own_of soundK33u Tryz.func65 (by kernel_rfl)))
noncomputable def GZ:FuncId→Option SumK:=moreG GY 10 (autoAD Tryz.prog GY zF 20000 10 (nn 24 (ff 1 [])))
theorem soundGZ:Sound Tryz.prog GZ:=soundGY.moreG (autoAD_ok soundGY (own_of soundGY Tryz.func10 (by kernel_rfl)))
noncomputable def GAt:FuncId→Option SumK:=more G3 6 (pureSum awkS)
theorem soundGAt:Sound Tryz.prog GAt:=soundG3.more sumAwk
theorem ztN0 (s:Asg) {f0 f1 f2:Int}:ToP Tryz.prog 121 (c1 ((bodyF Tryz.prog 4))) (filS2 s (ztP0 f0 f1 f2)) .normal (Fil2 (ztP1 f0 f1 f2)):=by
 exact ToP.run2 (z:=zF) (n:=20000) (dec:=[]) (mask:=[]) (os:=([])) (es:=[.oi f0 f0,.oi f1 f1,.oi f2 f2]) soundGAt (fun dead=>by kernel_rfl) ae_nil (tob_cons rfl (tob_cons rfl (tob_cons rfl tob_nil))) (fun s=>canB_ok (by kernel_rfl)) (by kernel_rfl)
theorem ztN1 (s:Asg) {f0 f1 f2:Int}:ToP Tryz.prog 121 (c1 (c2 ((bodyF Tryz.prog 4)))) (filS2 s (ztP1 f0 f1 f2)) .normal (Fil2 (ztP1 f0 f1 f2)):=by
 exact ToP.run2 (z:=zF) (n:=20000) (dec:=[]) (mask:=[]) (os:=([])) (es:=[.oi f0 f0,.oi f1 f1,.oi f2 f2]) soundGAt (fun dead=>by kernel_rfl) ae_nil (tob_cons rfl (tob_cons rfl (tob_cons rfl tob_nil))) (fun s=>canB_ok (by kernel_rfl)) (by kernel_rfl)
theorem ztN2 (s:Asg) {f0 f1 f2:Int}:ToP Tryz.prog 121 (c1 (c2 (c2 ((bodyF Tryz.prog 4))))) (filS2 s (ztP1 f0 f1 f2)) .normal (Fil2 (ztP3 f0 f1 f2)):=by
 exact ToP.run2 (z:=zF) (n:=20000) (dec:=[]) (mask:=[]) (os:=([])) (es:=[.oi f0 f0,.oi f1 f1,.oi f2 f2]) soundG3 (fun dead=>by kernel_rfl) ae_nil (tob_cons rfl (tob_cons rfl (tob_cons rfl tob_nil))) (fun s=>canB_ok (by kernel_rfl)) (by kernel_rfl)
theorem ztN3 (s:Asg) {f0 f1 f2:Int}:ToP Tryz.prog 121 (c1 (c2 (c2 (c2 ((bodyF Tryz.prog 4)))))) (filS2 s (ztP3 f0 f1 f2)) .normal (Fil2 (ztP4 f0 f1 f2)):=by
 exact ToP.run2 (z:=zF) (n:=20000) (dec:=[]) (mask:=[false]) (os:=([])) (es:=[.oi f0 f0,.oi f1 f1,.oi f2 f2]) soundG3 (fun dead=>by kernel_rfl) ae_nil (tob_cons rfl (tob_cons rfl (tob_cons rfl tob_nil))) (fun s=>canB_ok (by kernel_rfl)) (by kernel_rfl)
theorem ztN4 (s:Asg) {f0 f1 f2:Int}:ToP Tryz.prog 121 (c1 (c2 (c2 (c2 (c2 ((bodyF Tryz.prog 4))))))) (filS2 s (ztP4 f0 f1 f2)) .normal (Fil2 (ztP5 f0 f1 f2 (hypV [f0,f1,f2]))):=by
 exact ToP.run2 (z:=zF) (n:=20000) (dec:=[]) (mask:=[]) (os:=([])) (es:=[.oi (hypV [f0,f1,f2]) (hypV [f0,f1,f2]),.oi f0 f0,.oi f1 f1,.oi f2 f2]) soundG3 (fun dead=>by kernel_rfl) ae_nil (tob_cons rfl (tob_cons rfl (tob_cons rfl (tob_cons rfl tob_nil)))) (fun s=>canB_ok (by kernel_rfl)) (by kernel_rfl)
theorem ztN5 (s:Asg) {f0 f1 f2 n:Int} (h0:16777216≤n) (h1:n≤1099511627776):ToP Tryz.prog 121 (c1 (c2 (c2 (c2 (c2 (c2 ((bodyF Tryz.prog 4)))))))) (filS2 s (ztP5 f0 f1 f2 n)) .normal (Fil2 (ztP5 f0 f1 f2 n)):=by
 exact ToP.run2 (z:=zF) (n:=20000) (dec:=(ff 4 [])) (mask:=[true,true,true,true]) (os:=((decide (n>1099511627776),false)::ra 3 (decide (n<16777216),false) [])) (es:=[.oi n n,.oi f0 f0,.oi f1 f1,.oi f2 f2]) soundG3 (fun dead=>by kernel_rfl) (ae_cons (decide_eq_false (by omega)) (ra_ok (decide_eq_false (by omega)) ae_nil _)) (tob_cons rfl (tob_cons rfl (tob_cons rfl (tob_cons rfl tob_nil)))) (fun s=>canB_ok (by kernel_rfl)) (by kernel_rfl)
theorem ztN5a (s:Asg) {f0 f1 f2 n:Int} (h0:n<16777216):ToP Tryz.prog 121 (c1 (c2 (c2 (c2 (c2 (c2 ((bodyF Tryz.prog 4)))))))) (filS2 s (ztP5 f0 f1 f2 n)) .ret (Fil2 (ztR 2)):=by
 exact ToP.run2 (z:=zF) (n:=20000) (dec:=(tt 3 (nn 1 []))) (mask:=[true,true,true]) (os:=(ra 3 (decide (n<16777216),true) [])) (es:=[.oa (.bool true) (.bool true)]) soundG3 (fun dead=>by kernel_rfl) (ra_ok (decide_eq_true (by omega)) ae_nil _) (tob_cons rfl tob_nil) (fun s=>canB_ok (by kernel_rfl)) (by kernel_rfl)
theorem ztN5b (s:Asg) {f0 f1 f2 n:Int} (h0:16777216≤n) (h1:n>1099511627776):ToP Tryz.prog 121 (c1 (c2 (c2 (c2 (c2 (c2 ((bodyF Tryz.prog 4)))))))) (filS2 s (ztP5 f0 f1 f2 n)) .ret (Fil2 (ztR 2)):=by
 exact ToP.run2 (z:=zF) (n:=20000) (dec:=(ff 3 (tt 1 []))) (mask:=[true,true,true,true]) (os:=((decide (n>1099511627776),true)::ra 3 (decide (n<16777216),false) [])) (es:=[.oa (.bool true) (.bool true)]) soundG3 (fun dead=>by kernel_rfl) (ae_cons (decide_eq_true (by omega)) (ra_ok (decide_eq_false (by omega)) ae_nil _)) (tob_cons rfl tob_nil) (fun s=>canB_ok (by kernel_rfl)) (by kernel_rfl)
theorem ztN6 (s:Asg) {f0 f1 f2 n:Int}:ToP Tryz.prog 121 (c1 (c2 (c2 (c2 (c2 (c2 (c2 ((bodyF Tryz.prog 4))))))))) (filS2 s (ztP5 f0 f1 f2 n)) .normal (Fil2 (ztP8 (mulDivV f0 84238486 n) (mulDivV f1 84238486 n) (mulDivV f2 84238486 n))):=by
 exact ToP.run2 (z:=zF) (n:=20000) (dec:=[]) (mask:=[]) (os:=([])) (es:=[.oi (mulDivV f0 84238486 n) (mulDivV f0 84238486 n),.oi (mulDivV f1 84238486 n) (mulDivV f1 84238486 n),.oi (mulDivV f2 84238486 n) (mulDivV f2 84238486 n)]) soundG3 (fun dead=>by kernel_rfl) ae_nil (tob_cons rfl (tob_cons rfl (tob_cons rfl tob_nil))) (fun s=>canB_ok (by kernel_rfl)) (by kernel_rfl)
theorem ztN7 (s:Asg) {w0 w1 w2:Int}:ToP Tryz.prog 121 (c1 (c2 (c2 (c2 (c2 (c2 (c2 (c2 ((bodyF Tryz.prog 4)))))))))) (filS2 s (ztP8 w0 w1 w2)) .normal (Fil2 (ztP9 w0 w1 w2)):=by
 exact ToP.run2 (z:=zF) (n:=20000) (dec:=[]) (mask:=[]) (os:=([])) (es:=[.oi w0 w0,.oi w1 w1,.oi w2 w2]) soundG3 (fun dead=>by kernel_rfl) ae_nil (tob_cons rfl (tob_cons rfl (tob_cons rfl tob_nil))) (fun s=>canB_ok (by kernel_rfl)) (by kernel_rfl)
theorem ztN8 (s:Asg) {w0 w1 w2:Int}:ToP Tryz.prog 121 (c1 (c2 (c2 (c2 (c2 (c2 (c2 (c2 (c2 ((bodyF Tryz.prog 4))))))))))) (filS2 s (ztP9 w0 w1 w2)) .normal (Fil2 (ztP9 w0 w1 w2)):=by
 exact ToP.run2 (z:=zF) (n:=20000) (dec:=[]) (mask:=[]) (os:=([])) (es:=[.oi w0 w0,.oi w1 w1,.oi w2 w2]) soundG3 (fun dead=>by kernel_rfl) ae_nil (tob_cons rfl (tob_cons rfl (tob_cons rfl tob_nil))) (fun s=>canB_ok (by kernel_rfl)) (by kernel_rfl)
theorem ztN9 (s:Asg) {w0 w1 w2:Int}:ToP Tryz.prog 121 (c1 (c1 (c2 (c2 (c2 (c2 (c2 (c2 (c2 (c2 (c2 ((bodyF Tryz.prog 4))))))))))))) (filS2 s (ztP9 w0 w1 w2)) .normal (Fil2 (ztB w0 w1 w2)):=by
 exact ToP.run2 (z:=zF) (n:=20000) (dec:=[]) (mask:=[]) (os:=([])) (es:=[.oi w0 w0,.oi w1 w1,.oi w2 w2]) soundG3 (fun dead=>by kernel_rfl) ae_nil (tob_cons rfl (tob_cons rfl (tob_cons rfl tob_nil))) (fun s=>canB_ok (by kernel_rfl)) (by kernel_rfl)
theorem ztR1 (s:Asg) {w0 w1 w2:Int} (h:ZtH w0 w1 w2):ToP Tryz.prog 121 ztLB (filS2 s (ztB w0 w1 w2)) .normal (Fil2 (ztS 54 62 1 w0 w1 w2)):=by
 exact ToP.run2 (z:=zF) (n:=20000) (dec:=[]) (mask:=(mskC 9 (mskO 1 (mskC 19 (mskO 1 []))))) (os:=((ztD (faddV [0,w0]) (faddV [0,w1]) (faddV [0,w2]),false)::(goodB (wr .i64 (8000*1)) 8000 0 0 0 w0 w1 w2,true)::[])) (es:=[.oi w0 w0,.oi w1 w1,.oi w2 w2,.oi (faI 0 w0) (1*w0),.oi (faI 0 w1) (1*w1),.oi (faI 0 w2) (1*w2)]) soundGW (fun dead=>by kernel_rfl) (ae_cons h.hD (ae_cons (h.hG (by kernel_rfl) (by kernel_rfl)) ae_nil)) (tob_cons rfl (tob_cons rfl (tob_cons rfl (tob_cons (fak h.b0 (by have:=h.b0;unfold nb at *;omega) (by omega)) (tob_cons (fak h.b1 (by have:=h.b1;unfold nb at *;omega) (by omega)) (tob_cons (fak h.b2 (by have:=h.b2;unfold nb at *;omega) (by omega)) tob_nil)))))) (fun s=>canB_ok (by kernel_rfl)) (by kernel_rfl)
theorem ztR2 (s:Asg) {w0 w1 w2:Int} (h:ZtH w0 w1 w2):ToP Tryz.prog 121 ztLB (filS2 s (ztS 54 62 1 w0 w1 w2)) .normal (Fil2 (ztS 83 91 2 w0 w1 w2)):=by
 exact ToP.run2 (z:=zF) (n:=20000) (dec:=[]) (mask:=(mskC 9 (mskO 1 (mskC 19 (mskO 1 []))))) (os:=((ztD (faddV [0,w0]) (faddV [0,w1]) (faddV [0,w2]),false)::(goodB (wr .i64 (8000*2)) 8000 0 0 0 w0 w1 w2,true)::[])) (es:=[.oi w0 w0,.oi w1 w1,.oi w2 w2,.oi (faI (1*w0) w0) (2*w0),.oi (faI (1*w1) w1) (2*w1),.oi (faI (1*w2) w2) (2*w2)]) soundGW (fun dead=>by kernel_rfl) (ae_cons h.hD (ae_cons (h.hG (by kernel_rfl) (by kernel_rfl)) ae_nil)) (tob_cons rfl (tob_cons rfl (tob_cons rfl (tob_cons (fak h.b0 (by have:=h.b0;unfold nb at *;omega) (by omega)) (tob_cons (fak h.b1 (by have:=h.b1;unfold nb at *;omega) (by omega)) (tob_cons (fak h.b2 (by have:=h.b2;unfold nb at *;omega) (by omega)) tob_nil)))))) (fun s=>canB_ok (by kernel_rfl)) (by kernel_rfl)
theorem ztR3 (s:Asg) {w0 w1 w2:Int} (h:ZtH w0 w1 w2):ToP Tryz.prog 121 ztLB (filS2 s (ztS 83 91 2 w0 w1 w2)) .normal (Fil2 (ztS 112 120 3 w0 w1 w2)):=by
 exact ToP.run2 (z:=zF) (n:=20000) (dec:=[]) (mask:=(mskC 9 (mskO 1 (mskC 19 (mskO 1 []))))) (os:=((ztD (faddV [0,w0]) (faddV [0,w1]) (faddV [0,w2]),false)::(goodB (wr .i64 (8000*3)) 8000 0 0 0 w0 w1 w2,true)::[])) (es:=[.oi w0 w0,.oi w1 w1,.oi w2 w2,.oi (faI (2*w0) w0) (3*w0),.oi (faI (2*w1) w1) (3*w1),.oi (faI (2*w2) w2) (3*w2)]) soundGW (fun dead=>by kernel_rfl) (ae_cons h.hD (ae_cons (h.hG (by kernel_rfl) (by kernel_rfl)) ae_nil)) (tob_cons rfl (tob_cons rfl (tob_cons rfl (tob_cons (fak h.b0 (by have:=h.b0;unfold nb at *;omega) (by omega)) (tob_cons (fak h.b1 (by have:=h.b1;unfold nb at *;omega) (by omega)) (tob_cons (fak h.b2 (by have:=h.b2;unfold nb at *;omega) (by omega)) tob_nil)))))) (fun s=>canB_ok (by kernel_rfl)) (by kernel_rfl)
theorem ztR4 (s:Asg) {w0 w1 w2:Int} (h:ZtH w0 w1 w2):ToP Tryz.prog 121 ztLB (filS2 s (ztS 112 120 3 w0 w1 w2)) .normal (Fil2 (ztS 141 149 4 w0 w1 w2)):=by
 exact ToP.run2 (z:=zF) (n:=20000) (dec:=[]) (mask:=(mskC 9 (mskO 1 (mskC 19 (mskO 1 []))))) (os:=((ztD (faddV [0,w0]) (faddV [0,w1]) (faddV [0,w2]),false)::(goodB (wr .i64 (8000*4)) 8000 0 0 0 w0 w1 w2,true)::[])) (es:=[.oi w0 w0,.oi w1 w1,.oi w2 w2,.oi (faI (3*w0) w0) (4*w0),.oi (faI (3*w1) w1) (4*w1),.oi (faI (3*w2) w2) (4*w2)]) soundGW (fun dead=>by kernel_rfl) (ae_cons h.hD (ae_cons (h.hG (by kernel_rfl) (by kernel_rfl)) ae_nil)) (tob_cons rfl (tob_cons rfl (tob_cons rfl (tob_cons (fak h.b0 (by have:=h.b0;unfold nb at *;omega) (by omega)) (tob_cons (fak h.b1 (by have:=h.b1;unfold nb at *;omega) (by omega)) (tob_cons (fak h.b2 (by have:=h.b2;unfold nb at *;omega) (by omega)) tob_nil)))))) (fun s=>canB_ok (by kernel_rfl)) (by kernel_rfl)
theorem ztR5 (s:Asg) {w0 w1 w2:Int} (h:ZtH w0 w1 w2):ToP Tryz.prog 121 ztLB (filS2 s (ztS 141 149 4 w0 w1 w2)) .normal (Fil2 (ztS 170 178 5 w0 w1 w2)):=by
 exact ToP.run2 (z:=zF) (n:=20000) (dec:=[]) (mask:=(mskC 9 (mskO 1 (mskC 19 (mskO 1 []))))) (os:=((ztD (faddV [0,w0]) (faddV [0,w1]) (faddV [0,w2]),false)::(goodB (wr .i64 (8000*5)) 8000 0 0 0 w0 w1 w2,true)::[])) (es:=[.oi w0 w0,.oi w1 w1,.oi w2 w2,.oi (faI (4*w0) w0) (5*w0),.oi (faI (4*w1) w1) (5*w1),.oi (faI (4*w2) w2) (5*w2)]) soundGW (fun dead=>by kernel_rfl) (ae_cons h.hD (ae_cons (h.hG (by kernel_rfl) (by kernel_rfl)) ae_nil)) (tob_cons rfl (tob_cons rfl (tob_cons rfl (tob_cons (fak h.b0 (by have:=h.b0;unfold nb at *;omega) (by omega)) (tob_cons (fak h.b1 (by have:=h.b1;unfold nb at *;omega) (by omega)) (tob_cons (fak h.b2 (by have:=h.b2;unfold nb at *;omega) (by omega)) tob_nil)))))) (fun s=>canB_ok (by kernel_rfl)) (by kernel_rfl)
theorem ztR6 (s:Asg) {w0 w1 w2:Int} (h:ZtH w0 w1 w2):ToP Tryz.prog 121 ztLB (filS2 s (ztS 170 178 5 w0 w1 w2)) .normal (Fil2 (ztS 199 207 6 w0 w1 w2)):=by
 exact ToP.run2 (z:=zF) (n:=20000) (dec:=[]) (mask:=(mskC 9 (mskO 1 (mskC 19 (mskO 1 []))))) (os:=((ztD (faddV [0,w0]) (faddV [0,w1]) (faddV [0,w2]),false)::(goodB (wr .i64 (8000*6)) 8000 0 0 0 w0 w1 w2,true)::[])) (es:=[.oi w0 w0,.oi w1 w1,.oi w2 w2,.oi (faI (5*w0) w0) (6*w0),.oi (faI (5*w1) w1) (6*w1),.oi (faI (5*w2) w2) (6*w2)]) soundGW (fun dead=>by kernel_rfl) (ae_cons h.hD (ae_cons (h.hG (by kernel_rfl) (by kernel_rfl)) ae_nil)) (tob_cons rfl (tob_cons rfl (tob_cons rfl (tob_cons (fak h.b0 (by have:=h.b0;unfold nb at *;omega) (by omega)) (tob_cons (fak h.b1 (by have:=h.b1;unfold nb at *;omega) (by omega)) (tob_cons (fak h.b2 (by have:=h.b2;unfold nb at *;omega) (by omega)) tob_nil)))))) (fun s=>canB_ok (by kernel_rfl)) (by kernel_rfl)
theorem ztR7 (s:Asg) {w0 w1 w2:Int} (h:ZtH w0 w1 w2):ToP Tryz.prog 121 ztLB (filS2 s (ztS 199 207 6 w0 w1 w2)) .normal (Fil2 (ztS 228 236 7 w0 w1 w2)):=by
 exact ToP.run2 (z:=zF) (n:=20000) (dec:=[]) (mask:=(mskC 9 (mskO 1 (mskC 19 (mskO 1 []))))) (os:=((ztD (faddV [0,w0]) (faddV [0,w1]) (faddV [0,w2]),false)::(goodB (wr .i64 (8000*7)) 8000 0 0 0 w0 w1 w2,true)::[])) (es:=[.oi w0 w0,.oi w1 w1,.oi w2 w2,.oi (faI (6*w0) w0) (7*w0),.oi (faI (6*w1) w1) (7*w1),.oi (faI (6*w2) w2) (7*w2)]) soundGW (fun dead=>by kernel_rfl) (ae_cons h.hD (ae_cons (h.hG (by kernel_rfl) (by kernel_rfl)) ae_nil)) (tob_cons rfl (tob_cons rfl (tob_cons rfl (tob_cons (fak h.b0 (by have:=h.b0;unfold nb at *;omega) (by omega)) (tob_cons (fak h.b1 (by have:=h.b1;unfold nb at *;omega) (by omega)) (tob_cons (fak h.b2 (by have:=h.b2;unfold nb at *;omega) (by omega)) tob_nil)))))) (fun s=>canB_ok (by kernel_rfl)) (by kernel_rfl)
theorem ztR8 (s:Asg) {w0 w1 w2:Int} (h:ZtH w0 w1 w2):ToP Tryz.prog 121 ztLB (filS2 s (ztS 228 236 7 w0 w1 w2)) .normal (Fil2 (ztS 257 265 8 w0 w1 w2)):=by
 exact ToP.run2 (z:=zF) (n:=20000) (dec:=[]) (mask:=(mskC 9 (mskO 1 (mskC 19 (mskO 1 []))))) (os:=((ztD (faddV [0,w0]) (faddV [0,w1]) (faddV [0,w2]),false)::(goodB (wr .i64 (8000*8)) 8000 0 0 0 w0 w1 w2,true)::[])) (es:=[.oi w0 w0,.oi w1 w1,.oi w2 w2,.oi (faI (7*w0) w0) (8*w0),.oi (faI (7*w1) w1) (8*w1),.oi (faI (7*w2) w2) (8*w2)]) soundGW (fun dead=>by kernel_rfl) (ae_cons h.hD (ae_cons (h.hG (by kernel_rfl) (by kernel_rfl)) ae_nil)) (tob_cons rfl (tob_cons rfl (tob_cons rfl (tob_cons (fak h.b0 (by have:=h.b0;unfold nb at *;omega) (by omega)) (tob_cons (fak h.b1 (by have:=h.b1;unfold nb at *;omega) (by omega)) (tob_cons (fak h.b2 (by have:=h.b2;unfold nb at *;omega) (by omega)) tob_nil)))))) (fun s=>canB_ok (by kernel_rfl)) (by kernel_rfl)
theorem ztR9 (s:Asg) {w0 w1 w2:Int} (h:ZtH w0 w1 w2):ToP Tryz.prog 121 ztLB (filS2 s (ztS 257 265 8 w0 w1 w2)) .normal (Fil2 (ztS 286 294 9 w0 w1 w2)):=by
 exact ToP.run2 (z:=zF) (n:=20000) (dec:=[]) (mask:=(mskC 9 (mskO 1 (mskC 19 (mskO 1 []))))) (os:=((ztD (faddV [0,w0]) (faddV [0,w1]) (faddV [0,w2]),false)::(goodB (wr .i64 (8000*9)) 8000 0 0 0 w0 w1 w2,true)::[])) (es:=[.oi w0 w0,.oi w1 w1,.oi w2 w2,.oi (faI (8*w0) w0) (9*w0),.oi (faI (8*w1) w1) (9*w1),.oi (faI (8*w2) w2) (9*w2)]) soundGW (fun dead=>by kernel_rfl) (ae_cons h.hD (ae_cons (h.hG (by kernel_rfl) (by kernel_rfl)) ae_nil)) (tob_cons rfl (tob_cons rfl (tob_cons rfl (tob_cons (fak h.b0 (by have:=h.b0;unfold nb at *;omega) (by omega)) (tob_cons (fak h.b1 (by have:=h.b1;unfold nb at *;omega) (by omega)) (tob_cons (fak h.b2 (by have:=h.b2;unfold nb at *;omega) (by omega)) tob_nil)))))) (fun s=>canB_ok (by kernel_rfl)) (by kernel_rfl)
theorem ztR10 (s:Asg) {w0 w1 w2:Int} (h:ZtH w0 w1 w2):ToP Tryz.prog 121 ztLB (filS2 s (ztS 286 294 9 w0 w1 w2)) .normal (Fil2 (ztT w0 w1 w2 (tV0 (10*w0) (10*w1) (10*w2)) (tV1 (10*w0) (10*w1) (10*w2)) (tV2 (10*w0) (10*w1) (10*w2)) (tV3 (10*w0) (10*w1) (10*w2)))):=by
 have e0:faI (9*w0) w0=10*w0:=fak h.b0 (by have:=h.b0;unfold nb at *;omega) (by omega)
 have e1:faI (9*w1) w1=10*w1:=fak h.b1 (by have:=h.b1;unfold nb at *;omega) (by omega)
 have e2:faI (9*w2) w2=10*w2:=fak h.b2 (by have:=h.b2;unfold nb at *;omega) (by omega)
 exact ToP.run2 (z:=zF) (n:=20000) (dec:=[]) (mask:=(mskC 18 (mskO 3 (mskC 9 (mskO 1 (mskC 19 (mskO 1 []))))))) (os:=(ra 3 (ztC (tV0 (faI (9*w0) w0) (faI (9*w1) w1) (faI (9*w2) w2)) (tV1 (faI (9*w0) w0) (faI (9*w1) w1) (faI (9*w2) w2)) (tV2 (faI (9*w0) w0) (faI (9*w1) w1) (faI (9*w2) w2)) (tV3 (faI (9*w0) w0) (faI (9*w1) w1) (faI (9*w2) w2)),false) ((ztD (faddV [0,w0]) (faddV [0,w1]) (faddV [0,w2]),false)::(goodB (wr .i64 (8000*10)) 8000 0 0 0 w0 w1 w2,true)::[]))) (es:=[.oi w0 w0,.oi w1 w1,.oi w2 w2,.oi (tV0 (faI (9*w0) w0) (faI (9*w1) w1) (faI (9*w2) w2)) (tV0 (10*w0) (10*w1) (10*w2)),.oi (tV1 (faI (9*w0) w0) (faI (9*w1) w1) (faI (9*w2) w2)) (tV1 (10*w0) (10*w1) (10*w2)),.oi (tV2 (faI (9*w0) w0) (faI (9*w1) w1) (faI (9*w2) w2)) (tV2 (10*w0) (10*w1) (10*w2)),.oi (tV3 (faI (9*w0) w0) (faI (9*w1) w1) (faI (9*w2) w2)) (tV3 (10*w0) (10*w1) (10*w2))]) soundGZ (fun dead=>by kernel_rfl) (ra_ok (ztC_f _ _ _ _) (ae_cons h.hD (ae_cons (h.hG (by kernel_rfl) (by kernel_rfl)) ae_nil)) _) (tob_cons rfl (tob_cons rfl (tob_cons rfl (tob_cons (show _=_ by rw [e0,e1,e2]) (tob_cons (show _=_ by rw [e0,e1,e2]) (tob_cons (show _=_ by rw [e0,e1,e2]) (tob_cons (show _=_ by rw [e0,e1,e2]) tob_nil))))))) (fun s=>canB_ok (by kernel_rfl)) (by kernel_rfl)
theorem ztX_ (s:Asg) {w0 w1 w2 a0 a1 a2 a3:Int}:ToP Tryz.prog 121 ztLB (filS2 s (ztT w0 w1 w2 a0 a1 a2 a3)) (.exit 0) (Fil2 (ztX w0 w1 w2 a0 a1 a2 a3)):=by
 exact ToP.run2 (z:=zF) (n:=20000) (dec:=[]) (mask:=[]) (os:=([])) (es:=[.oi w0 w0,.oi w1 w1,.oi w2 w2,.oi a0 a0,.oi a1 a1,.oi a2 a2,.oi a3 a3]) soundGV (fun dead=>by kernel_rfl) ae_nil (tob_cons rfl (tob_cons rfl (tob_cons rfl (tob_cons rfl (tob_cons rfl (tob_cons rfl (tob_cons rfl tob_nil))))))) (fun s=>canB_ok (by kernel_rfl)) (by kernel_rfl)
theorem ztY_ (s:Asg) {w0 w1 w2 a0 a1 a2 a3:Int}:ToP Tryz.prog 121 (c1 (c2 (c2 (c2 (c2 (c2 (c2 (c2 (c2 (c2 (c2 ((bodyF Tryz.prog 4))))))))))))) (filS2 s (ztX w0 w1 w2 a0 a1 a2 a3)) .normal (Fil2 (ztYs w0 w1 w2 a0 a1 a2 a3)):=by
 exact ToP.run2 (z:=zF) (n:=20000) (dec:=[]) (mask:=[]) (os:=([])) (es:=[.oi w0 w0,.oi w1 w1,.oi w2 w2,.oi a0 a0,.oi a1 a1,.oi a2 a2,.oi a3 a3]) soundG3 (fun dead=>by kernel_rfl) ae_nil (tob_cons rfl (tob_cons rfl (tob_cons rfl (tob_cons rfl (tob_cons rfl (tob_cons rfl (tob_cons rfl tob_nil))))))) (fun s=>canB_ok (by kernel_rfl)) (by kernel_rfl)
theorem ztW_ (s:Asg) {w0 w1 w2 a0 a1 a2 a3:Int}:ToP Tryz.prog 121 (c1 (c2 (c2 (c2 (c2 (c2 (c2 (c2 (c2 (c2 (c2 (c2 ((bodyF Tryz.prog 4)))))))))))))) (filS2 s (ztYs w0 w1 w2 a0 a1 a2 a3)) .normal (Fil2 (ztWs (dotV 30 [rm0 (satV a0) (satV a1) (satV a2) (satV a3),rm1 (satV a0) (satV a1) (satV a2) (satV a3),rm2 (satV a0) (satV a1) (satV a2) (satV a3)] [w0,w1,w2]) (dotV 30 [rm3 (satV a0) (satV a1) (satV a2) (satV a3),rm4 (satV a0) (satV a1) (satV a2) (satV a3),rm5 (satV a0) (satV a1) (satV a2) (satV a3)] [w0,w1,w2]) (dotV 30 [rm6 (satV a0) (satV a1) (satV a2) (satV a3),rm7 (satV a0) (satV a1) (satV a2) (satV a3),rm8 (satV a0) (satV a1) (satV a2) (satV a3)] [w0,w1,w2]))):=by
 exact ToP.run2 (z:=zF) (n:=20000) (dec:=[]) (mask:=[]) (os:=([])) (es:=[.oi (dotV 30 [rm0 (satV a0) (satV a1) (satV a2) (satV a3),rm1 (satV a0) (satV a1) (satV a2) (satV a3),rm2 (satV a0) (satV a1) (satV a2) (satV a3)] [w0,w1,w2]) (dotV 30 [rm0 (satV a0) (satV a1) (satV a2) (satV a3),rm1 (satV a0) (satV a1) (satV a2) (satV a3),rm2 (satV a0) (satV a1) (satV a2) (satV a3)] [w0,w1,w2]),.oi (dotV 30 [rm3 (satV a0) (satV a1) (satV a2) (satV a3),rm4 (satV a0) (satV a1) (satV a2) (satV a3),rm5 (satV a0) (satV a1) (satV a2) (satV a3)] [w0,w1,w2]) (dotV 30 [rm3 (satV a0) (satV a1) (satV a2) (satV a3),rm4 (satV a0) (satV a1) (satV a2) (satV a3),rm5 (satV a0) (satV a1) (satV a2) (satV a3)] [w0,w1,w2]),.oi (dotV 30 [rm6 (satV a0) (satV a1) (satV a2) (satV a3),rm7 (satV a0) (satV a1) (satV a2) (satV a3),rm8 (satV a0) (satV a1) (satV a2) (satV a3)] [w0,w1,w2]) (dotV 30 [rm6 (satV a0) (satV a1) (satV a2) (satV a3),rm7 (satV a0) (satV a1) (satV a2) (satV a3),rm8 (satV a0) (satV a1) (satV a2) (satV a3)] [w0,w1,w2])]) soundG3 (fun dead=>by kernel_rfl) ae_nil (tob_cons rfl (tob_cons rfl (tob_cons rfl tob_nil))) (fun s=>canB_ok (by kernel_rfl)) (by kernel_rfl)
theorem zt_fab {y:Int} (h:nb y 262144):fabsV y≤262144:=by
 unfold nb at h
 unfold fabsV
 split <;> (try split) <;> (try split) <;> omega
theorem ztZ (s:Asg) {y0 y1 y2:Int} (h2:nb (y2+84238486) 65536) (h0:nb y0 262144) (h1:nb y1 262144):ToP Tryz.prog 121 (c2 (c2 (c2 (c2 (c2 (c2 (c2 (c2 (c2 (c2 (c2 (c2 ((bodyF Tryz.prog 4)))))))))))))) (filS2 s (ztWs y0 y1 y2)) .ret (Fil2 (ztR 347)):=by
 exact ToP.run2 (z:=zF) (n:=20000) (dec:=(nn 5 (tt 6 (nn 1 (tt 10 []))))) (mask:=(mskO 16 [])) (os:=(ra 5 (decide (fabsV y0≤262144),true) (ra 5 (decide (wr IntKind.i64 (wr IntKind.i64 (0 - 84238486) - y2)≤65536),true) (ra 6 (decide (wr IntKind.i64 (y2 - wr IntKind.i64 (0 - 84238486))≤65536),true) [])))) (es:=[.oa (.bool (decide (fabsV y1≤262144))) (.bool true)]) soundG3 (fun dead=>by kernel_rfl) (ra_ok (decide_eq_true (zt_fab h0)) (ra_ok (decide_eq_true (by rw [Go.Lr.w1 (x:=0 - 84238486) (by omega),Go.Lr.w1 (by unfold nb at h2;omega)];unfold nb at h2;omega)) (ra_ok (decide_eq_true (by rw [Go.Lr.w1 (x:=0 - 84238486) (by omega),Go.Lr.w1 (by unfold nb at h2;omega)];unfold nb at h2;omega)) ae_nil _) _) _) (tob_cons (show At.bool _=At.bool true by rw [decide_eq_true (zt_fab h1)]) tob_nil) (fun s=>canB_ok (by kernel_rfl)) (by kernel_rfl)
theorem ztLoop (s:Asg) {w0 w1 w2:Int} (h:ZtH w0 w1 w2):RdR Tryz.prog 121 0 ztLB 11 (filS2 s (ztB w0 w1 w2)) (.exit 0) (Fil2 (ztX w0 w1 w2 (tV0 (10*w0) (10*w1) (10*w2)) (tV1 (10*w0) (10*w1) (10*w2)) (tV2 (10*w0) (10*w1) (10*w2)) (tV3 (10*w0) (10*w1) (10*w2)))):=by
 refine RdR.next (ToR.of_ToP (ztR1 s h) (by kernel_rfl)) ?_
 rintro x ⟨s,rfl⟩
 refine RdR.next (ToR.of_ToP (ztR2 s h) (by kernel_rfl)) ?_
 rintro x ⟨s,rfl⟩
 refine RdR.next (ToR.of_ToP (ztR3 s h) (by kernel_rfl)) ?_
 rintro x ⟨s,rfl⟩
 refine RdR.next (ToR.of_ToP (ztR4 s h) (by kernel_rfl)) ?_
 rintro x ⟨s,rfl⟩
 refine RdR.next (ToR.of_ToP (ztR5 s h) (by kernel_rfl)) ?_
 rintro x ⟨s,rfl⟩
 refine RdR.next (ToR.of_ToP (ztR6 s h) (by kernel_rfl)) ?_
 rintro x ⟨s,rfl⟩
 refine RdR.next (ToR.of_ToP (ztR7 s h) (by kernel_rfl)) ?_
 rintro x ⟨s,rfl⟩
 refine RdR.next (ToR.of_ToP (ztR8 s h) (by kernel_rfl)) ?_
 rintro x ⟨s,rfl⟩
 refine RdR.next (ToR.of_ToP (ztR9 s h) (by kernel_rfl)) ?_
 rintro x ⟨s,rfl⟩
 refine RdR.next (ToR.of_ToP (ztR10 s h) (by kernel_rfl)) ?_
 rintro x ⟨s,rfl⟩
 exact RdR.last (by simp) (ToR.of_ToP (ztX_ s) (by kernel_rfl))
theorem ztAll (s:Asg) {f0 f1 f2:Int}:ToR Tryz.prog 121 0 (bodyF Tryz.prog 4) (filS2 s (ztP0 f0 f1 f2)) .ret (fun x=>∃s j,x=filS2 s (ztR j)):=by
 refine ToR.seq (by kernel_rfl) (ToR.of_ToP (ztN0 s) (by kernel_rfl)) ?_
 rintro x ⟨s,rfl⟩
 refine ToR.seq (by kernel_rfl) (ToR.of_ToP (ztN1 s) (by kernel_rfl)) ?_
 rintro x ⟨s,rfl⟩
 refine ToR.seq (by kernel_rfl) (ToR.of_ToP (ztN2 s) (by kernel_rfl)) ?_
 rintro x ⟨s,rfl⟩
 refine ToR.seq (by kernel_rfl) (ToR.of_ToP (ztN3 s) (by kernel_rfl)) ?_
 rintro x ⟨s,rfl⟩
 refine ToR.seq (by kernel_rfl) (ToR.of_ToP (ztN4 s) (by kernel_rfl)) ?_
 rintro x ⟨s,rfl⟩
 by_cases h0:hypV [f0,f1,f2]<16777216
 ·exact ToR.seq_out (by kernel_rfl) (by simp) ((ToR.of_ToP (ztN5a s h0) (by kernel_rfl)).mono (by rintro x ⟨s,rfl⟩;exact ⟨s,2,rfl⟩))
 by_cases h1:hypV [f0,f1,f2]>1099511627776
 ·exact ToR.seq_out (by kernel_rfl) (by simp) ((ToR.of_ToP (ztN5b s (by omega) h1) (by kernel_rfl)).mono (by rintro x ⟨s,rfl⟩;exact ⟨s,2,rfl⟩))
 obtain ⟨⟨b0,b1,b2⟩,hP,n1,n10⟩:=ti_pre (f0:=f0) (f1:=f1) (f2:=f2) (by omega) (by omega) rfl rfl rfl
 obtain ⟨k2,k0,k1⟩:=ti_fin b0 b1 b2 hP n10
 refine ToR.seq (by kernel_rfl) (ToR.of_ToP (ztN5 s (by omega) (by omega)) (by kernel_rfl)) ?_
 rintro x ⟨s,rfl⟩
 refine ToR.seq (by kernel_rfl) (ToR.of_ToP (ztN6 s) (by kernel_rfl)) ?_
 rintro x ⟨s,rfl⟩
 refine ToR.seq (by kernel_rfl) (ToR.of_ToP (ztN7 s) (by kernel_rfl)) ?_
 rintro x ⟨s,rfl⟩
 refine ToR.seq (by kernel_rfl) (ToR.of_ToP (ztN8 s) (by kernel_rfl)) ?_
 rintro x ⟨s,rfl⟩
 have H:ZtH (mulDivV f0 84238486 (hypV [f0,f1,f2])) (mulDivV f1 84238486 (hypV [f0,f1,f2])) (mulDivV f2 84238486 (hypV [f0,f1,f2])):=⟨b0,b1,b2,n1⟩
 generalize mulDivV f0 84238486 (hypV [f0,f1,f2])=w0 at *
 generalize mulDivV f1 84238486 (hypV [f0,f1,f2])=w1 at *
 generalize mulDivV f2 84238486 (hypV [f0,f1,f2])=w2 at *
 refine ToR.seq (by kernel_rfl) (B:=Fil2 (ztX w0 w1 w2 (tV0 (10*w0) (10*w1) (10*w2)) (tV1 (10*w0) (10*w1) (10*w2)) (tV2 (10*w0) (10*w1) (10*w2)) (tV3 (10*w0) (10*w1) (10*w2)))) (ToR.seq (by kernel_rfl) (ToR.of_ToP (ztN9 s) (by kernel_rfl)) ?_) ?_
 ·rintro x ⟨s,rfl⟩
  exact ToR.block (id:=0) (e:= .exit 0) (by kernel_rfl) (ToR.loop (m:=11) (by kernel_rfl) (ztLoop s H)) (.inl rfl)
 rintro x ⟨s,rfl⟩
 refine ToR.seq (by kernel_rfl) (ToR.of_ToP (ztY_ s) (by kernel_rfl)) ?_
 rintro x ⟨s,rfl⟩
 refine ToR.seq (by kernel_rfl) (ToR.of_ToP (ztW_ s) (by kernel_rfl)) ?_
 rintro x ⟨s,rfl⟩
 exact (ToR.of_ToP (ztZ s k2 k0 k1) (by kernel_rfl)).mono (by rintro x ⟨s,rfl⟩;exact ⟨s,347,rfl⟩)
def t00:Asg:=⟨fun _ _=>0,fun _ _=>false,fun _ _=>0,fun _ _=>false⟩
theorem lawTopTilted (f0 f1 f2:Int) (w:Go.World):
  Go.Calls Tryz.prog 4 ([.v (.agg [.int .i64 f0,.int .i64 f1,.int .i64 f2])].map (LV.den E0)).toArray w fun e w'=>e = .returned (.bool true)∧Go.RowKit.Below w.heap.size w w':=by
 have h:ToR Tryz.prog 121 0 (bodyF Tryz.prog 4) ⟨argsL 0 [.v (.agg [.int .i64 f0,.int .i64 f1,.int .i64 f2])],[],0⟩ .ret (fun x=>∃s j,x=filS2 s (ztR j)):=ztAll (f0:=f0) (f1:=f1) (f2:=f2) t00
 refine law_ToR (args:=[.v (.agg [.int .i64 f0,.int .i64 f1,.int .i64 f2])]) (m:=[]) (nb:=0) (N:=0) (v:= .v (.one (.bool true))) Tryz.func4 (by kernel_rfl) (Nat.le_of_ble_eq_true (by kernel_rfl)) (Nat.le_of_ble_eq_true (by kernel_rfl)) ?_ rfl ?_ ?_ ?_ h ?_ rfl E0 w ⟨fun i b h=>by simp [getM] at h,fun i j h=>by simp [getM] at h⟩
 ·intro u hu;simp at hu;rcases hu with rfl;rfl
 ·exact fun i b h=>by simp [getM] at h
 ·exact fun i b h=>by simp [getM] at h
 ·exact fun i b h=>by simp [getM] at h
 ·rintro x ⟨s,j,rfl⟩
  exact ⟨fun dead=>by kernel_rfl,fun i b h=>by simp [getM] at h⟩
end Go.Proofs.YtfepmlklbapfiaaGreat

/- Opening an array of numbers that a law is handed (the seventh form's data). -/
namespace Go.Lr
open Go.ChangeShapes Go.WideShapes Go.ChangeAt Go.RowKit
section
variable {H:Type} {enc:TypeId×Value→H} {P:Program} {k e:TypeId} {W:World} {base:Nat} {sp:Nat→Bool} {held:Bool}
theorem mapM_ints (he:P.underlying e=some (.int .i64)) {m:Nat} {cs:List Value}:∀(L:List Nat) (xs:List (DataW H×List MemPlace)),
  L.mapM (fun i=>DataW.trod enc P W base sp held m e ((cs.drop (i*1)).take 1))=some xs→
  ∃zs:List Int,zs.length=L.length∧xs=zs.map (fun z=>(.lit (.int .i64 z),[]))∧(∀z∈zs,(Lit.int .i64 z).wf=true)∧
   (∀(j:Nat) (h:j<L.length) (h':j<zs.length),(cs.drop (L[j]*1)).take 1=[.int .i64 zs[j]])∧
   ∀(W':World) (base':Nat) (sp':Nat→Bool),L.mapM (fun i=>DataW.trod enc P W' base' sp' held m e ((cs.drop (i*1)).take 1))=some xs
 | [],xs,h=>by
  simp at h
  subst h
  exact ⟨[],rfl,rfl,by simp,by simp,fun _ _ _=>rfl⟩
 | i::L,xs,h=>by
  rw [List.mapM_cons] at h
  simp only [bind,Option.bind_eq_some_iff,pure,Option.some.injEq] at h
  obtain ⟨y,hy,ys,hys,rfl⟩:=h
  obtain ⟨zs,h1,rfl,h2,h3,h4⟩:=mapM_ints he L ys hys
  obtain ⟨a,ea,rfl,wa⟩:=DataW.trod_int he hy
  refine ⟨a::zs,by simp [h1],rfl, ?_, ?_,fun W' base' sp'=> ?_⟩
  ·intro z hz
   rcases List.mem_cons.1 hz with rfl | hz
   ·exact wa
   ·exact h2 z hz
  ·intro j hj hj'
   cases j with
   | zero=>exact ea
   | succ j=>exact h3 j (by simpa using hj) (by simpa using hj')
  ·rw [List.mapM_cons,h4 W' base' sp']
   have hw:DataW.trod enc P W' base' sp' held m e ((cs.drop (i*1)).take 1)=some (.lit (.int .i64 a),[]):=by
    rw [ea] at hy ⊢
    cases m with
    | zero=>simp [DataW.trod] at hy
    | succ m=>simp [DataW.trod,he,wa]
   rw [hw]
   rfl
theorem open_arr {n:Nat} (hk:P.underlying k=some (.array n e)) (he:P.underlying e=some (.int .i64)) (hc:P.cellsOf k=n) (hce:P.cellsOf e=1) {r:Reach} {b0:Nat} {v:Value} {d:DataW H} {ps:List MemPlace}
  (hval:Value.okWide P W r b0 k v) (hd:DataW.Trod enc P W base sp held k v d ps):
  ∃zs:List Int,zs.length=n∧v = .agg (zs.map (Value.int .i64)).toArray∧ps=[]∧(∀z∈zs,(Lit.int .i64 z).wf=true)∧∀(W':World) (base':Nat) (sp':Nat→Bool),DataW.Trod enc P W' base' sp' held k v d []:=by
 simp only [Value.okWide,hk] at hval
 obtain ⟨cs,rfl,hs,-⟩:=hval
 rw [hc] at hs
 obtain ⟨fuel,hf⟩:=hd
 cases fuel with
 | zero=>simp [DataW.trod] at hf
 | succ m=>
  rw [DataW.trod_step] at hf
  unfold DataW.trodStep at hf
  simp only [hk,Value.cells,hc,hce] at hf
  have hl:cs.toList.length=n:=by simpa using hs
  rw [if_pos hl] at hf
  simp only [Option.map_eq_some_iff] at hf
  obtain ⟨ys,hy,e1⟩:=hf
  obtain ⟨zs,h1,rfl,h2,h3,h4⟩:=mapM_ints he _ ys hy
  rw [List.length_range] at h1
  simp only [Prod.mk.injEq] at e1
  have hcs:cs.toList=zs.map (Value.int .i64):=by
   refine List.ext_getElem (by simp [hl,h1]) fun j hj hj'=> ?_
   have h:=h3 j (by simpa using (show j<n by omega)) (by omega)
   rw [List.getElem_range,Nat.mul_one] at h
   have h5:((cs.toList.drop j).take 1)[0]? = some (Value.int .i64 zs[j]):=by rw [h];rfl
   rw [List.getElem?_take,if_pos (by decide),List.getElem?_drop,Nat.add_zero,List.getElem?_eq_getElem hj] at h5
   simpa using h5
  refine ⟨zs,h1,by rw [←hcs],by rw [←e1.2];simp [List.flatMap_eq_nil_iff],h2,fun W' base' sp'=>⟨m+1, ?_⟩⟩
  rw [DataW.trod_step]
  unfold DataW.trodStep
  simp only [hk,Value.cells,hc,hce]
  rw [if_pos hl,h4 W' base' sp']
  simp only [Option.map_some,Option.some.injEq,Prod.mk.injEq]
  exact ⟨e1.1,by simp [List.flatMap_eq_nil_iff]⟩
end
end Go.Lr

/- Opening a struct of numbers that a law is handed. -/
namespace Go.Lr
open Go.ChangeShapes Go.WideShapes Go.ChangeAt Go.RowKit
section
variable {H:Type} {enc:TypeId×Value→H} {P:Program} {held:Bool}
end
end Go.Lr

/- TopTilted: all. -/
namespace Go.Proofs.YtfepmlklbapfiaaGreat
end Go.Proofs.YtfepmlklbapfiaaGreat
