/- Joined texts. What each part proves stands ahead of it; no condition. -/
import Derived.Test.YtnlhpaidmiogbaaGreatLrM1
import Derived.Test.YtnlhpaidmiogbaaGreatLrM2
import Derived.Test.YtnlhpaidmiogbaaGreatProg
import Derived.Test.YtnlhpaidmiogbaaGreatLrLenBits

/- Numbers of 64 bits: what the machine's operations come to. Plain. -/
namespace Go.Lr
theorem u64_in {x:Int} (h0:0≤x) (h1:x<18446744073709551616):u64 x=x:=by unfold u64;omega
theorem w64_in {x:Int} (h0: -9223372036854775808≤x) (h1:x<9223372036854775808):w64 x=x:=by unfold w64;omega
theorem wr_u (x:Int):wr .u64 x=u64 x:=rfl
theorem wr_i (x:Int):wr .i64 x=w64 x:=rfl
theorem pow2_32u:pow2 (min (Int.toNat 32) IntKind.u64.bits)=4294967296:=by decide
theorem pow2_63i:pow2 (min (Int.toNat 63) IntKind.i64.bits)=9223372036854775808:=by decide
theorem land32 (x:Int) (h0:0≤x) (h1:x<18446744073709551616):Int.ofNat ((u64 x).toNat.land (u64 4294967295).toNat)=x%4294967296:=by
 have e:(u64 4294967295).toNat=2 ^ 32 - 1:=by decide
 rw [u64_in h0 h1,e]
 show ((x.toNat &&& (2 ^ 32 - 1):Nat):Int)=_
 rw [Nat.and_two_pow_sub_one_eq_mod]
 omega
theorem lnot (x:Int) (h0:0≤x) (h1:x<18446744073709551616):Int.ofNat ((u64 (-1)).toNat.xor (u64 x).toNat)=18446744073709551615 - x:=by
 have e:(u64 (-1)).toNat=(BitVec.allOnes 64).toNat:=by decide
 rw [u64_in h0 h1,e]
 have hx:x.toNat<2 ^ 64:=by omega
 have h2:(BitVec.ofNat 64 x.toNat).toNat=x.toNat:=by rw [BitVec.toNat_ofNat];exact Nat.mod_eq_of_lt hx
 have h3:(BitVec.allOnes 64).toNat.xor x.toNat=(BitVec.allOnes 64 ^^^ BitVec.ofNat 64 x.toNat).toNat:=by rw [BitVec.toNat_xor,h2];rfl
 have h4:BitVec.allOnes 64 ^^^ BitVec.ofNat 64 x.toNat = ~~~BitVec.ofNat 64 x.toNat:=by rw [BitVec.xor_comm,BitVec.xor_allOnes]
 rw [h3,h4,BitVec.toNat_not,h2]
 show ((2 ^ 64 - 1 - x.toNat:Nat):Int)=_
 omega
theorem mulHi (x y:Int) (hx0:0≤x) (hx1:x<18446744073709551616) (hy0:0≤y) (hy1:y<18446744073709551616):
  u64 (u64 (u64 (x/4294967296*(y/4294967296))+u64 (u64 (x/4294967296*(y%4294967296))+u64 (x%4294967296*(y%4294967296))/4294967296)/4294967296) +
   u64 ((u64 (u64 (x/4294967296*(y%4294967296))+u64 (x%4294967296*(y%4294967296))/4294967296))%4294967296+u64 (x%4294967296*(y/4294967296)))/4294967296)=x*y/18446744073709551616:=by
 have hb:∀a b:Int,0≤a→a≤4294967295→0≤b→b≤4294967295→0≤a*b∧a*b≤18446744065119617025:=by
  intro a b h1 h2 h3 h4
  refine ⟨Int.mul_nonneg h1 h3, ?_⟩
  calc a*b≤4294967295*b:=Int.mul_le_mul_of_nonneg_right h2 h3
   _≤4294967295*4294967295:=Int.mul_le_mul_of_nonneg_left h4 (by omega)
   _=18446744065119617025:=by decide
 have hprod:x*y=(x/4294967296*(y/4294967296))*18446744073709551616+((x/4294967296*(y%4294967296))+(x%4294967296*(y/4294967296)))*4294967296+x%4294967296*(y%4294967296):=by
  have ex:x=x/4294967296*4294967296+x%4294967296:=by omega
  have ey:y=y/4294967296*4294967296+y%4294967296:=by omega
  generalize x/4294967296=x1 at *
  generalize x%4294967296=x0 at *
  generalize y/4294967296=y1 at *
  generalize y%4294967296=y0 at *
  rw [ex,ey]
  clear hb ex ey hx0 hx1 hy0 hy1
  grind
 have b1:=hb (x/4294967296) (y/4294967296) (by omega) (by omega) (by omega) (by omega)
 have b2:=hb (x/4294967296) (y%4294967296) (by omega) (by omega) (by omega) (by omega)
 have b3:=hb (x%4294967296) (y/4294967296) (by omega) (by omega) (by omega) (by omega)
 have b4:=hb (x%4294967296) (y%4294967296) (by omega) (by omega) (by omega) (by omega)
 rw [hprod]
 generalize x/4294967296*(y/4294967296)=p11 at *
 generalize x/4294967296*(y%4294967296)=p10 at *
 generalize x%4294967296*(y/4294967296)=p01 at *
 generalize x%4294967296*(y%4294967296)=p00 at *
 clear hprod hb
 rw [u64_in (x:=p11) (by omega) (by omega),u64_in (x:=p10) (by omega) (by omega),u64_in (x:=p00) (by omega) (by omega),u64_in (x:=p01) (by omega) (by omega)]
 rw [u64_in (x:=p10+p00/4294967296) (by omega) (by omega)]
 rw [u64_in (x:=(p10+p00/4294967296)%4294967296+p01) (by omega) (by omega)]
 unfold u64
 omega
end Go.Lr

/- Numbers of 128 bits in two halves: what the operations on the halves come to. Plain. -/
namespace Go.Lr
def wHi (v:Int):Int:=v/18446744073709551616
def wLo (v:Int):Int:=v%18446744073709551616
def wVal (h l:Int):Int:=h*18446744073709551616+l
theorem wVal_mk (v:Int):wVal (wHi v) (wLo v)=v:=by unfold wVal wHi wLo;omega
theorem hi_mk (x y:Int) (h0:0≤y) (h1:y<18446744073709551616):wHi (wVal x y)=x:=by unfold wHi wVal;omega
theorem lo_mk (x y:Int) (h0:0≤y) (h1:y<18446744073709551616):wLo (wVal x y)=y:=by unfold wLo wVal;omega
theorem wLo_in (v:Int):0≤wLo v∧wLo v<18446744073709551616:=by unfold wLo;omega
theorem wHi_in (v:Int) (h0:0≤v) (h1:v<340282366920938463463374607431768211456):0≤wHi v∧wHi v<18446744073709551616:=by unfold wHi;omega
theorem wHi_inI (v:Int) (h0: -170141183460469231731687303715884105728≤v) (h1:v<170141183460469231731687303715884105728): -9223372036854775808≤wHi v∧wHi v<9223372036854775808:=by unfold wHi;omega
theorem pow2_pos (n:Nat):0<pow2 n:=by
 have:0<2 ^ n:=Nat.two_pow_pos n
 unfold pow2;exact Int.ofNat_lt.2 this
theorem pow2_add (m n:Nat):pow2 (m+n)=pow2 m*pow2 n:=by
 unfold pow2;show ((2 ^ (m+n):Nat):Int)=((2 ^ m:Nat):Int)*((2 ^ n:Nat):Int)
 rw [Nat.pow_add];exact Int.natCast_mul _ _
theorem pow2_succ (n:Nat):pow2 (n+1)=2*pow2 n:=by rw [pow2_add];show pow2 n*2=_;omega
theorem pow2_64:pow2 64=18446744073709551616:=by decide
theorem pow2_mono {m n:Nat} (h:m≤n):pow2 m≤pow2 n:=by
 unfold pow2;exact Int.ofNat_le.2 (Nat.pow_le_pow_right (by omega) h)
theorem pow2_le {m n:Nat} (k:Int) (h:m≤n) (hk:pow2 n=k):pow2 m≤k:=hk ▸ pow2_mono h
theorem lor_add (a b:Nat) (s:Nat) (hb:b<2 ^ s):(2 ^ s*a).lor b=2 ^ s*a+b:=(Nat.two_pow_add_eq_or_of_lt hb a).symm
theorem ior_add (a b:Int) (s:Nat) (ha:0≤a) (hb0:0≤b) (hb1:b<pow2 s) (hs:a*pow2 s+b<18446744073709551616):
  Int.ofNat ((u64 (a*pow2 s)).toNat.lor (u64 b).toNat)=a*pow2 s+b∧Int.ofNat ((u64 b).toNat.lor (u64 (a*pow2 s)).toNat)=a*pow2 s+b:=by
 obtain ⟨A,rfl⟩:=Int.eq_ofNat_of_zero_le ha
 obtain ⟨B,rfl⟩:=Int.eq_ofNat_of_zero_le hb0
 have hp:pow2 s=((2 ^ s:Nat):Int):=rfl
 rw [hp] at hb1 hs ⊢
 have hB:B<2 ^ s:=Int.ofNat_lt.1 hb1
 have e1:(A:Int)*((2 ^ s:Nat):Int)=((2 ^ s*A:Nat):Int):=by rw [Nat.mul_comm];exact (Int.natCast_mul _ _).symm
 rw [e1] at hs ⊢
 have l1:=lor_add A B s hB
 generalize 2 ^ s*A=M at *
 rw [u64_in (by omega) (by omega),u64_in (by omega) (by omega)]
 simp only [Int.toNat_natCast]
 have l2:B.lor M=M+B:=by
  rw [←l1];exact Nat.or_comm _ _
 rw [l1,l2]
 exact ⟨Int.natCast_add _ _,Int.natCast_add _ _⟩
theorem emod_unique {a k n r:Int} (h:a=k*n+r) (h0:0≤r) (h1:r<n):a%n=r:=by
 rw [h,Int.add_comm,Int.add_mul_emod_self_right];exact Int.emod_eq_of_lt h0 h1
theorem ediv_unique {a k n r:Int} (h:a=k*n+r) (h0:0≤r) (h1:r<n):a/n=k:=by
 rw [h,Int.add_comm,Int.add_mul_ediv_right _ _ (by omega),Int.ediv_eq_zero_of_lt h0 h1];omega
theorem shl_lt (x y p q:Int) (hq:0<q) (hp:0<p) (hpq:p*q=18446744073709551616) (hy0:0≤y) (hy1:y<18446744073709551616):
  wHi (wVal x y*p%340282366920938463463374607431768211456)=(x%q)*p+y/q∧wLo (wVal x y*p%340282366920938463463374607431768211456)=(y%q)*p∧
  u64 (x*p)=(x%q)*p∧u64 (y*p)=(y%q)*p∧0≤y/q∧y/q<p∧(x%q)*p+y/q<18446744073709551616∧0≤x%q:=by
 have hx:=Int.emod_add_mul_ediv x q
 have hy:=Int.emod_add_mul_ediv y q
 have x0:=Int.emod_nonneg x (show q≠0 by omega)
 have x1:=Int.emod_lt_of_pos x hq
 have y0:=Int.emod_nonneg y (show q≠0 by omega)
 have y1:=Int.emod_lt_of_pos y hq
 have d0:0≤y/q:=Int.ediv_nonneg hy0 (by omega)
 have d1:y/q<p:=Int.ediv_lt_of_lt_mul hq (by rw [hpq];exact hy1)
 generalize x%q=a at *
 generalize x/q=b at *
 generalize y%q=c at *
 generalize y/q=d at *
 have ha:a*p≤18446744073709551616 - p:=by
  have:a*p≤(q - 1)*p:=Int.mul_le_mul_of_nonneg_right (by omega) (by omega)
  have e:(q - 1)*p=p*q - p:=by grind
  omega
 have hc:c*p≤18446744073709551616 - p:=by
  have:c*p≤(q - 1)*p:=Int.mul_le_mul_of_nonneg_right (by omega) (by omega)
  have e:(q - 1)*p=p*q - p:=by grind
  omega
 have ha0:0≤a*p:=Int.mul_nonneg x0 (by omega)
 have hc0:0≤c*p:=Int.mul_nonneg y0 (by omega)
 have e1:wVal x y*p=b*340282366920938463463374607431768211456+((a*p+d)*18446744073709551616+c*p):=by
  unfold wVal
  rw [←hx,←hy]
  have e:(340282366920938463463374607431768211456:Int)=(p*q)*(p*q):=by rw [hpq];rfl
  rw [e,←hpq]
  grind
 have e2:wVal x y*p%340282366920938463463374607431768211456=(a*p+d)*18446744073709551616+c*p:=emod_unique e1 (by omega) (by omega)
 rw [e2]
 refine ⟨by unfold wHi;omega,by unfold wLo;omega, ?_, ?_,d0,d1,by omega,x0⟩
 ·refine emod_unique (k:=b) ?_ (by omega) (by omega)
  rw [←hx,←hpq];grind
 ·refine emod_unique (k:=d) ?_ (by omega) (by omega)
  rw [←hy,←hpq];grind
theorem shr_lt (x y p q:Int) (hq:0<q) (hp:0<p) (hpq:p*q=18446744073709551616) (hy0:0≤y) (hy1:y<18446744073709551616):
  wHi (wVal x y/p)=x/p∧wLo (wVal x y/p)=(x%p)*q+y/p∧u64 (x*q)=(x%p)*q∧0≤y/p∧y/p<q∧(x%p)*q+y/p<18446744073709551616∧0≤x%p:=by
 have hx:=Int.emod_add_mul_ediv x p
 have hy:=Int.emod_add_mul_ediv y p
 have x0:=Int.emod_nonneg x (show p≠0 by omega)
 have x1:=Int.emod_lt_of_pos x hp
 have y0:=Int.emod_nonneg y (show p≠0 by omega)
 have y1:=Int.emod_lt_of_pos y hp
 have d0:0≤y/p:=Int.ediv_nonneg hy0 (by omega)
 have d1:y/p<q:=Int.ediv_lt_of_lt_mul hp (by rw [Int.mul_comm,hpq];exact hy1)
 generalize x%p=a at *
 generalize x/p=b at *
 generalize y%p=c at *
 generalize y/p=d at *
 have ha:a*q≤18446744073709551616 - q:=by
  have:a*q≤(p - 1)*q:=Int.mul_le_mul_of_nonneg_right (by omega) (by omega)
  have e:(p - 1)*q=p*q - q:=by grind
  omega
 have ha0:0≤a*q:=Int.mul_nonneg x0 (by omega)
 have e1:wVal x y=(b*18446744073709551616+(a*q+d))*p+c:=by
  unfold wVal
  rw [←hx,←hy,←hpq]
  grind
 have e2:wVal x y/p=b*18446744073709551616+(a*q+d):=ediv_unique e1 y0 y1
 rw [e2]
 refine ⟨by unfold wHi;omega,by unfold wLo;omega, ?_,d0,d1,by omega,x0⟩
 refine emod_unique (k:=b) ?_ (by omega) (by omega)
 rw [←hx,←hpq];grind
end Go.Lr

/- The scalars' operations in numbers: clamping, rounding, dividing, roots. Plain. -/
namespace Go.Lr
set_option linter.unusedVariables false
def absV (a:Int):Int:=if a<0 then -a else a
def sgn (neg:Bool) (x:Int):Int:=if neg then -x else x
theorem absV_nn (a:Int):0≤absV a:=by unfold absV;split <;> omega
theorem absV_pos {a:Int} (h:0≤a):absV a=a:=by unfold absV;rw [if_neg (by omega)]
theorem absV_neg {a:Int} (h:a≤0):absV a = -a:=by unfold absV;split <;> omega
theorem absV_eq (a:Int):absV a=a.natAbs:=by unfold absV;split <;> omega
theorem absV_mul (a b:Int):absV (a*b)=absV a*absV b:=by
 simp only [absV_eq,Int.natAbs_mul];exact Int.natCast_mul _ _
theorem absV_negate (a:Int):absV (-a)=absV a:=by unfold absV;split <;> split <;> omega
theorem sgn_abs (a:Int):sgn (decide (a<0)) (absV a)=a:=by
 unfold sgn absV;by_cases h:a<0 <;> simp [h]
theorem sgn_mul (a b:Int):sgn (!(decide (a<0)==decide (b<0))) (absV a*absV b)=a*b:=by
 have hnn: -a * -b=a*b:=by grind
 have hn1: -(-a*b)=a*b:=by grind
 have hn2: -(a * -b)=a*b:=by grind
 unfold sgn absV
 by_cases h:a<0 <;> by_cases k:b<0 <;> simp only [h,k,decide_true,decide_false,if_true,if_false] <;> simp [hnn,hn1,hn2]
def halfP (s:Nat):Int:=match s with
 | 0=>0
 | n+1=>pow2 n
def rndV (v:Int) (s:Nat):Int:=sgn (decide (v<0)) ((absV v+halfP s)/pow2 s)
def quoR (a b:Int):Int:=if a%b≥b - a%b then a/b+1 else a/b
def divV (w d:Int):Int:=sgn (!(decide (w<0)==decide (d<0))) (quoR (absV w) (absV d))
theorem prod_lt {a b k l:Int} (ha:absV a≤k) (hb:absV b≤l): -(k*l)≤a*b∧a*b≤k*l:=by
 have h0:=absV_nn a
 have h1:=absV_nn b
 have h2:absV a*absV b≤k*l:=Int.mul_le_mul ha hb h1 (by omega)
 rw [←absV_mul] at h2
 have h3:=sgn_abs (a*b)
 unfold absV at h2
 split at h2 <;> omega
def rtL:Nat→Int→Int→Int×Int
 | 0,p,r=>(p,r)
 | k+1,p,r=>match decide (p<r+pow2 (2*k)) with
  | true=>rtL k p (r/2)
  | false=>rtL k (p - (r+pow2 (2*k))) (r/2+pow2 (2*k))
def rootW (v:Int):Int:=match rtL 64 v 0 with
 | (p,r)=>if r<p then r+1 else r
def RtInv (N:Int) (m:Nat) (p r:Int):Prop:=
 ∃Q:Int,0≤Q∧r=Q*pow2 m∧p=N - Q*Q∧Q*Q≤N∧N<(Q+pow2 m)*(Q+pow2 m)∧(Q=0∨pow2 m≤Q)
theorem pow2_dbl (m:Nat):pow2 (2*m)=pow2 m*pow2 m:=by rw [Nat.two_mul,pow2_add]
theorem RtInv.half {N:Int} {m:Nat} {p r:Int} (h:RtInv N (m+1) p r) (hlt:p<r+pow2 (2*m)):RtInv N m p (r/2):=by
 obtain ⟨Q,h0,rfl,rfl,h3,h4,h5⟩:=h
 have hp:=pow2_pos m
 have hs:=pow2_succ m
 rw [pow2_dbl] at hlt
 rw [hs] at hlt h4 h5 ⊢
 have e:Q*(2*pow2 m)=2*(Q*pow2 m):=by grind
 refine ⟨Q,h0,by rw [e];omega,rfl,h3, ?_,by omega⟩
 have e2:(Q+pow2 m)*(Q+pow2 m)=Q*Q+2*(Q*pow2 m)+pow2 m*pow2 m:=by grind
 rw [e2];omega
theorem RtInv.take {N:Int} {m:Nat} {p r:Int} (h:RtInv N (m+1) p r) (hge:¬p<r+pow2 (2*m)):RtInv N m (p - (r+pow2 (2*m))) (r/2+pow2 (2*m)):=by
 obtain ⟨Q,h0,rfl,rfl,h3,h4,h5⟩:=h
 have hp:=pow2_pos m
 have hs:=pow2_succ m
 rw [pow2_dbl] at hge ⊢
 rw [hs] at hge h4 h5 ⊢
 have e:Q*(2*pow2 m)=2*(Q*pow2 m):=by grind
 have e2:(Q+pow2 m)*(Q+pow2 m)=Q*Q+2*(Q*pow2 m)+pow2 m*pow2 m:=by grind
 have e3:(Q+pow2 m)*pow2 m=Q*pow2 m+pow2 m*pow2 m:=by grind
 have e4:(Q+pow2 m+pow2 m)*(Q+pow2 m+pow2 m)=(Q+2*pow2 m)*(Q+2*pow2 m):=by grind
 rw [e] at hge ⊢
 refine ⟨Q+pow2 m,by omega,by rw [e3];omega,by rw [e2];omega,by rw [e2];omega,by rw [e4];exact h4,by omega⟩
theorem RtInv.bd {N:Int} {m:Nat} {p r:Int} (h:RtInv N m p r):0≤p∧p≤N∧0≤r∧r≤N:=by
 obtain ⟨Q,h0,rfl,rfl,h3,h4,h5⟩:=h
 have hp:=pow2_pos m
 have hq:0≤Q*Q:=Int.mul_nonneg h0 h0
 refine ⟨by omega,by omega,Int.mul_nonneg h0 (by omega), ?_⟩
 rcases h5 with rfl | h5
 ·omega
 ·have:Q*pow2 m≤Q*Q:=Int.mul_le_mul_of_nonneg_left h5 h0
  omega
theorem RtInv.start {N:Int} (h0:0≤N) (h1:N<340282366920938463463374607431768211456):RtInv N 64 N 0:=by
 refine ⟨0,by omega,by omega,by omega,by omega, ?_,.inl rfl⟩
 have:pow2 64=18446744073709551616:=pow2_64
 rw [this];omega
theorem RtInv.run {N:Int}:∀{m:Nat} {p r:Int},RtInv N m p r→RtInv N 0 (rtL m p r).1 (rtL m p r).2
 | 0,p,r,h=>h
 | m+1,p,r,h=>by
  simp only [rtL]
  by_cases hlt:p<r+pow2 (2*m)
  ·rw [decide_eq_true hlt];exact (h.half hlt).run
  ·rw [decide_eq_false hlt];exact (h.take hlt).run
theorem rootW_spec {N:Int} (h0:0≤N) (h1:N<340282366920938463463374607431768211456):
  0≤rootW N∧N≤rootW N*rootW N+rootW N∧(rootW N=0∨rootW N*rootW N - rootW N+1≤N):=by
 have h:=(RtInv.start h0 h1).run
 unfold rootW
 generalize rtL 64 N 0=q at h ⊢
 obtain ⟨p,r⟩:=q
 obtain ⟨Q,a0,a1,a2,a3,a4,-⟩:=h
 simp only at a1 a2 ⊢
 have e1:pow2 0=1:=rfl
 rw [e1,Int.mul_one] at a1
 rw [e1] at a4
 have a1':Q=r:=a1.symm
 subst a1'
 subst a2
 have e2:(Q+1)*(Q+1)=Q*Q+2*Q+1:=by grind
 have hq:0≤Q*Q:=Int.mul_nonneg a0 a0
 split
 ·refine ⟨by omega,by rw [e2];omega,.inr (by rw [e2];omega)⟩
 ·refine ⟨a0,by omega, ?_⟩
  by_cases h':Q=0
  ·exact .inl h'
  ·right;omega
end Go.Lr

/- This seat's program: what the evaluator leans on; math/bits' two that the model answers. -/
namespace Go.Proofs.YtnlhpaidmiogbaaGreat
open Go.Lr
theorem ngAll:(Tryz.prog.funcs.toList.all fun fn=>fn.name != "runtime.NumGoroutine")=true:=by kernel_rfl
theorem ng:∀(f:FuncId) (fn:Func),Tryz.prog.funcs[f]? = some fn→fn.name≠ "runtime.NumGoroutine":=by
 intro f fn h
 have:=List.all_eq_true.1 ngAll fn (by
  have h':Tryz.prog.funcs.toList[f]? = some fn:=by simpa using h
  exact List.mem_of_getElem? h')
 simpa using this
theorem mix:Tryz.prog.follows .mixedOrders=true:=by kernel_rfl
theorem sumAdd64:SumOK Tryz.prog 140 (pureSum addF):=add64_ok Tryz.func140 (by kernel_rfl) (by kernel_rfl) (by kernel_rfl) (by kernel_rfl)
theorem sumSub64:SumOK Tryz.prog 248 (pureSum subF):=sub64_ok Tryz.func248 (by kernel_rfl) (by kernel_rfl) (by kernel_rfl) (by kernel_rfl)
def S0:FuncId→Option SumK:=more (more (fun _=>none) 140 (pureSum addF)) 248 (pureSum subF)
theorem sound0:Sound Tryz.prog S0:=((Sound.none mix ng).more sumAdd64).more sumSub64
def Zl:Md:=⟨false,true,false⟩
def Za:Md:=⟨false,true,true⟩
def I (n:Int):LV:= .v (.one (.int .i64 n))
def B (b:Bool):LV:= .v (.one (.bool b))
end Go.Proofs.YtnlhpaidmiogbaaGreat

/- fx: Clamp, Sat; astrolabelaw2's awake. -/
namespace Go.Proofs.YtnlhpaidmiogbaaGreat
open Go.Lr
def clampV (a lo hi:Int):Int:=if lo>hi then lo else if a<lo then lo else if a>hi then hi else a
def clampH (a lo hi:Int):Bool:=decide (lo>hi)||decide (a<lo)||decide (a>hi)
def clampF:List LV→Bool→Option (LV×Bool×List (Bool×Bool))
 | [.v (.one (.int .i64 a)),.v (.one (.int .i64 lo)),.v (.one (.int .i64 hi))],h=>some (I (clampV a lo hi),h||clampH a lo hi,[])
 | _,_=>none
abbrev acc3 (r:LV×Mem×Nat×List (Bool×Bool)):=(r.1,getM r.2.1 0,r.2.2.2)
theorem clamp1 (a lo hi:Int) (h:Bool):(runF Tryz.prog S0 Zl 200 92 [A0,I a,I lo,I hi] [(0,flag 61 h)] 1 [some true]).map acc3=some (I lo,some (flag 61 true),[(decide (lo>hi),true)]):=by kernel_rfl
theorem clamp2 (a lo hi:Int) (h:Bool):(runF Tryz.prog S0 Zl 200 92 [A0,I a,I lo,I hi] [(0,flag 61 h)] 1 [some false,some true]).map acc3=some (I lo,some (flag 61 true),[(decide (a<lo),true),(decide (lo>hi),false)]):=by kernel_rfl
theorem clamp3 (a lo hi:Int) (h:Bool):(runF Tryz.prog S0 Zl 200 92 [A0,I a,I lo,I hi] [(0,flag 61 h)] 1 [some false,some false,some true]).map acc3=some (I hi,some (flag 61 true),[(decide (a>hi),true),(decide (a<lo),false),(decide (lo>hi),false)]):=by kernel_rfl
theorem clamp4 (a lo hi:Int) (h:Bool):(runF Tryz.prog S0 Zl 200 92 [A0,I a,I lo,I hi] [(0,flag 61 h)] 1 [some false,some false,some false]).map acc3=some (I a,some (flag 61 h),[(decide (a>hi),false),(decide (a<lo),false),(decide (lo>hi),false)]):=by kernel_rfl
theorem sumClamp:SumOK Tryz.prog 92 (accSum 61 clampF):=by
 refine accSum_run (z:=Zl) sound0 (own_of sound0 Tryz.func92 (by kernel_rfl)) fun args hb v h' cs hF _=> ?_
 unfold clampF at hF
 split at hF
 ·rename_i a lo hi
  cases hF
  refine ⟨rfl, ?_⟩
  by_cases h1:lo>hi
  ·rw [show clampV a lo hi=lo by simp [clampV,h1],show (hb||clampH a lo hi)=true by simp [clampH,h1]]
   exact ⟨200,[some true],_,clamp1 a lo hi hb,by simp [h1]⟩
  ·by_cases h2:a<lo
   ·rw [show clampV a lo hi=lo by simp [clampV,h2],show (hb||clampH a lo hi)=true by simp [clampH,h2]]
    exact ⟨200,[some false,some true],_,clamp2 a lo hi hb,by simp [h2];omega⟩
   ·by_cases h3:a>hi
    ·rw [show clampV a lo hi=hi by simp [clampV,h1,h2,h3],show (hb||clampH a lo hi)=true by simp [clampH,h3]]
     exact ⟨200,[some false,some false,some true],_,clamp3 a lo hi hb,by simp [h3];omega⟩
    ·rw [show clampV a lo hi=a by simp [clampV,h1,h2,h3],show (hb||clampH a lo hi)=hb by simp [clampH,h1,h2,h3]]
     exact ⟨200,[some false,some false,some false],_,clamp4 a lo hi hb,by simp;omega⟩
 ·cases hF
def S2:FuncId→Option SumK:=more S0 92 (accSum 61 clampF)
theorem sound2:Sound Tryz.prog S2:=sound0.more sumClamp
def satV (a:Int):Int:=clampV a (-1152921504606846976) 1152921504606846976
def satH (a:Int):Bool:=clampH a (-1152921504606846976) 1152921504606846976
def satF:List LV→Bool→Option (LV×Bool×List (Bool×Bool))
 | [.v (.one (.int .i64 a))],h=>some (I (satV a),h||satH a,[])
 | _,_=>none
theorem sat1 (a:Int) (h:Bool):(runF Tryz.prog S2 Zl 200 43 [A0,I a] [(0,flag 61 h)] 1 []).map acc3=some (I (satV a),some (flag 61 (h||satH a)),[]):=by kernel_rfl
theorem sumSat:SumOK Tryz.prog 43 (accSum 61 satF):=by
 refine accSum_run (z:=Zl) sound2 (own_of sound2 Tryz.func43 (by kernel_rfl)) fun args hb v h' cs hF _=> ?_
 unfold satF at hF
 split at hF
 ·rename_i a
  cases hF
  exact ⟨rfl,200,[],_,sat1 a hb,by simp⟩
 ·cases hF
end Go.Proofs.YtnlhpaidmiogbaaGreat

/- math/bits.Mul64, wide.Of, wide.Mul, by their runs. -/
namespace Go.Proofs.YtnlhpaidmiogbaaGreat
open Go.Lr
theorem runMul64 (x y:Int):(runF Tryz.prog S0 Zl 200 89 [.v (.one (.int .u64 x)),.v (.one (.int .u64 y))] [] 0 []).map (fun r=>(r.1,r.2.2.2))=some (LV.tup [V1.one (At.int IntKind.u64 (wr IntKind.u64 (wr IntKind.u64 (wr IntKind.u64 (x/pow2 (min (Int.toNat 32) IntKind.u64.bits)*(y/pow2 (min (Int.toNat 32) IntKind.u64.bits)))+wr IntKind.u64 (wr IntKind.u64 (x/pow2 (min (Int.toNat 32) IntKind.u64.bits)*Int.ofNat ((u64 y).toNat.land (u64 4294967295).toNat))+wr IntKind.u64 (Int.ofNat ((u64 x).toNat.land (u64 4294967295).toNat)*Int.ofNat ((u64 y).toNat.land (u64 4294967295).toNat))/pow2 (min (Int.toNat 32) IntKind.u64.bits))/pow2 (min (Int.toNat 32) IntKind.u64.bits))+wr IntKind.u64 (Int.ofNat ((u64 (wr IntKind.u64 (wr IntKind.u64 (x/pow2 (min (Int.toNat 32) IntKind.u64.bits)*Int.ofNat ((u64 y).toNat.land (u64 4294967295).toNat))+wr IntKind.u64 (Int.ofNat ((u64 x).toNat.land (u64 4294967295).toNat)*Int.ofNat ((u64 y).toNat.land (u64 4294967295).toNat))/pow2 (min (Int.toNat 32) IntKind.u64.bits)))).toNat.land (u64 4294967295).toNat)+wr IntKind.u64 (Int.ofNat ((u64 x).toNat.land (u64 4294967295).toNat)*(y/pow2 (min (Int.toNat 32) IntKind.u64.bits))))/pow2 (min (Int.toNat 32) IntKind.u64.bits)))),V1.one (At.int IntKind.u64 (wr IntKind.u64 (x*y)))],[]):=by kernel_rfl
def isU (x:Int):Bool:=decide (0≤x)&&decide (x<18446744073709551616)
def isI (x:Int):Bool:=decide (-9223372036854775808≤x)&&decide (x<9223372036854775808)
theorem isU_iff {x:Int}:isU x=true↔0≤x∧x<18446744073709551616:=by simp [isU]
theorem isI_iff {x:Int}:isI x=true↔ -9223372036854775808≤x∧x<9223372036854775808:=by simp [isI]
def mul64F:List LV→Option (LV×List (Bool×Bool))
 | [.v (.one (.int .u64 x)),.v (.one (.int .u64 y))]=>some (.tup [.one (.int .u64 (x*y/18446744073709551616)),.one (.int .u64 (x*y%18446744073709551616))],[(isU x,true),(isU y,true)])
 | _=>none
theorem sumMul64:SumOK Tryz.prog 89 (pureSum mul64F):=by
 refine pureSum_run (z:=Zl) sound0 (own_of sound0 Tryz.func89 (by kernel_rfl)) fun args v cs hF hc=> ?_
 unfold mul64F at hF
 split at hF
 ·rename_i x y
  cases hF
  obtain ⟨hx0,hx1⟩:=isU_iff.1 (hc (isU x,true) (by simp))
  obtain ⟨hy0,hy1⟩:=isU_iff.1 (hc (isU y,true) (by simp))
  have h:=runMul64 x y
  simp only [wr_u,pow2_32u] at h
  have hm:0≤u64 (u64 (x/4294967296*Int.ofNat ((u64 y).toNat.land (u64 4294967295).toNat))+u64 (Int.ofNat ((u64 x).toNat.land (u64 4294967295).toNat)*Int.ofNat ((u64 y).toNat.land (u64 4294967295).toNat))/4294967296)∧
    u64 (u64 (x/4294967296*Int.ofNat ((u64 y).toNat.land (u64 4294967295).toNat))+u64 (Int.ofNat ((u64 x).toNat.land (u64 4294967295).toNat)*Int.ofNat ((u64 y).toNat.land (u64 4294967295).toNat))/4294967296)<18446744073709551616:=by
   generalize u64 (x/4294967296*Int.ofNat ((u64 y).toNat.land (u64 4294967295).toNat))+u64 (Int.ofNat ((u64 x).toNat.land (u64 4294967295).toNat)*Int.ofNat ((u64 y).toNat.land (u64 4294967295).toNat))/4294967296=t
   unfold u64;omega
  rw [land32 _ hm.1 hm.2,land32 x hx0 hx1,land32 y hy0 hy1,mulHi x y hx0 hx1 hy0 hy1] at h
  exact ⟨200,[],[],h,by simp⟩
 ·cases hF
def W1 (v:Int):V1:= .agg [.int .i64 (wHi v),.int .u64 (wLo v)]
def S4:FuncId→Option SumK:=more S0 89 (pureSum mul64F)
theorem sound4:Sound Tryz.prog S4:=sound0.more sumMul64
end Go.Proofs.YtnlhpaidmiogbaaGreat

/- wide's helpers: abs64, signed, by their runs. -/
namespace Go.Proofs.YtnlhpaidmiogbaaGreat
open Go.Lr
theorem runSgP (x y:Int):(runF Tryz.prog S4 Za 200 91 [.v (.agg [.int .u64 x,.int .u64 y]),B false] [] 0 []).map (fun r=>(r.1,r.2.2.2))=some (LV.tup [V1.agg [At.int IntKind.i64 (wr IntKind.i64 x),At.int IntKind.u64 y],V1.one (At.bool (x/pow2 (min (Int.toNat 63) IntKind.u64.bits)==0))],[]):=by kernel_rfl
theorem runSgN (x y:Int):(runF Tryz.prog S4 Za 200 91 [.v (.agg [.int .u64 x,.int .u64 y]),B true] [] 0 [none]).map (fun r=>(r.1,r.2.2.2))=some (LV.tup [V1.agg [At.int IntKind.i64 (wr IntKind.i64 (wr IntKind.u64 (Int.ofNat ((u64 (-1)).toNat.xor (u64 x).toNat)+(Int.ofNat ((u64 (-1)).toNat.xor (u64 y).toNat)+1+0)/18446744073709551616))),At.int IntKind.u64 (u64 (Int.ofNat ((u64 (-1)).toNat.xor (u64 y).toNat)+1+0))],V1.one (At.bool (x==0&&(y==0&&true)))],[(decide (wr IntKind.i64 (wr IntKind.u64 (Int.ofNat ((u64 (-1)).toNat.xor (u64 x).toNat)+(Int.ofNat ((u64 (-1)).toNat.xor (u64 y).toNat)+1+0)/18446744073709551616))<0),false),(decide (wr IntKind.i64 (wr IntKind.u64 (Int.ofNat ((u64 (-1)).toNat.xor (u64 x).toNat)+(Int.ofNat ((u64 (-1)).toNat.xor (u64 y).toNat)+1+0)/18446744073709551616))<0),false),(decide (wr IntKind.i64 (wr IntKind.u64 (Int.ofNat ((u64 (-1)).toNat.xor (u64 x).toNat)+(Int.ofNat ((u64 (-1)).toNat.xor (u64 y).toNat)+1+0)/18446744073709551616))<0),false),(decide (wr IntKind.i64 (wr IntKind.u64 (Int.ofNat ((u64 (-1)).toNat.xor (u64 x).toNat)+(Int.ofNat ((u64 (-1)).toNat.xor (u64 y).toNat)+1+0)/18446744073709551616))<0),false),(decide (0≤Int.ofNat ((u64 (-1)).toNat.xor (u64 y).toNat))&&(decide (0≤1)&&(decide (0≤0)&&decide (0≤1))),true)]):=by kernel_rfl
theorem runSgT (x y:Int):(runF Tryz.prog S4 Za 200 91 [.v (.agg [.int .u64 x,.int .u64 y]),B true] [] 0 [none,some true,some true,some true,some true,some true]).map (fun r=>(r.1,r.2.2.2))=some (LV.tup [V1.agg [At.int IntKind.i64 (wr IntKind.i64 (wr IntKind.u64 (Int.ofNat ((u64 (-1)).toNat.xor (u64 x).toNat)+(Int.ofNat ((u64 (-1)).toNat.xor (u64 y).toNat)+1+0)/18446744073709551616))),At.int IntKind.u64 (u64 (Int.ofNat ((u64 (-1)).toNat.xor (u64 y).toNat)+1+0))],V1.one (At.bool true)],[(decide (wr IntKind.i64 (wr IntKind.u64 (Int.ofNat ((u64 (-1)).toNat.xor (u64 x).toNat)+(Int.ofNat ((u64 (-1)).toNat.xor (u64 y).toNat)+1+0)/18446744073709551616))<0),true),(decide (wr IntKind.i64 (wr IntKind.u64 (Int.ofNat ((u64 (-1)).toNat.xor (u64 x).toNat)+(Int.ofNat ((u64 (-1)).toNat.xor (u64 y).toNat)+1+0)/18446744073709551616))<0),true),(decide (wr IntKind.i64 (wr IntKind.u64 (Int.ofNat ((u64 (-1)).toNat.xor (u64 x).toNat)+(Int.ofNat ((u64 (-1)).toNat.xor (u64 y).toNat)+1+0)/18446744073709551616))<0),true),(decide (wr IntKind.i64 (wr IntKind.u64 (Int.ofNat ((u64 (-1)).toNat.xor (u64 x).toNat)+(Int.ofNat ((u64 (-1)).toNat.xor (u64 y).toNat)+1+0)/18446744073709551616))<0),true),(decide (0≤Int.ofNat ((u64 (-1)).toNat.xor (u64 y).toNat))&&(decide (0≤1)&&(decide (0≤0)&&decide (0≤1))),true)]):=by kernel_rfl
theorem runAbN (a:Int):(runF Tryz.prog S4 Zl 200 90 [I a] [] 0 [some true]).map (fun r=>(r.1,r.2.2.2))=some (LV.v (V1.one (At.int IntKind.u64 (wr IntKind.u64 (0 - wr IntKind.u64 a)))),[(decide (a<0),true)]):=by kernel_rfl
theorem runAbP (a:Int):(runF Tryz.prog S4 Zl 200 90 [I a] [] 0 [some false]).map (fun r=>(r.1,r.2.2.2))=some (LV.v (V1.one (At.int IntKind.u64 (wr IntKind.u64 a))),[(decide (a<0),false)]):=by kernel_rfl
def absF:List LV→Option (LV×List (Bool×Bool))
 | [.v (.one (.int .i64 a))]=>some (.v (.one (.int .u64 (absV a))),[(isI a,true)])
 | _=>none
theorem sumAbs64:SumOK Tryz.prog 90 (pureSum absF):=by
 refine pureSum_run (z:=Zl) sound4 (own_of sound4 Tryz.func90 (by kernel_rfl)) fun args v cs hF hc=> ?_
 unfold absF at hF
 split at hF
 ·rename_i a
  cases hF
  obtain ⟨h0,h1⟩:=isI_iff.1 (hc (isI a,true) (by simp))
  by_cases ha:a<0
  ·rw [show absV a = -a from if_pos ha]
   have h:=runAbN a
   rw [show wr .u64 (0 - wr .u64 a) = -a by simp only [wr_u];unfold u64;omega] at h
   exact ⟨200,[some true],_,h,by simp [ha]⟩
  ·rw [show absV a=a from if_neg ha]
   have h:=runAbP a
   rw [show wr .u64 a=a by simp only [wr_u];unfold u64;omega] at h
   exact ⟨200,[some false],_,h,by simp;omega⟩
 ·cases hF
def isW (v:Int):Bool:=decide (-170141183460469231731687303715884105728≤v)&&decide (v<170141183460469231731687303715884105728)
def signedF:List LV→Option (LV×List (Bool×Bool))
 | [.v (.agg [.int .u64 x,.int .u64 y]),.v (.one (.bool neg))]=>
  some (.tup [.agg [.int .i64 (w64 (wHi (sgn neg (wVal x y)))),.int .u64 (wLo (sgn neg (wVal x y)))],.one (.bool (isW (sgn neg (wVal x y))))],[(isU x,true),(isU y,true)])
 | _=>none
theorem sgL {a a' b b':Int} {c c':Bool} (cs:List (Bool×Bool)) (h1:a=a') (h2:b=b') (h3:c=c'):
  some (LV.tup [V1.agg [At.int .i64 a,At.int .u64 b],V1.one (At.bool c)],cs)=some (LV.tup [V1.agg [At.int .i64 a',At.int .u64 b'],V1.one (At.bool c')],cs):=by
 subst h1;subst h2;subst h3;rfl
theorem isW_iff {v:Int}:isW v=true↔ -170141183460469231731687303715884105728≤v∧v<170141183460469231731687303715884105728:=by simp [isW]
theorem neg_lo (x y:Int):
  u64 (18446744073709551615 - y+1+0)=wLo (-(wVal x y)):=by unfold u64 wLo wVal;omega
theorem neg_hi (x y:Int):
  w64 (u64 (18446744073709551615 - x+(18446744073709551615 - y+1+0)/18446744073709551616))=w64 (wHi (-(wVal x y))):=by unfold w64 u64 wHi wVal;omega
theorem neg_lt (x y:Int) (hx0:0≤x) (hx1:x<18446744073709551616) (h0:0≤y) (h1:y<18446744073709551616)
  (h:w64 (wHi (-(wVal x y)))<0): -170141183460469231731687303715884105728≤ -(wVal x y)∧ -(wVal x y)<170141183460469231731687303715884105728:=by
 revert h;unfold w64 wHi wVal;omega
theorem neg_ge (x y:Int) (hx0:0≤x) (hx1:x<18446744073709551616) (h0:0≤y) (h1:y<18446744073709551616)
  (h:¬w64 (wHi (-(wVal x y)))<0):(-170141183460469231731687303715884105728≤ -(wVal x y)∧ -(wVal x y)<170141183460469231731687303715884105728)↔(x=0∧y=0):=by
 revert h;unfold w64 wHi wVal;omega
theorem pos_ok (x y:Int) (hx0:0≤x) (hx1:x<18446744073709551616) (h0:0≤y) (h1:y<18446744073709551616):
  x/9223372036854775808=0↔(-170141183460469231731687303715884105728≤wVal x y∧wVal x y<170141183460469231731687303715884105728):=by
 unfold wVal;omega
theorem sumSigned:SumOK Tryz.prog 91 (pureSum signedF):=by
 refine pureSum_run (z:=Za) sound4 (own_of sound4 Tryz.func91 (by kernel_rfl)) fun args v cs hF hc=> ?_
 unfold signedF at hF
 split at hF
 ·rename_i x y neg
  cases hF
  obtain ⟨hx0,hx1⟩:=isU_iff.1 (hc (isU x,true) (by simp))
  obtain ⟨hy0,hy1⟩:=isU_iff.1 (hc (isU y,true) (by simp))
  cases neg with
  | false=>
   have h:=runSgP x y
   refine ⟨200,[],[],h.trans (sgL [] ?_ ?_ ?_),by simp⟩
   ·show w64 x=w64 (wHi (wVal x y));rw [hi_mk x y hy0 hy1]
   ·show y=wLo (wVal x y);rw [lo_mk x y hy0 hy1]
   ·show (x/9223372036854775808==0)=isW (wVal x y)
    rw [Bool.eq_iff_iff,isW_iff,beq_iff_eq]
    exact pos_ok x y hx0 hx1 hy0 hy1
  | true=>
   have hs:sgn true (wVal x y) = -(wVal x y):=rfl
   rw [hs]
   by_cases hn:w64 (wHi (-(wVal x y)))<0
   ·have h:=runSgT x y
    simp only [wr_u,wr_i,lnot x hx0 hx1,lnot y hy0 hy1,neg_hi x y,neg_lo x y] at h
    refine ⟨200,_,_,h.trans (sgL _ rfl rfl ?_), ?_⟩
    ·symm;exact isW_iff.2 (neg_lt x y hx0 hx1 hy0 hy1 hn)
    ·simp [hn];omega
   ·have h:=runSgN x y
    simp only [wr_u,wr_i,lnot x hx0 hx1,lnot y hy0 hy1,neg_hi x y,neg_lo x y] at h
    refine ⟨200,_,_,h.trans (sgL _ rfl rfl ?_), ?_⟩
    ·show (x==0&&(y==0&&true))=isW (-(wVal x y))
     rw [Bool.eq_iff_iff,isW_iff,neg_ge x y hx0 hx1 hy0 hy1 hn];simp
    ·simp [hn];omega
 ·cases hF
def S5:FuncId→Option SumK:=more (more S4 90 (pureSum absF)) 91 (pureSum signedF)
theorem sound5:Sound Tryz.prog S5:=(sound4.more sumAbs64).more sumSigned
end Go.Proofs.YtnlhpaidmiogbaaGreat

/- wide: the small functions, by every path of their runs (printed by contract.py). -/
namespace Go.Proofs.YtnlhpaidmiogbaaGreat
open Go.Lr
theorem wabsR1 (x y:Int):(runF Tryz.prog S5 Zl 2000 136 [.v (.agg [.int .i64 x,.int .u64 y])] [] 0 [some true]).map (fun r=>(r.1,r.2.2.2))=some (LV.tup [V1.agg [At.int IntKind.u64 (wr IntKind.u64 x),At.int IntKind.u64 y],V1.one (At.bool false)],[(decide (x≥0),true)]):=by kernel_rfl
theorem wabsR2 (x y:Int):(runF Tryz.prog S5 Zl 2000 136 [.v (.agg [.int .i64 x,.int .u64 y])] [] 0 [some false]).map (fun r=>(r.1,r.2.2.2))=some (LV.tup [V1.agg [At.int IntKind.u64 (wr IntKind.u64 (Int.ofNat ((u64 (-1)).toNat.xor (u64 (wr IntKind.u64 x)).toNat)+(Int.ofNat ((u64 (-1)).toNat.xor (u64 y).toNat)+1+0)/18446744073709551616)),At.int IntKind.u64 (u64 (Int.ofNat ((u64 (-1)).toNat.xor (u64 y).toNat)+1+0))],V1.one (At.bool true)],[(decide (0≤Int.ofNat ((u64 (-1)).toNat.xor (u64 y).toNat))&&(decide (0≤1)&&(decide (0≤0)&&decide (0≤1))),true),(decide (x≥0),false)]):=by kernel_rfl
def wabsT (x y:Int):Option (LV×List (Bool×Bool)):=
 bif (decide (x≥0)) then some (LV.tup [V1.agg [At.int IntKind.u64 (wr IntKind.u64 x),At.int IntKind.u64 y],V1.one (At.bool false)],[])
 else some (LV.tup [V1.agg [At.int IntKind.u64 (wr IntKind.u64 (Int.ofNat ((u64 (-1)).toNat.xor (u64 (wr IntKind.u64 x)).toNat)+(Int.ofNat ((u64 (-1)).toNat.xor (u64 y).toNat)+1+0)/18446744073709551616)),At.int IntKind.u64 (u64 (Int.ofNat ((u64 (-1)).toNat.xor (u64 y).toNat)+1+0))],V1.one (At.bool true)],[(decide (0≤Int.ofNat ((u64 (-1)).toNat.xor (u64 y).toNat))&&(decide (0≤1)&&(decide (0≤0)&&decide (0≤1))),true)])
def wabsF:List LV→Option (LV×List (Bool×Bool))
 | [.v (.agg [.int .i64 x,.int .u64 y])]=>wabsT x y
 | _=>none
theorem sumwabs:SumOK Tryz.prog 136 (pureSum wabsF):=by
 refine pureSum_run (z:=Zl) sound5 (own_of sound5 Tryz.func136 (by kernel_rfl)) fun args v cs hF hc=> ?_
 unfold wabsF at hF
 split at hF
 ·rename_i x y
  unfold wabsT at hF
  rcases bool_cases (decide (x≥0)) with h0 | h0
  ·rw [cond_t h0] at hF
   cases hF
   exact ⟨2000,[some true],_,wabsR1 x y,ae_cons (h0) (ae_nil)⟩
  ·rw [cond_f h0] at hF
   cases hF
   exact ⟨2000,[some false],_,wabsR2 x y,ae_cons (hd_of (hc)) (ae_cons (h0) (ae_nil))⟩
 ·cases hF
theorem wplusR1 (x y x' y':Int):(runF Tryz.prog S5 Zl 2000 138 [.v (.agg [.int .u64 x,.int .u64 y]),.v (.agg [.int .u64 x',.int .u64 y'])] [] 0 []).map (fun r=>(r.1,r.2.2.2))=some (LV.v (V1.agg [At.int IntKind.u64 (u64 (x+x'+(y+y'+0)/18446744073709551616)),At.int IntKind.u64 (u64 (y+y'+0))]),[(decide (0≤x)&&(decide (0≤x')&&(decide (0≤(y+y'+0)/18446744073709551616)&&decide ((y+y'+0)/18446744073709551616≤1))),true),(decide (0≤y)&&(decide (0≤y')&&(decide (0≤0)&&decide (0≤1))),true)]):=by kernel_rfl
def wplusT (x y x' y':Int):Option (LV×List (Bool×Bool)):=some (LV.v (V1.agg [At.int IntKind.u64 (u64 (x+x'+(y+y'+0)/18446744073709551616)),At.int IntKind.u64 (u64 (y+y'+0))]),[(decide (0≤x)&&(decide (0≤x')&&(decide (0≤(y+y'+0)/18446744073709551616)&&decide ((y+y'+0)/18446744073709551616≤1))),true),(decide (0≤y)&&(decide (0≤y')&&(decide (0≤0)&&decide (0≤1))),true)])
def wplusF:List LV→Option (LV×List (Bool×Bool))
 | [.v (.agg [.int .u64 x,.int .u64 y]),.v (.agg [.int .u64 x',.int .u64 y'])]=>wplusT x y x' y'
 | _=>none
theorem sumwplus:SumOK Tryz.prog 138 (pureSum wplusF):=by
 refine pureSum_run (z:=Zl) sound5 (own_of sound5 Tryz.func138 (by kernel_rfl)) fun args v cs hF hc=> ?_
 unfold wplusF at hF
 split at hF
 ·rename_i x y x' y'
  unfold wplusT at hF
  cases hF
  exact ⟨2000,[],_,wplusR1 x y x' y',ae_cons (hd_of (hc)) (ae_cons (hd_of (tl_of (hc))) (ae_nil))⟩
 ·cases hF
theorem wlessR1 (x y x' y':Int):(runF Tryz.prog S5 Zl 2000 227 [.v (.agg [.int .u64 x,.int .u64 y]),.v (.agg [.int .u64 x',.int .u64 y'])] [] 0 [some true,some true,some true,some true,some true,some true,none,none,none,none,none,some true,none,some true]).map (fun r=>(r.1,r.2.2.2))=some (LV.v (V1.one (At.bool true)),[(decide (x<x'),true),(decide (x<x'),true),(decide (x<x'),true),(decide (x<x'),true),(decide (x<x'),true),(decide (x<x'),true),(decide (x<x'),true),(decide (x<x'),true)]):=by kernel_rfl
theorem wlessR2 (x y x' y':Int):(runF Tryz.prog S5 Zl 2000 227 [.v (.agg [.int .u64 x,.int .u64 y]),.v (.agg [.int .u64 x',.int .u64 y'])] [] 0 [some false,some false,some false,some false,some false,some false,some true,some true,some true,some true,some true,some false,some true,some false]).map (fun r=>(r.1,r.2.2.2))=some (LV.v (V1.one (At.bool (decide (y<y')))),[(decide (x<x'),false),(decide (x<x'),false),(x==x',true),(x==x',true),(x==x',true),(x==x',true),(x==x',true),(x==x',true),(decide (x<x'),false),(decide (x<x'),false),(decide (x<x'),false),(decide (x<x'),false),(decide (x<x'),false),(decide (x<x'),false)]):=by kernel_rfl
theorem wlessR3 (x y x' y':Int):(runF Tryz.prog S5 Zl 2000 227 [.v (.agg [.int .u64 x,.int .u64 y]),.v (.agg [.int .u64 x',.int .u64 y'])] [] 0 [some false,some false,some false,some false,some false,some false,some false,some false,some false,some false,some false,some false,some false,some false]).map (fun r=>(r.1,r.2.2.2))=some (LV.v (V1.one (At.bool false)),[(decide (x<x'),false),(decide (x<x'),false),(x==x',false),(x==x',false),(x==x',false),(x==x',false),(x==x',false),(x==x',false),(decide (x<x'),false),(decide (x<x'),false),(decide (x<x'),false),(decide (x<x'),false),(decide (x<x'),false),(decide (x<x'),false)]):=by kernel_rfl
def wlessT (x y x' y':Int):Option (LV×List (Bool×Bool)):=
 bif (decide (x<x')) then some (LV.v (V1.one (At.bool true)),[])
 else
  bif (x==x') then some (LV.v (V1.one (At.bool (decide (y<y')))),[])
  else some (LV.v (V1.one (At.bool false)),[])
def wlessF:List LV→Option (LV×List (Bool×Bool))
 | [.v (.agg [.int .u64 x,.int .u64 y]),.v (.agg [.int .u64 x',.int .u64 y'])]=>wlessT x y x' y'
 | _=>none
theorem sumwless:SumOK Tryz.prog 227 (pureSum wlessF):=by
 refine pureSum_run (z:=Zl) sound5 (own_of sound5 Tryz.func227 (by kernel_rfl)) fun args v cs hF hc=> ?_
 unfold wlessF at hF
 split at hF
 ·rename_i x y x' y'
  unfold wlessT at hF
  rcases bool_cases (decide (x<x')) with h0 | h0
  ·rw [cond_t h0] at hF
   cases hF
   exact ⟨2000,[some true,some true,some true,some true,some true,some true,none,none,none,none,none,some true,none,some true],_,wlessR1 x y x' y',ae_cons (h0) (ae_cons (h0) (ae_cons (h0) (ae_cons (h0) (ae_cons (h0) (ae_cons (h0) (ae_cons (h0) (ae_cons (h0) (ae_nil))))))))⟩
  ·rw [cond_f h0] at hF
   rcases bool_cases (x==x') with h1 | h1
   ·rw [cond_t h1] at hF
    cases hF
    exact ⟨2000,[some false,some false,some false,some false,some false,some false,some true,some true,some true,some true,some true,some false,some true,some false],_,wlessR2 x y x' y',ae_cons (h0) (ae_cons (h0) (ae_cons (h1) (ae_cons (h1) (ae_cons (h1) (ae_cons (h1) (ae_cons (h1) (ae_cons (h1) (ae_cons (h0) (ae_cons (h0) (ae_cons (h0) (ae_cons (h0) (ae_cons (h0) (ae_cons (h0) (ae_nil))))))))))))))⟩
   ·rw [cond_f h1] at hF
    cases hF
    exact ⟨2000,[some false,some false,some false,some false,some false,some false,some false,some false,some false,some false,some false,some false,some false,some false],_,wlessR3 x y x' y',ae_cons (h0) (ae_cons (h0) (ae_cons (h1) (ae_cons (h1) (ae_cons (h1) (ae_cons (h1) (ae_cons (h1) (ae_cons (h1) (ae_cons (h0) (ae_cons (h0) (ae_cons (h0) (ae_cons (h0) (ae_cons (h0) (ae_cons (h0) (ae_nil))))))))))))))⟩
 ·cases hF
theorem sg64R1 (x y:Int) (n:Bool):(runF Tryz.prog S5 Zl 2000 139 [.v (.agg [.int .u64 x,.int .u64 y]),.v (.one (.bool n))] [] 0 [some true,some true]).map (fun r=>(r.1,r.2.2.2))=some (LV.tup [V1.one (At.int IntKind.i64 0),V1.one (At.bool false)],[(x != 0,true),(x != 0,true)]):=by kernel_rfl
theorem sg64R2 (x y:Int) (n:Bool):(runF Tryz.prog S5 Zl 2000 139 [.v (.agg [.int .u64 x,.int .u64 y]),.v (.one (.bool n))] [] 0 [some false,some true,some true,some true,some true,some true,some true]).map (fun r=>(r.1,r.2.2.2))=some (LV.tup [V1.one (At.int IntKind.i64 0),V1.one (At.bool false)],[(decide (y>9223372036854775807),true),(decide (y>9223372036854775807),true),(!n,true),(!n,true),(!n,true),(!n,true),(x != 0,false)]):=by kernel_rfl
theorem sg64R3 (x y:Int) (n:Bool):(runF Tryz.prog S5 Zl 2000 139 [.v (.agg [.int .u64 x,.int .u64 y]),.v (.one (.bool n))] [] 0 [some false,some true,some true,some true,some true,some false,some true,some true,some true,some true,some true]).map (fun r=>(r.1,r.2.2.2))=some (LV.tup [V1.one (At.int IntKind.i64 0),V1.one (At.bool false)],[(decide (y>9223372036854775808),true),(n,true),(n,true),(n,true),(n,true),(decide (y>9223372036854775807),false),(!n,true),(!n,true),(!n,true),(!n,true),(x != 0,false)]):=by kernel_rfl
theorem sg64R4 (x y:Int) (n:Bool):(runF Tryz.prog S5 Zl 2000 139 [.v (.agg [.int .u64 x,.int .u64 y]),.v (.one (.bool n))] [] 0 [some false,some true,some true,some true,some true,some false,some true,some true,some true,some true,some false,some true]).map (fun r=>(r.1,r.2.2.2))=some (LV.tup [V1.one (At.int IntKind.i64 (wr IntKind.i64 (wr IntKind.u64 (0 - y)))),V1.one (At.bool true)],[(n,true),(decide (y>9223372036854775808),false),(n,true),(n,true),(n,true),(n,true),(decide (y>9223372036854775807),false),(!n,true),(!n,true),(!n,true),(!n,true),(x != 0,false)]):=by kernel_rfl
theorem sg64R5 (x y:Int) (n:Bool):(runF Tryz.prog S5 Zl 2000 139 [.v (.agg [.int .u64 x,.int .u64 y]),.v (.one (.bool n))] [] 0 [some false,some true,some true,some true,some true,some false,some false,some false,some false,some false,none,some false]).map (fun r=>(r.1,r.2.2.2))=some (LV.tup [V1.one (At.int IntKind.i64 (wr IntKind.i64 y)),V1.one (At.bool true)],[(n,false),(n,false),(n,false),(n,false),(n,false),(decide (y>9223372036854775807),false),(!n,true),(!n,true),(!n,true),(!n,true),(x != 0,false)]):=by kernel_rfl
theorem sg64R6 (x y:Int) (n:Bool):(runF Tryz.prog S5 Zl 2000 139 [.v (.agg [.int .u64 x,.int .u64 y]),.v (.one (.bool n))] [] 0 [some false,some false,some false,some false,some false,none,some true,some true,some true,some true,some true]).map (fun r=>(r.1,r.2.2.2))=some (LV.tup [V1.one (At.int IntKind.i64 0),V1.one (At.bool false)],[(decide (y>9223372036854775808),true),(n,true),(n,true),(n,true),(n,true),(!n,false),(!n,false),(!n,false),(!n,false),(x != 0,false)]):=by kernel_rfl
theorem sg64R7 (x y:Int) (n:Bool):(runF Tryz.prog S5 Zl 2000 139 [.v (.agg [.int .u64 x,.int .u64 y]),.v (.one (.bool n))] [] 0 [some false,some false,some false,some false,some false,none,some true,some true,some true,some true,some false,some true]).map (fun r=>(r.1,r.2.2.2))=some (LV.tup [V1.one (At.int IntKind.i64 (wr IntKind.i64 (wr IntKind.u64 (0 - y)))),V1.one (At.bool true)],[(n,true),(decide (y>9223372036854775808),false),(n,true),(n,true),(n,true),(n,true),(!n,false),(!n,false),(!n,false),(!n,false),(x != 0,false)]):=by kernel_rfl
theorem sg64R8 (x y:Int) (n:Bool):(runF Tryz.prog S5 Zl 2000 139 [.v (.agg [.int .u64 x,.int .u64 y]),.v (.one (.bool n))] [] 0 [some false,some false,some false,some false,some false,none,some false,some false,some false,some false,none,some false]).map (fun r=>(r.1,r.2.2.2))=some (LV.tup [V1.one (At.int IntKind.i64 (wr IntKind.i64 y)),V1.one (At.bool true)],[(n,false),(n,false),(n,false),(n,false),(n,false),(!n,false),(!n,false),(!n,false),(!n,false),(x != 0,false)]):=by kernel_rfl
def sg64T (x y:Int) (n:Bool):Option (LV×List (Bool×Bool)):=
 bif (x != 0) then some (LV.tup [V1.one (At.int IntKind.i64 0),V1.one (At.bool false)],[])
 else
  bif (!n) then
   bif (decide (y>9223372036854775807)) then some (LV.tup [V1.one (At.int IntKind.i64 0),V1.one (At.bool false)],[])
   else
    bif (n) then
     bif (decide (y>9223372036854775808)) then some (LV.tup [V1.one (At.int IntKind.i64 0),V1.one (At.bool false)],[])
     else some (LV.tup [V1.one (At.int IntKind.i64 (wr IntKind.i64 (wr IntKind.u64 (0 - y)))),V1.one (At.bool true)],[])
    else some (LV.tup [V1.one (At.int IntKind.i64 (wr IntKind.i64 y)),V1.one (At.bool true)],[])
  else
   bif (n) then
    bif (decide (y>9223372036854775808)) then some (LV.tup [V1.one (At.int IntKind.i64 0),V1.one (At.bool false)],[])
    else some (LV.tup [V1.one (At.int IntKind.i64 (wr IntKind.i64 (wr IntKind.u64 (0 - y)))),V1.one (At.bool true)],[])
   else some (LV.tup [V1.one (At.int IntKind.i64 (wr IntKind.i64 y)),V1.one (At.bool true)],[])
def sg64F:List LV→Option (LV×List (Bool×Bool))
 | [.v (.agg [.int .u64 x,.int .u64 y]),.v (.one (.bool n))]=>sg64T x y n
 | _=>none
theorem sumsg64:SumOK Tryz.prog 139 (pureSum sg64F):=by
 refine pureSum_run (z:=Zl) sound5 (own_of sound5 Tryz.func139 (by kernel_rfl)) fun args v cs hF hc=> ?_
 unfold sg64F at hF
 split at hF
 ·rename_i x y n
  unfold sg64T at hF
  rcases bool_cases (x != 0) with h0 | h0
  ·rw [cond_t h0] at hF
   cases hF
   exact ⟨2000,[some true,some true],_,sg64R1 x y n,ae_cons (h0) (ae_cons (h0) (ae_nil))⟩
  ·rw [cond_f h0] at hF
   rcases bool_cases (!n) with h1 | h1
   ·rw [cond_t h1] at hF
    rcases bool_cases (decide (y>9223372036854775807)) with h2 | h2
    ·rw [cond_t h2] at hF
     cases hF
     exact ⟨2000,[some false,some true,some true,some true,some true,some true,some true],_,sg64R2 x y n,ae_cons (h2) (ae_cons (h2) (ae_cons (h1) (ae_cons (h1) (ae_cons (h1) (ae_cons (h1) (ae_cons (h0) (ae_nil)))))))⟩
    ·rw [cond_f h2] at hF
     rcases bool_cases (n) with h3 | h3
     ·rw [cond_t h3] at hF
      rcases bool_cases (decide (y>9223372036854775808)) with h4 | h4
      ·rw [cond_t h4] at hF
       cases hF
       exact ⟨2000,[some false,some true,some true,some true,some true,some false,some true,some true,some true,some true,some true],_,sg64R3 x y n,ae_cons (h4) (ae_cons (h3) (ae_cons (h3) (ae_cons (h3) (ae_cons (h3) (ae_cons (h2) (ae_cons (h1) (ae_cons (h1) (ae_cons (h1) (ae_cons (h1) (ae_cons (h0) (ae_nil)))))))))))⟩
      ·rw [cond_f h4] at hF
       cases hF
       exact ⟨2000,[some false,some true,some true,some true,some true,some false,some true,some true,some true,some true,some false,some true],_,sg64R4 x y n,ae_cons (h3) (ae_cons (h4) (ae_cons (h3) (ae_cons (h3) (ae_cons (h3) (ae_cons (h3) (ae_cons (h2) (ae_cons (h1) (ae_cons (h1) (ae_cons (h1) (ae_cons (h1) (ae_cons (h0) (ae_nil))))))))))))⟩
     ·rw [cond_f h3] at hF
      cases hF
      exact ⟨2000,[some false,some true,some true,some true,some true,some false,some false,some false,some false,some false,none,some false],_,sg64R5 x y n,ae_cons (h3) (ae_cons (h3) (ae_cons (h3) (ae_cons (h3) (ae_cons (h3) (ae_cons (h2) (ae_cons (h1) (ae_cons (h1) (ae_cons (h1) (ae_cons (h1) (ae_cons (h0) (ae_nil)))))))))))⟩
   ·rw [cond_f h1] at hF
    rcases bool_cases (n) with h2 | h2
    ·rw [cond_t h2] at hF
     rcases bool_cases (decide (y>9223372036854775808)) with h3 | h3
     ·rw [cond_t h3] at hF
      cases hF
      exact ⟨2000,[some false,some false,some false,some false,some false,none,some true,some true,some true,some true,some true],_,sg64R6 x y n,ae_cons (h3) (ae_cons (h2) (ae_cons (h2) (ae_cons (h2) (ae_cons (h2) (ae_cons (h1) (ae_cons (h1) (ae_cons (h1) (ae_cons (h1) (ae_cons (h0) (ae_nil))))))))))⟩
     ·rw [cond_f h3] at hF
      cases hF
      exact ⟨2000,[some false,some false,some false,some false,some false,none,some true,some true,some true,some true,some false,some true],_,sg64R7 x y n,ae_cons (h2) (ae_cons (h3) (ae_cons (h2) (ae_cons (h2) (ae_cons (h2) (ae_cons (h2) (ae_cons (h1) (ae_cons (h1) (ae_cons (h1) (ae_cons (h1) (ae_cons (h0) (ae_nil)))))))))))⟩
    ·rw [cond_f h2] at hF
     cases hF
     exact ⟨2000,[some false,some false,some false,some false,some false,none,some false,some false,some false,some false,none,some false],_,sg64R8 x y n,ae_cons (h2) (ae_cons (h2) (ae_cons (h2) (ae_cons (h2) (ae_cons (h2) (ae_cons (h1) (ae_cons (h1) (ae_cons (h1) (ae_cons (h1) (ae_cons (h0) (ae_nil))))))))))⟩
 ·cases hF
end Go.Proofs.YtnlhpaidmiogbaaGreat

/- wide: shl, shr, minus, Of, add, by every path of their runs (printed by contract.py). -/
namespace Go.Proofs.YtnlhpaidmiogbaaGreat
open Go.Lr
theorem wshlR1 (x y s:Int):(runF Tryz.prog S5 Zl 2000 182 [.v (.agg [.int .u64 x,.int .u64 y]),.v (.one (.int .i64 s))] [] 0 [some true]).map (fun r=>(r.1,r.2.2.2))=some (LV.v (V1.agg [At.int IntKind.u64 (wr IntKind.u64 (y*pow2 (min (wr IntKind.i64 (s - 64)).toNat IntKind.u64.bits))),At.int IntKind.u64 0]),[(decide (wr IntKind.i64 (s - 64)<0),false),(decide (s≥64),true)]):=by kernel_rfl
theorem wshlR2 (x y s:Int):(runF Tryz.prog S5 Zl 2000 182 [.v (.agg [.int .u64 x,.int .u64 y]),.v (.one (.int .i64 s))] [] 0 [some false]).map (fun r=>(r.1,r.2.2.2))=some (LV.v (V1.agg [At.int IntKind.u64 (Int.ofNat ((u64 (wr IntKind.u64 (x*pow2 (min s.toNat IntKind.u64.bits)))).toNat.lor (u64 (y/pow2 (min (wr IntKind.i64 (64 - s)).toNat IntKind.u64.bits))).toNat)),At.int IntKind.u64 (wr IntKind.u64 (y*pow2 (min s.toNat IntKind.u64.bits)))]),[(decide (s<0),false),(decide (wr IntKind.i64 (64 - s)<0),false),(decide (s<0),false),(decide (s≥64),false)]):=by kernel_rfl
def wshlT (x y s:Int):Option (LV×List (Bool×Bool)):=
 bif (decide (s≥64)) then some (LV.v (V1.agg [At.int IntKind.u64 (wr IntKind.u64 (y*pow2 (min (wr IntKind.i64 (s - 64)).toNat IntKind.u64.bits))),At.int IntKind.u64 0]),[(decide (wr IntKind.i64 (s - 64)<0),false)])
 else some (LV.v (V1.agg [At.int IntKind.u64 (Int.ofNat ((u64 (wr IntKind.u64 (x*pow2 (min s.toNat IntKind.u64.bits)))).toNat.lor (u64 (y/pow2 (min (wr IntKind.i64 (64 - s)).toNat IntKind.u64.bits))).toNat)),At.int IntKind.u64 (wr IntKind.u64 (y*pow2 (min s.toNat IntKind.u64.bits)))]),[(decide (s<0),false),(decide (wr IntKind.i64 (64 - s)<0),false)])
def wshlF:List LV→Option (LV×List (Bool×Bool))
 | [.v (.agg [.int .u64 x,.int .u64 y]),.v (.one (.int .i64 s))]=>wshlT x y s
 | _=>none
theorem sumwshl:SumOK Tryz.prog 182 (pureSum wshlF):=by
 refine pureSum_run (z:=Zl) sound5 (own_of sound5 Tryz.func182 (by kernel_rfl)) fun args v cs hF hc=> ?_
 unfold wshlF at hF
 split at hF
 ·rename_i x y s
  unfold wshlT at hF
  rcases bool_cases (decide (s≥64)) with h0 | h0
  ·rw [cond_t h0] at hF
   cases hF
   exact ⟨2000,[some true],_,wshlR1 x y s,ae_cons (hd_of (hc)) (ae_cons (h0) (ae_nil))⟩
  ·rw [cond_f h0] at hF
   cases hF
   exact ⟨2000,[some false],_,wshlR2 x y s,ae_cons (hd_of (hc)) (ae_cons (hd_of (tl_of (hc))) (ae_cons (hd_of (hc)) (ae_cons (h0) (ae_nil))))⟩
 ·cases hF
theorem wshrR1 (x y s:Int):(runF Tryz.prog S5 Zl 2000 183 [.v (.agg [.int .u64 x,.int .u64 y]),.v (.one (.int .i64 s))] [] 0 [some true]).map (fun r=>(r.1,r.2.2.2))=some (LV.v (V1.agg [At.int IntKind.u64 0,At.int IntKind.u64 (x/pow2 (min (wr IntKind.i64 (s - 64)).toNat IntKind.u64.bits))]),[(decide (wr IntKind.i64 (s - 64)<0),false),(decide (s≥64),true)]):=by kernel_rfl
theorem wshrR2 (x y s:Int):(runF Tryz.prog S5 Zl 2000 183 [.v (.agg [.int .u64 x,.int .u64 y]),.v (.one (.int .i64 s))] [] 0 [some false]).map (fun r=>(r.1,r.2.2.2))=some (LV.v (V1.agg [At.int IntKind.u64 (x/pow2 (min s.toNat IntKind.u64.bits)),At.int IntKind.u64 (Int.ofNat ((u64 (y/pow2 (min s.toNat IntKind.u64.bits))).toNat.lor (u64 (wr IntKind.u64 (x*pow2 (min (wr IntKind.i64 (64 - s)).toNat IntKind.u64.bits)))).toNat))]),[(decide (wr IntKind.i64 (64 - s)<0),false),(decide (s<0),false),(decide (s<0),false),(decide (s≥64),false)]):=by kernel_rfl
def wshrT (x y s:Int):Option (LV×List (Bool×Bool)):=
 bif (decide (s≥64)) then some (LV.v (V1.agg [At.int IntKind.u64 0,At.int IntKind.u64 (x/pow2 (min (wr IntKind.i64 (s - 64)).toNat IntKind.u64.bits))]),[(decide (wr IntKind.i64 (s - 64)<0),false)])
 else some (LV.v (V1.agg [At.int IntKind.u64 (x/pow2 (min s.toNat IntKind.u64.bits)),At.int IntKind.u64 (Int.ofNat ((u64 (y/pow2 (min s.toNat IntKind.u64.bits))).toNat.lor (u64 (wr IntKind.u64 (x*pow2 (min (wr IntKind.i64 (64 - s)).toNat IntKind.u64.bits)))).toNat))]),[(decide (wr IntKind.i64 (64 - s)<0),false),(decide (s<0),false)])
def wshrF:List LV→Option (LV×List (Bool×Bool))
 | [.v (.agg [.int .u64 x,.int .u64 y]),.v (.one (.int .i64 s))]=>wshrT x y s
 | _=>none
theorem sumwshr:SumOK Tryz.prog 183 (pureSum wshrF):=by
 refine pureSum_run (z:=Zl) sound5 (own_of sound5 Tryz.func183 (by kernel_rfl)) fun args v cs hF hc=> ?_
 unfold wshrF at hF
 split at hF
 ·rename_i x y s
  unfold wshrT at hF
  rcases bool_cases (decide (s≥64)) with h0 | h0
  ·rw [cond_t h0] at hF
   cases hF
   exact ⟨2000,[some true],_,wshrR1 x y s,ae_cons (hd_of (hc)) (ae_cons (h0) (ae_nil))⟩
  ·rw [cond_f h0] at hF
   cases hF
   exact ⟨2000,[some false],_,wshrR2 x y s,ae_cons (hd_of (hc)) (ae_cons (hd_of (tl_of (hc))) (ae_cons (hd_of (tl_of (hc))) (ae_cons (h0) (ae_nil))))⟩
 ·cases hF
theorem wminusR1 (x y x' y':Int):(runF Tryz.prog S5 Zl 2000 228 [.v (.agg [.int .u64 x,.int .u64 y]),.v (.agg [.int .u64 x',.int .u64 y'])] [] 0 []).map (fun r=>(r.1,r.2.2.2))=some (LV.v (V1.agg [At.int IntKind.u64 (u64 (x - x' - borrow y y' 0)),At.int IntKind.u64 (u64 (y - y' - 0))]),[(decide (0≤x)&&(decide (0≤x')&&(decide (x'<18446744073709551616)&&(decide (0≤borrow y y' 0)&&decide (borrow y y' 0≤1)))),true),(decide (0≤y)&&(decide (0≤y')&&(decide (y'<18446744073709551616)&&(decide (0≤0)&&decide (0≤1)))),true)]):=by kernel_rfl
def wminusT (x y x' y':Int):Option (LV×List (Bool×Bool)):=some (LV.v (V1.agg [At.int IntKind.u64 (u64 (x - x' - borrow y y' 0)),At.int IntKind.u64 (u64 (y - y' - 0))]),[(decide (0≤x)&&(decide (0≤x')&&(decide (x'<18446744073709551616)&&(decide (0≤borrow y y' 0)&&decide (borrow y y' 0≤1)))),true),(decide (0≤y)&&(decide (0≤y')&&(decide (y'<18446744073709551616)&&(decide (0≤0)&&decide (0≤1)))),true)])
def wminusF:List LV→Option (LV×List (Bool×Bool))
 | [.v (.agg [.int .u64 x,.int .u64 y]),.v (.agg [.int .u64 x',.int .u64 y'])]=>wminusT x y x' y'
 | _=>none
theorem sumwminus:SumOK Tryz.prog 228 (pureSum wminusF):=by
 refine pureSum_run (z:=Zl) sound5 (own_of sound5 Tryz.func228 (by kernel_rfl)) fun args v cs hF hc=> ?_
 unfold wminusF at hF
 split at hF
 ·rename_i x y x' y'
  unfold wminusT at hF
  cases hF
  exact ⟨2000,[],_,wminusR1 x y x' y',ae_cons (hd_of (hc)) (ae_cons (hd_of (tl_of (hc))) (ae_nil))⟩
 ·cases hF
theorem wofR1 (a:Int):(runF Tryz.prog S5 Zl 2000 226 [.v (.one (.int .i64 a))] [] 0 []).map (fun r=>(r.1,r.2.2.2))=some (LV.v (V1.agg [At.int IntKind.i64 (a/pow2 (min (Int.toNat 63) IntKind.i64.bits)),At.int IntKind.u64 (wr IntKind.u64 a)]),[]):=by kernel_rfl
def wofT (a:Int):Option (LV×List (Bool×Bool)):=some (LV.v (V1.agg [At.int IntKind.i64 (a/pow2 (min (Int.toNat 63) IntKind.i64.bits)),At.int IntKind.u64 (wr IntKind.u64 a)]),[])
def wofF:List LV→Option (LV×List (Bool×Bool))
 | [.v (.one (.int .i64 a))]=>wofT a
 | _=>none
theorem sumwof:SumOK Tryz.prog 226 (pureSum wofF):=by
 refine pureSum_run (z:=Zl) sound5 (own_of sound5 Tryz.func226 (by kernel_rfl)) fun args v cs hF hc=> ?_
 unfold wofF at hF
 split at hF
 ·rename_i a
  unfold wofT at hF
  cases hF
  exact ⟨2000,[],_,wofR1 a,ae_nil⟩
 ·cases hF
theorem waddR1 (x y x' y':Int):(runF Tryz.prog S5 Zl 2000 189 [.v (.agg [.int .i64 x,.int .u64 y]),.v (.agg [.int .i64 x',.int .u64 y'])] [] 0 [some true,some true,some true,some true,some true,some true,some true,some true]).map (fun r=>(r.1,r.2.2.2))=some (LV.tup [V1.agg [At.int IntKind.i64 (wr IntKind.i64 (u64 (wr IntKind.u64 x+wr IntKind.u64 x'+(y+y'+0)/18446744073709551616))),At.int IntKind.u64 (u64 (y+y'+0))],V1.one (At.bool true)],[(!decide (x<0)==decide (x'<0),true),(!decide (x<0)==decide (x'<0),true),(!decide (x<0)==decide (x'<0),true),(!decide (x<0)==decide (x'<0),true),(!decide (x<0)==decide (x'<0),true),(!decide (x<0)==decide (x'<0),true),(!decide (x<0)==decide (x'<0),true),(!decide (x<0)==decide (x'<0),true),(decide (0≤wr IntKind.u64 x)&&(decide (0≤wr IntKind.u64 x')&&(decide (0≤(y+y'+0)/18446744073709551616)&&decide ((y+y'+0)/18446744073709551616≤1))),true),(decide (0≤y)&&(decide (0≤y')&&(decide (0≤0)&&decide (0≤1))),true)]):=by kernel_rfl
theorem waddR2 (x y x' y':Int):(runF Tryz.prog S5 Zl 2000 189 [.v (.agg [.int .i64 x,.int .u64 y]),.v (.agg [.int .i64 x',.int .u64 y'])] [] 0 [some false,some false,some false,some false,some false,some false,some false,some false]).map (fun r=>(r.1,r.2.2.2))=some (LV.tup [V1.agg [At.int IntKind.i64 (wr IntKind.i64 (u64 (wr IntKind.u64 x+wr IntKind.u64 x'+(y+y'+0)/18446744073709551616))),At.int IntKind.u64 (u64 (y+y'+0))],V1.one (At.bool (decide (wr IntKind.i64 (u64 (wr IntKind.u64 x+wr IntKind.u64 x'+(y+y'+0)/18446744073709551616))<0)==decide (x<0)))],[(!decide (x<0)==decide (x'<0),false),(!decide (x<0)==decide (x'<0),false),(!decide (x<0)==decide (x'<0),false),(!decide (x<0)==decide (x'<0),false),(!decide (x<0)==decide (x'<0),false),(!decide (x<0)==decide (x'<0),false),(!decide (x<0)==decide (x'<0),false),(!decide (x<0)==decide (x'<0),false),(decide (0≤wr IntKind.u64 x)&&(decide (0≤wr IntKind.u64 x')&&(decide (0≤(y+y'+0)/18446744073709551616)&&decide ((y+y'+0)/18446744073709551616≤1))),true),(decide (0≤y)&&(decide (0≤y')&&(decide (0≤0)&&decide (0≤1))),true)]):=by kernel_rfl
def waddT (x y x' y':Int):Option (LV×List (Bool×Bool)):=
 bif (!decide (x<0)==decide (x'<0)) then some (LV.tup [V1.agg [At.int IntKind.i64 (wr IntKind.i64 (u64 (wr IntKind.u64 x+wr IntKind.u64 x'+(y+y'+0)/18446744073709551616))),At.int IntKind.u64 (u64 (y+y'+0))],V1.one (At.bool true)],[(decide (0≤wr IntKind.u64 x)&&(decide (0≤wr IntKind.u64 x')&&(decide (0≤(y+y'+0)/18446744073709551616)&&decide ((y+y'+0)/18446744073709551616≤1))),true),(decide (0≤y)&&(decide (0≤y')&&(decide (0≤0)&&decide (0≤1))),true)])
 else some (LV.tup [V1.agg [At.int IntKind.i64 (wr IntKind.i64 (u64 (wr IntKind.u64 x+wr IntKind.u64 x'+(y+y'+0)/18446744073709551616))),At.int IntKind.u64 (u64 (y+y'+0))],V1.one (At.bool (decide (wr IntKind.i64 (u64 (wr IntKind.u64 x+wr IntKind.u64 x'+(y+y'+0)/18446744073709551616))<0)==decide (x<0)))],[(decide (0≤wr IntKind.u64 x)&&(decide (0≤wr IntKind.u64 x')&&(decide (0≤(y+y'+0)/18446744073709551616)&&decide ((y+y'+0)/18446744073709551616≤1))),true),(decide (0≤y)&&(decide (0≤y')&&(decide (0≤0)&&decide (0≤1))),true)])
def waddF:List LV→Option (LV×List (Bool×Bool))
 | [.v (.agg [.int .i64 x,.int .u64 y]),.v (.agg [.int .i64 x',.int .u64 y'])]=>waddT x y x' y'
 | _=>none
theorem sumwadd:SumOK Tryz.prog 189 (pureSum waddF):=by
 refine pureSum_run (z:=Zl) sound5 (own_of sound5 Tryz.func189 (by kernel_rfl)) fun args v cs hF hc=> ?_
 unfold waddF at hF
 split at hF
 ·rename_i x y x' y'
  unfold waddT at hF
  rcases bool_cases (!decide (x<0)==decide (x'<0)) with h0 | h0
  ·rw [cond_t h0] at hF
   cases hF
   exact ⟨2000,[some true,some true,some true,some true,some true,some true,some true,some true],_,waddR1 x y x' y',ae_cons (h0) (ae_cons (h0) (ae_cons (h0) (ae_cons (h0) (ae_cons (h0) (ae_cons (h0) (ae_cons (h0) (ae_cons (h0) (ae_cons (hd_of (hc)) (ae_cons (hd_of (tl_of (hc))) (ae_nil))))))))))⟩
  ·rw [cond_f h0] at hF
   cases hF
   exact ⟨2000,[some false,some false,some false,some false,some false,some false,some false,some false],_,waddR2 x y x' y',ae_cons (h0) (ae_cons (h0) (ae_cons (h0) (ae_cons (h0) (ae_cons (h0) (ae_cons (h0) (ae_cons (h0) (ae_cons (h0) (ae_cons (hd_of (hc)) (ae_cons (hd_of (tl_of (hc))) (ae_nil))))))))))⟩
 ·cases hF
end Go.Proofs.YtnlhpaidmiogbaaGreat

/- wide: what the small functions come to, in numbers. -/
namespace Go.Proofs.YtnlhpaidmiogbaaGreat
open Go.Lr
set_option linter.unusedVariables false
set_option linter.unusedSimpArgs false
def B1 (v:Int):V1:= .agg [.int .u64 (wHi v),.int .u64 (wLo v)]
theorem agg2 {k k':IntKind} {a a' b b':Int} (cs:List (Bool×Bool)) (h1:a=a') (h2:b=b'):
  some (LV.v (V1.agg [At.int k a,At.int k' b]),cs)=some (LV.v (V1.agg [At.int k a',At.int k' b']),cs):=by subst h1;subst h2;rfl
theorem tup21 {k k':IntKind} {a a' b b':Int} {c c':Bool} (cs:List (Bool×Bool)) (h1:a=a') (h2:b=b') (h3:c=c'):
  some (LV.tup [V1.agg [At.int k a,At.int k' b],V1.one (At.bool c)],cs)=some (LV.tup [V1.agg [At.int k a',At.int k' b'],V1.one (At.bool c')],cs):=by subst h1;subst h2;subst h3;rfl
theorem tup11 {k:IntKind} {a a':Int} {c c':Bool} (cs:List (Bool×Bool)) (h1:a=a') (h3:c=c'):
  some (LV.tup [V1.one (At.int k a),V1.one (At.bool c)],cs)=some (LV.tup [V1.one (At.int k a'),V1.one (At.bool c')],cs):=by subst h1;subst h3;rfl
theorem oneB {c c':Bool} (cs:List (Bool×Bool)) (h3:c=c'):
  some (LV.v (V1.one (At.bool c)),cs)=some (LV.v (V1.one (At.bool c')),cs):=by subst h3;rfl
theorem min64 {s:Int} (h0:0≤s) (h1:s≤64):min s.toNat IntKind.u64.bits=s.toNat:=by
 have:IntKind.u64.bits=64:=rfl
 omega
theorem w64s {s:Int} (h0: -1000≤s) (h1:s≤1000):wr .i64 s=s:=w64_in (by omega) (by omega)
def shlS:List LV→Option (LV×List (Bool×Bool))
 | [.v (.agg [.int .u64 x,.int .u64 y]),.v (.one (.int .i64 s))]=>some (.v (B1 (wVal x y*pow2 s.toNat%340282366920938463463374607431768211456)),[(isU x,true),(isU y,true),(decide (0≤s)&&decide (s<128),true)])
 | _=>none
theorem sumShl:SumOK Tryz.prog 182 (pureSum shlS):=by
 refine sumwshl.pure_re fun args v cs hF hc=> ?_
 unfold shlS at hF
 split at hF
 ·rename_i x y s
  cases hF
  simp only [all_tt,isU_iff,Bool.and_eq_true,decide_eq_true_eq] at hc
  obtain ⟨⟨hx0,hx1⟩,⟨hy0,hy1⟩,⟨hs0,hs1⟩,-⟩:=hc
  by_cases h:s≥64
  ·refine ⟨_,(cond_t (decide_eq_true h)).trans (agg2 _ ?_ ?_), ?_⟩
   ·rw [w64s (by omega) (by omega),min64 (by omega) (by omega),wr_u]
    have hs:s.toNat=(s - 64).toNat+64:=by omega
    rw [hs,pow2_add,pow2_64]
    generalize pow2 (s - 64).toNat=p
    unfold wHi wVal u64
    have e:(x*18446744073709551616+y)*(p*18446744073709551616)=x*p*340282366920938463463374607431768211456+(y*p)*18446744073709551616:=by grind
    rw [e];generalize x*p=a;generalize y*p=b;omega
   ·have hs:s.toNat=(s - 64).toNat+64:=by omega
    rw [hs,pow2_add,pow2_64]
    generalize pow2 (s - 64).toNat=p
    unfold wLo wVal
    have e:(x*18446744073709551616+y)*(p*18446744073709551616)=x*p*340282366920938463463374607431768211456+(y*p)*18446744073709551616:=by grind
    rw [e];generalize x*p=a;generalize y*p=b;omega
   ·rw [w64s (by omega) (by omega)];simp;omega
  ·have hpq:pow2 s.toNat*pow2 (64 - s).toNat=18446744073709551616:=by rw [←pow2_add,←pow2_64];congr 1;omega
   obtain ⟨g1,g2,g3,g4,g5,g6,g7,g8⟩:=shl_lt x y (pow2 s.toNat) (pow2 (64 - s).toNat) (pow2_pos _) (pow2_pos _) hpq hy0 hy1
   refine ⟨_,(cond_f (decide_eq_false h)).trans (agg2 _ ?_ ?_), ?_⟩
   ·rw [w64s (by omega) (by omega),min64 (s:=s) (by omega) (by omega),min64 (s:=64 - s) (by omega) (by omega),wr_u,g1,g3]
    exact (ior_add _ _ _ g8 g5 g6 g7).1
   ·rw [min64 (s:=s) (by omega) (by omega),wr_u,g2,g4]
   ·rw [w64s (by omega) (by omega)];simp;omega
 ·cases hF
def shrS:List LV→Option (LV×List (Bool×Bool))
 | [.v (.agg [.int .u64 x,.int .u64 y]),.v (.one (.int .i64 s))]=>some (.v (B1 (wVal x y/pow2 s.toNat)),[(isU x,true),(isU y,true),(decide (0≤s)&&decide (s<128),true)])
 | _=>none
theorem sumShr:SumOK Tryz.prog 183 (pureSum shrS):=by
 refine sumwshr.pure_re fun args v cs hF hc=> ?_
 unfold shrS at hF
 split at hF
 ·rename_i x y s
  cases hF
  simp only [all_tt,isU_iff,Bool.and_eq_true,decide_eq_true_eq] at hc
  obtain ⟨⟨hx0,hx1⟩,⟨hy0,hy1⟩,⟨hs0,hs1⟩,-⟩:=hc
  by_cases h:s≥64
  ·have hs:s.toNat=64+(s - 64).toNat:=by omega
   have e:wVal x y/pow2 s.toNat=x/pow2 (s - 64).toNat:=by
    rw [hs,pow2_add,pow2_64,←Int.ediv_ediv_of_nonneg (by omega)]
    congr 1;unfold wVal;omega
   have q0:0≤x/pow2 (s - 64).toNat:=Int.ediv_nonneg hx0 (Int.le_of_lt (pow2_pos _))
   have q1:x/pow2 (s - 64).toNat≤x:=Int.ediv_le_self _ hx0
   refine ⟨_,(cond_t (decide_eq_true h)).trans (agg2 _ ?_ ?_), ?_⟩
   ·rw [e];unfold wHi;omega
   ·rw [w64s (by omega) (by omega),min64 (by omega) (by omega),e];unfold wLo;omega
   ·rw [w64s (by omega) (by omega)];simp;omega
  ·have hpq:pow2 s.toNat*pow2 (64 - s).toNat=18446744073709551616:=by rw [←pow2_add,←pow2_64];congr 1;omega
   obtain ⟨g1,g2,g3,g5,g6,g7,g8⟩:=shr_lt x y (pow2 s.toNat) (pow2 (64 - s).toNat) (pow2_pos _) (pow2_pos _) hpq hy0 hy1
   refine ⟨_,(cond_f (decide_eq_false h)).trans (agg2 _ ?_ ?_), ?_⟩
   ·rw [min64 (s:=s) (by omega) (by omega),g1]
   ·rw [w64s (by omega) (by omega),min64 (s:=s) (by omega) (by omega),min64 (s:=64 - s) (by omega) (by omega),wr_u,g2,g3]
    exact (ior_add _ _ _ g8 g5 g6 g7).2
   ·rw [w64s (by omega) (by omega)];simp;omega
 ·cases hF
def plusS:List LV→Option (LV×List (Bool×Bool))
 | [.v (.agg [.int .u64 x,.int .u64 y]),.v (.agg [.int .u64 x',.int .u64 y'])]=>some (.v (B1 ((wVal x y+wVal x' y')%340282366920938463463374607431768211456)),[(isU x,true),(isU y,true),(isU x',true),(isU y',true)])
 | _=>none
theorem sumPlus:SumOK Tryz.prog 138 (pureSum plusS):=by
 refine sumwplus.pure_re fun args v cs hF hc=> ?_
 unfold plusS at hF
 split at hF
 ·rename_i x y x' y'
  cases hF
  simp only [all_tt,isU_iff,Bool.and_eq_true,decide_eq_true_eq] at hc
  obtain ⟨⟨hx0,hx1⟩,⟨hy0,hy1⟩,⟨hx0',hx1'⟩,⟨hy0',hy1'⟩,-⟩:=hc
  refine ⟨_,agg2 (a:=u64 _) _ ?_ ?_, ?_⟩
  ·unfold u64 wHi wVal;omega
  ·unfold u64 wLo wVal;omega
  ·simp;omega
 ·cases hF
def minusS:List LV→Option (LV×List (Bool×Bool))
 | [.v (.agg [.int .u64 x,.int .u64 y]),.v (.agg [.int .u64 x',.int .u64 y'])]=>some (.v (B1 ((wVal x y - wVal x' y')%340282366920938463463374607431768211456)),[(isU x,true),(isU y,true),(isU x',true),(isU y',true)])
 | _=>none
theorem sumMinus:SumOK Tryz.prog 228 (pureSum minusS):=by
 refine sumwminus.pure_re fun args v cs hF hc=> ?_
 unfold minusS at hF
 split at hF
 ·rename_i x y x' y'
  cases hF
  simp only [all_tt,isU_iff,Bool.and_eq_true,decide_eq_true_eq] at hc
  obtain ⟨⟨hx0,hx1⟩,⟨hy0,hy1⟩,⟨hx0',hx1'⟩,⟨hy0',hy1'⟩,-⟩:=hc
  have hb:borrow y y' 0=if y<y' then 1 else 0:=by unfold borrow;simp
  refine ⟨_,agg2 (a:=u64 _) _ ?_ ?_, ?_⟩
  ·rw [hb];unfold u64 wHi wVal;split <;> omega
  ·unfold u64 wLo wVal;omega
  ·rw [hb];split <;> simp <;> omega
 ·cases hF
def lessS:List LV→Option (LV×List (Bool×Bool))
 | [.v (.agg [.int .u64 x,.int .u64 y]),.v (.agg [.int .u64 x',.int .u64 y'])]=>some (.v (.one (.bool (decide (wVal x y<wVal x' y')))),[(isU y,true),(isU y',true)])
 | _=>none
theorem sumLess:SumOK Tryz.prog 227 (pureSum lessS):=by
 refine sumwless.pure_re fun args v cs hF hc=> ?_
 unfold lessS at hF
 split at hF
 ·rename_i x y x' y'
  cases hF
  simp only [all_tt,isU_iff,Bool.and_eq_true,decide_eq_true_eq] at hc
  obtain ⟨⟨hy0,hy1⟩,⟨hy0',hy1'⟩,-⟩:=hc
  by_cases h1:x<x'
  ·refine ⟨_,(cond_t (decide_eq_true h1)).trans (oneB _ ?_),ae_nil⟩
   symm;rw [decide_eq_true_eq];unfold wVal;omega
  ·by_cases h2:x=x'
   ·refine ⟨_,(cond_f (decide_eq_false h1)).trans ((cond_t (by simpa using h2)).trans (oneB _ ?_)),ae_nil⟩
    rw [decide_eq_decide];subst h2;unfold wVal;omega
   ·refine ⟨_,(cond_f (decide_eq_false h1)).trans ((cond_f (by simpa using h2)).trans (oneB _ ?_)),ae_nil⟩
    symm;rw [decide_eq_false_iff_not];unfold wVal;omega
 ·cases hF
def absS:List LV→Option (LV×List (Bool×Bool))
 | [.v (.agg [.int .i64 x,.int .u64 y])]=>some (.tup [B1 (absV (wVal x y)),.one (.bool (decide (wVal x y<0)))],[(isI x,true),(isU y,true)])
 | _=>none
theorem sumAbs:SumOK Tryz.prog 136 (pureSum absS):=by
 refine sumwabs.pure_re fun args v cs hF hc=> ?_
 unfold absS at hF
 split at hF
 ·rename_i x y
  cases hF
  simp only [all_tt,isU_iff,isI_iff,Bool.and_eq_true,decide_eq_true_eq] at hc
  obtain ⟨⟨hx0,hx1⟩,⟨hy0,hy1⟩,-⟩:=hc
  by_cases h:x≥0
  ·have hn:¬wVal x y<0:=by unfold wVal;omega
   refine ⟨_,(cond_t (decide_eq_true h)).trans (tup21 _ ?_ ?_ ?_),ae_nil⟩
   ·rw [wr_u];unfold absV;rw [if_neg hn];unfold u64 wHi wVal;omega
   ·unfold absV;rw [if_neg hn];unfold wLo wVal;omega
   ·simpa using hn
  ·have hn:wVal x y<0:=by unfold wVal;omega
   have hux:0≤u64 x∧u64 x<18446744073709551616:=by unfold u64;omega
   refine ⟨_,(cond_f (decide_eq_false h)).trans (tup21 _ ?_ ?_ ?_), ?_⟩
   ·simp only [wr_u];rw [lnot y hy0 hy1,lnot (u64 x) hux.1 hux.2];unfold absV;rw [if_pos hn];unfold u64 wHi wVal;omega
   ·rw [lnot y hy0 hy1];unfold absV;rw [if_pos hn];unfold u64 wLo wVal;omega
   ·simpa using hn
   ·rw [lnot y hy0 hy1];simp;omega
 ·cases hF
def sg64S:List LV→Option (LV×List (Bool×Bool))
 | [.v (.agg [.int .u64 x,.int .u64 y]),.v (.one (.bool neg))]=>some (.tup [.one (.int .i64 (if isI (sgn neg (wVal x y))=true then sgn neg (wVal x y) else 0)),.one (.bool (isI (sgn neg (wVal x y))))],[(isU x,true),(isU y,true)])
 | _=>none
theorem sumSg64:SumOK Tryz.prog 139 (pureSum sg64S):=by
 refine sumsg64.pure_re fun args v cs hF hc=> ?_
 unfold sg64S at hF
 split at hF
 ·rename_i x y n
  cases hF
  simp only [all_tt,isU_iff,Bool.and_eq_true,decide_eq_true_eq] at hc
  obtain ⟨⟨hx0,hx1⟩,⟨hy0,hy1⟩,-⟩:=hc
  show ∃cs',sg64T x y n=_∧_
  have hm:wr .i64 (wr .u64 (0 - y))=w64 (-y):=by rw [wr_u,wr_i];unfold w64 u64;omega
  by_cases h1:x=0
  ·subst h1
   have hv:wVal 0 y=y:=by unfold wVal;omega
   rw [hv]
   cases n with
   | false=>
    have hs:sgn false y=y:=rfl
    rw [hs]
    by_cases h2:y>9223372036854775807
    ·have hi:isI y=false:=by unfold isI;simp;omega
     refine ⟨[],(cond_f rfl).trans ((cond_t rfl).trans ((cond_t (decide_eq_true h2)).trans (tup11 _ ?_ hi.symm))),ae_nil⟩
     rw [hi];rfl
    ·have hi:isI y=true:=isI_iff.2 (by omega)
     refine ⟨[],(cond_f rfl).trans ((cond_t rfl).trans ((cond_f (decide_eq_false h2)).trans ((cond_f rfl).trans (tup11 _ ?_ hi.symm)))),ae_nil⟩
     rw [hi,if_pos rfl,wr_i];unfold w64;omega
   | true=>
    have hs:sgn true y = -y:=rfl
    rw [hs]
    by_cases h2:y>9223372036854775808
    ·have hi:isI (-y)=false:=by unfold isI;simp;omega
     refine ⟨[],(cond_f rfl).trans ((cond_f rfl).trans ((cond_t rfl).trans ((cond_t (decide_eq_true h2)).trans (tup11 _ ?_ hi.symm)))),ae_nil⟩
     rw [hi];rfl
    ·have hi:isI (-y)=true:=isI_iff.2 (by omega)
     refine ⟨[],(cond_f rfl).trans ((cond_f rfl).trans ((cond_t rfl).trans ((cond_f (decide_eq_false h2)).trans (tup11 _ ?_ hi.symm)))),ae_nil⟩
     rw [hi,if_pos rfl,hm];unfold w64;omega
  ·have hi:isI (sgn n (wVal x y))=false:=by
    rw [←Bool.not_eq_true,isI_iff]
    cases n <;> unfold sgn wVal <;> simp <;> omega
   refine ⟨[],(cond_t (by simpa using h1)).trans (tup11 _ ?_ hi.symm),ae_nil⟩
   rw [hi];rfl
 ·cases hF
def ofS:List LV→Option (LV×List (Bool×Bool))
 | [.v (.one (.int .i64 a))]=>some (.v (W1 a),[(isI a,true)])
 | _=>none
theorem sumOf:SumOK Tryz.prog 226 (pureSum ofS):=by
 refine sumwof.pure_re fun args v cs hF hc=> ?_
 unfold ofS at hF
 split at hF
 ·rename_i a
  cases hF
  simp only [all_tt,isU_iff,isI_iff,Bool.and_eq_true,decide_eq_true_eq] at hc
  obtain ⟨⟨hx0,hx1⟩,-⟩:=hc
  refine ⟨_,agg2 (a:=a/_) _ ?_ ?_,ae_nil⟩
  ·rw [pow2_63i];unfold wHi;omega
  ·rfl
 ·cases hF
def addS:List LV→Option (LV×List (Bool×Bool))
 | [.v (.agg [.int .i64 x,.int .u64 y]),.v (.agg [.int .i64 x',.int .u64 y'])]=>
  some (.tup [.agg [.int .i64 (w64 (wHi (wVal x y+wVal x' y'))),.int .u64 (wLo (wVal x y+wVal x' y'))],.one (.bool (isW (wVal x y+wVal x' y')))],[(isI x,true),(isU y,true),(isI x',true),(isU y',true)])
 | _=>none
theorem sumAdd1:SumOK Tryz.prog 189 (pureSum addS):=by
 refine sumwadd.pure_re fun args v cs hF hc=> ?_
 unfold addS at hF
 split at hF
 ·rename_i x y x' y'
  cases hF
  simp only [all_tt,isU_iff,isI_iff,Bool.and_eq_true,decide_eq_true_eq] at hc
  obtain ⟨⟨hx0,hx1⟩,⟨hy0,hy1⟩,⟨hx0',hx1'⟩,⟨hy0',hy1'⟩,-⟩:=hc
  have e1:w64 (u64 (u64 x+u64 x'+(y+y'+0)/18446744073709551616))=w64 (wHi (wVal x y+wVal x' y')):=by unfold w64 u64 wHi wVal;omega
  have e2:u64 (y+y'+0)=wLo (wVal x y+wVal x' y'):=by unfold u64 wLo wVal;omega
  have e3:0≤u64 x∧0≤u64 x':=by unfold u64;omega
  by_cases h:(!decide (x<0)==decide (x'<0))=true
  ·have h':¬(x<0↔x'<0):=by
    by_cases a:x<0 <;> by_cases b:x'<0 <;> simp [a,b] at h ⊢
   refine ⟨_,(cond_t h).trans (tup21 _ e1 e2 ?_), ?_⟩
   ·symm;rw [isW_iff];unfold wVal;omega
   ·refine ae_cons ?_ (ae_cons ?_ ae_nil) <;> simp only [Bool.and_eq_true,decide_eq_true_eq] <;> (try simp only [wr_u]) <;> omega
  ·have h':(x<0↔x'<0):=by
    by_cases a:x<0 <;> by_cases b:x'<0 <;> simp [a,b] at h ⊢
   refine ⟨_,(cond_f (by simpa using h)).trans (tup21 _ e1 e2 ?_), ?_⟩
   ·rw [Bool.eq_iff_iff,isW_iff,beq_iff_eq,decide_eq_decide]
    show (w64 (u64 (u64 x+u64 x'+(y+y'+0)/18446744073709551616))<0↔_)↔_
    rw [e1]
    unfold w64 wHi wVal;omega
   ·refine ae_cons ?_ (ae_cons ?_ ae_nil) <;> simp only [Bool.and_eq_true,decide_eq_true_eq] <;> (try simp only [wr_u]) <;> omega
 ·cases hF
def S6:FuncId→Option SumK:=more (more (more (more (more (more (more (more (more (S5) 182 (pureSum shlS)) 183 (pureSum shrS)) 138 (pureSum plusS)) 228 (pureSum minusS)) 227 (pureSum lessS)) 136 (pureSum absS)) 139 (pureSum sg64S)) 226 (pureSum ofS)) 189 (pureSum addS)
theorem sound6:Sound Tryz.prog S6:=(((((((((sound5).more sumShl).more sumShr).more sumPlus).more sumMinus).more sumLess).more sumAbs).more sumSg64).more sumOf).more sumAdd1
end Go.Proofs.YtnlhpaidmiogbaaGreat

/- wide: Mul, Round, Shift, by every path of their runs (printed by contract.py). -/
namespace Go.Proofs.YtnlhpaidmiogbaaGreat
open Go.Lr
theorem wmulR1 (a b:Int):(runF Tryz.prog S6 Zl 2000 42 [.v (.one (.int .i64 a)),.v (.one (.int .i64 b))] [] 0 []).map (fun r=>(r.1,r.2.2.2))=some (LV.v (V1.agg [At.int IntKind.i64 (w64 (wHi (sgn (!decide (a<0)==decide (b<0)) (wVal (absV a*absV b/18446744073709551616) (absV a*absV b%18446744073709551616))))),At.int IntKind.u64 (wLo (sgn (!decide (a<0)==decide (b<0)) (wVal (absV a*absV b/18446744073709551616) (absV a*absV b%18446744073709551616))))]),[(isU (absV a*absV b/18446744073709551616),true),(isU (absV a*absV b%18446744073709551616),true),(isU (absV a),true),(isU (absV b),true),(isI b,true),(isI a,true)]):=by kernel_rfl
def wmulT (a b:Int):Option (LV×List (Bool×Bool)):=some (LV.v (V1.agg [At.int IntKind.i64 (w64 (wHi (sgn (!decide (a<0)==decide (b<0)) (wVal (absV a*absV b/18446744073709551616) (absV a*absV b%18446744073709551616))))),At.int IntKind.u64 (wLo (sgn (!decide (a<0)==decide (b<0)) (wVal (absV a*absV b/18446744073709551616) (absV a*absV b%18446744073709551616))))]),[(isU (absV a*absV b/18446744073709551616),true),(isU (absV a*absV b%18446744073709551616),true),(isU (absV a),true),(isU (absV b),true),(isI b,true),(isI a,true)])
def wmulF:List LV→Option (LV×List (Bool×Bool))
 | [.v (.one (.int .i64 a)),.v (.one (.int .i64 b))]=>wmulT a b
 | _=>none
theorem sumwmul:SumOK Tryz.prog 42 (pureSum wmulF):=by
 refine pureSum_run (z:=Zl) sound6 (own_of sound6 Tryz.func42 (by kernel_rfl)) fun args v cs hF hc=> ?_
 unfold wmulF at hF
 split at hF
 ·rename_i a b
  unfold wmulT at hF
  cases hF
  exact ⟨2000,[],_,wmulR1 a b,ae_cons (hd_of (hc)) (ae_cons (hd_of (tl_of (hc))) (ae_cons (hd_of (tl_of (tl_of (hc)))) (ae_cons (hd_of (tl_of (tl_of (tl_of (hc))))) (ae_cons (hd_of (tl_of (tl_of (tl_of (tl_of (hc)))))) (ae_cons (hd_of (tl_of (tl_of (tl_of (tl_of (tl_of (hc))))))) (ae_nil))))))⟩
 ·cases hF
theorem wroundR1 (x y s:Int):(runF Tryz.prog S6 Zl 2000 180 [.v (.agg [.int .i64 x,.int .u64 y]),.v (.one (.int .i64 s))] [] 0 [some true,some true,some true,none]).map (fun r=>(r.1,r.2.2.2))=some (LV.tup [V1.one (At.int IntKind.i64 0),V1.one (At.bool false)],[(decide (s<0),true),(decide (s<0),true),(decide (s<0),true)]):=by kernel_rfl
theorem wroundR2 (x y s:Int):(runF Tryz.prog S6 Zl 2000 180 [.v (.agg [.int .i64 x,.int .u64 y]),.v (.one (.int .i64 s))] [] 0 [some false,some false,some false,some true]).map (fun r=>(r.1,r.2.2.2))=some (LV.tup [V1.one (At.int IntKind.i64 0),V1.one (At.bool false)],[(decide (s>126),true),(decide (s<0),false),(decide (s<0),false),(decide (s<0),false)]):=by kernel_rfl
theorem wroundR3 (x y s:Int):(runF Tryz.prog S6 Zl 2000 180 [.v (.agg [.int .i64 x,.int .u64 y]),.v (.one (.int .i64 s))] [] 0 [some false,some false,some false,some false,some true]).map (fun r=>(r.1,r.2.2.2))=some (LV.tup [V1.one (At.int IntKind.i64 (if isI (sgn (decide (wVal x y<0)) (wVal (wHi (wVal (wHi ((wVal (wHi (absV (wVal x y))) (wLo (absV (wVal x y)))+wVal (wHi (wVal 0 1*pow2 (wr IntKind.i64 (s - 1)).toNat%340282366920938463463374607431768211456)) (wLo (wVal 0 1*pow2 (wr IntKind.i64 (s - 1)).toNat%340282366920938463463374607431768211456)))%340282366920938463463374607431768211456)) (wLo ((wVal (wHi (absV (wVal x y))) (wLo (absV (wVal x y)))+wVal (wHi (wVal 0 1*pow2 (wr IntKind.i64 (s - 1)).toNat%340282366920938463463374607431768211456)) (wLo (wVal 0 1*pow2 (wr IntKind.i64 (s - 1)).toNat%340282366920938463463374607431768211456)))%340282366920938463463374607431768211456))/pow2 s.toNat)) (wLo (wVal (wHi ((wVal (wHi (absV (wVal x y))) (wLo (absV (wVal x y)))+wVal (wHi (wVal 0 1*pow2 (wr IntKind.i64 (s - 1)).toNat%340282366920938463463374607431768211456)) (wLo (wVal 0 1*pow2 (wr IntKind.i64 (s - 1)).toNat%340282366920938463463374607431768211456)))%340282366920938463463374607431768211456)) (wLo ((wVal (wHi (absV (wVal x y))) (wLo (absV (wVal x y)))+wVal (wHi (wVal 0 1*pow2 (wr IntKind.i64 (s - 1)).toNat%340282366920938463463374607431768211456)) (wLo (wVal 0 1*pow2 (wr IntKind.i64 (s - 1)).toNat%340282366920938463463374607431768211456)))%340282366920938463463374607431768211456))/pow2 s.toNat))))=true then sgn (decide (wVal x y<0)) (wVal (wHi (wVal (wHi ((wVal (wHi (absV (wVal x y))) (wLo (absV (wVal x y)))+wVal (wHi (wVal 0 1*pow2 (wr IntKind.i64 (s - 1)).toNat%340282366920938463463374607431768211456)) (wLo (wVal 0 1*pow2 (wr IntKind.i64 (s - 1)).toNat%340282366920938463463374607431768211456)))%340282366920938463463374607431768211456)) (wLo ((wVal (wHi (absV (wVal x y))) (wLo (absV (wVal x y)))+wVal (wHi (wVal 0 1*pow2 (wr IntKind.i64 (s - 1)).toNat%340282366920938463463374607431768211456)) (wLo (wVal 0 1*pow2 (wr IntKind.i64 (s - 1)).toNat%340282366920938463463374607431768211456)))%340282366920938463463374607431768211456))/pow2 s.toNat)) (wLo (wVal (wHi ((wVal (wHi (absV (wVal x y))) (wLo (absV (wVal x y)))+wVal (wHi (wVal 0 1*pow2 (wr IntKind.i64 (s - 1)).toNat%340282366920938463463374607431768211456)) (wLo (wVal 0 1*pow2 (wr IntKind.i64 (s - 1)).toNat%340282366920938463463374607431768211456)))%340282366920938463463374607431768211456)) (wLo ((wVal (wHi (absV (wVal x y))) (wLo (absV (wVal x y)))+wVal (wHi (wVal 0 1*pow2 (wr IntKind.i64 (s - 1)).toNat%340282366920938463463374607431768211456)) (wLo (wVal 0 1*pow2 (wr IntKind.i64 (s - 1)).toNat%340282366920938463463374607431768211456)))%340282366920938463463374607431768211456))/pow2 s.toNat))) else 0)),V1.one (At.bool (isI (sgn (decide (wVal x y<0)) (wVal (wHi (wVal (wHi ((wVal (wHi (absV (wVal x y))) (wLo (absV (wVal x y)))+wVal (wHi (wVal 0 1*pow2 (wr IntKind.i64 (s - 1)).toNat%340282366920938463463374607431768211456)) (wLo (wVal 0 1*pow2 (wr IntKind.i64 (s - 1)).toNat%340282366920938463463374607431768211456)))%340282366920938463463374607431768211456)) (wLo ((wVal (wHi (absV (wVal x y))) (wLo (absV (wVal x y)))+wVal (wHi (wVal 0 1*pow2 (wr IntKind.i64 (s - 1)).toNat%340282366920938463463374607431768211456)) (wLo (wVal 0 1*pow2 (wr IntKind.i64 (s - 1)).toNat%340282366920938463463374607431768211456)))%340282366920938463463374607431768211456))/pow2 s.toNat)) (wLo (wVal (wHi ((wVal (wHi (absV (wVal x y))) (wLo (absV (wVal x y)))+wVal (wHi (wVal 0 1*pow2 (wr IntKind.i64 (s - 1)).toNat%340282366920938463463374607431768211456)) (wLo (wVal 0 1*pow2 (wr IntKind.i64 (s - 1)).toNat%340282366920938463463374607431768211456)))%340282366920938463463374607431768211456)) (wLo ((wVal (wHi (absV (wVal x y))) (wLo (absV (wVal x y)))+wVal (wHi (wVal 0 1*pow2 (wr IntKind.i64 (s - 1)).toNat%340282366920938463463374607431768211456)) (wLo (wVal 0 1*pow2 (wr IntKind.i64 (s - 1)).toNat%340282366920938463463374607431768211456)))%340282366920938463463374607431768211456))/pow2 s.toNat))))))],[(isU (wHi (wVal (wHi ((wVal (wHi (absV (wVal x y))) (wLo (absV (wVal x y)))+wVal (wHi (wVal 0 1*pow2 (wr IntKind.i64 (s - 1)).toNat%340282366920938463463374607431768211456)) (wLo (wVal 0 1*pow2 (wr IntKind.i64 (s - 1)).toNat%340282366920938463463374607431768211456)))%340282366920938463463374607431768211456)) (wLo ((wVal (wHi (absV (wVal x y))) (wLo (absV (wVal x y)))+wVal (wHi (wVal 0 1*pow2 (wr IntKind.i64 (s - 1)).toNat%340282366920938463463374607431768211456)) (wLo (wVal 0 1*pow2 (wr IntKind.i64 (s - 1)).toNat%340282366920938463463374607431768211456)))%340282366920938463463374607431768211456))/pow2 s.toNat)),true),(isU (wLo (wVal (wHi ((wVal (wHi (absV (wVal x y))) (wLo (absV (wVal x y)))+wVal (wHi (wVal 0 1*pow2 (wr IntKind.i64 (s - 1)).toNat%340282366920938463463374607431768211456)) (wLo (wVal 0 1*pow2 (wr IntKind.i64 (s - 1)).toNat%340282366920938463463374607431768211456)))%340282366920938463463374607431768211456)) (wLo ((wVal (wHi (absV (wVal x y))) (wLo (absV (wVal x y)))+wVal (wHi (wVal 0 1*pow2 (wr IntKind.i64 (s - 1)).toNat%340282366920938463463374607431768211456)) (wLo (wVal 0 1*pow2 (wr IntKind.i64 (s - 1)).toNat%340282366920938463463374607431768211456)))%340282366920938463463374607431768211456))/pow2 s.toNat)),true),(isU (wHi ((wVal (wHi (absV (wVal x y))) (wLo (absV (wVal x y)))+wVal (wHi (wVal 0 1*pow2 (wr IntKind.i64 (s - 1)).toNat%340282366920938463463374607431768211456)) (wLo (wVal 0 1*pow2 (wr IntKind.i64 (s - 1)).toNat%340282366920938463463374607431768211456)))%340282366920938463463374607431768211456)),true),(isU (wLo ((wVal (wHi (absV (wVal x y))) (wLo (absV (wVal x y)))+wVal (wHi (wVal 0 1*pow2 (wr IntKind.i64 (s - 1)).toNat%340282366920938463463374607431768211456)) (wLo (wVal 0 1*pow2 (wr IntKind.i64 (s - 1)).toNat%340282366920938463463374607431768211456)))%340282366920938463463374607431768211456)),true),(decide (0≤s)&&decide (s<128),true),(isU (wHi (absV (wVal x y))),true),(isU (wLo (absV (wVal x y))),true),(isU (wHi (wVal 0 1*pow2 (wr IntKind.i64 (s - 1)).toNat%340282366920938463463374607431768211456)),true),(isU (wLo (wVal 0 1*pow2 (wr IntKind.i64 (s - 1)).toNat%340282366920938463463374607431768211456)),true),(isU 0,true),(isU 1,true),(decide (0≤wr IntKind.i64 (s - 1))&&decide (wr IntKind.i64 (s - 1)<128),true),(decide (s>0),true),(isI x,true),(isU y,true),(decide (s>126),false),(decide (s<0),false),(decide (s<0),false),(decide (s<0),false)]):=by kernel_rfl
theorem wroundR4 (x y s:Int):(runF Tryz.prog S6 Zl 2000 180 [.v (.agg [.int .i64 x,.int .u64 y]),.v (.one (.int .i64 s))] [] 0 [some false,some false,some false,some false,some false]).map (fun r=>(r.1,r.2.2.2))=some (LV.tup [V1.one (At.int IntKind.i64 (if isI (sgn (decide (wVal x y<0)) (wVal (wHi (wVal (wHi (absV (wVal x y))) (wLo (absV (wVal x y)))/pow2 s.toNat)) (wLo (wVal (wHi (absV (wVal x y))) (wLo (absV (wVal x y)))/pow2 s.toNat))))=true then sgn (decide (wVal x y<0)) (wVal (wHi (wVal (wHi (absV (wVal x y))) (wLo (absV (wVal x y)))/pow2 s.toNat)) (wLo (wVal (wHi (absV (wVal x y))) (wLo (absV (wVal x y)))/pow2 s.toNat))) else 0)),V1.one (At.bool (isI (sgn (decide (wVal x y<0)) (wVal (wHi (wVal (wHi (absV (wVal x y))) (wLo (absV (wVal x y)))/pow2 s.toNat)) (wLo (wVal (wHi (absV (wVal x y))) (wLo (absV (wVal x y)))/pow2 s.toNat))))))],[(isU (wHi (wVal (wHi (absV (wVal x y))) (wLo (absV (wVal x y)))/pow2 s.toNat)),true),(isU (wLo (wVal (wHi (absV (wVal x y))) (wLo (absV (wVal x y)))/pow2 s.toNat)),true),(isU (wHi (absV (wVal x y))),true),(isU (wLo (absV (wVal x y))),true),(decide (0≤s)&&decide (s<128),true),(decide (s>0),false),(isI x,true),(isU y,true),(decide (s>126),false),(decide (s<0),false),(decide (s<0),false),(decide (s<0),false)]):=by kernel_rfl
def wroundT (x y s:Int):Option (LV×List (Bool×Bool)):=
 bif (decide (s<0)) then some (LV.tup [V1.one (At.int IntKind.i64 0),V1.one (At.bool false)],[])
 else
  bif (decide (s>126)) then some (LV.tup [V1.one (At.int IntKind.i64 0),V1.one (At.bool false)],[])
  else
   bif (decide (s>0)) then some (LV.tup [V1.one (At.int IntKind.i64 (if isI (sgn (decide (wVal x y<0)) (wVal (wHi (wVal (wHi ((wVal (wHi (absV (wVal x y))) (wLo (absV (wVal x y)))+wVal (wHi (wVal 0 1*pow2 (wr IntKind.i64 (s - 1)).toNat%340282366920938463463374607431768211456)) (wLo (wVal 0 1*pow2 (wr IntKind.i64 (s - 1)).toNat%340282366920938463463374607431768211456)))%340282366920938463463374607431768211456)) (wLo ((wVal (wHi (absV (wVal x y))) (wLo (absV (wVal x y)))+wVal (wHi (wVal 0 1*pow2 (wr IntKind.i64 (s - 1)).toNat%340282366920938463463374607431768211456)) (wLo (wVal 0 1*pow2 (wr IntKind.i64 (s - 1)).toNat%340282366920938463463374607431768211456)))%340282366920938463463374607431768211456))/pow2 s.toNat)) (wLo (wVal (wHi ((wVal (wHi (absV (wVal x y))) (wLo (absV (wVal x y)))+wVal (wHi (wVal 0 1*pow2 (wr IntKind.i64 (s - 1)).toNat%340282366920938463463374607431768211456)) (wLo (wVal 0 1*pow2 (wr IntKind.i64 (s - 1)).toNat%340282366920938463463374607431768211456)))%340282366920938463463374607431768211456)) (wLo ((wVal (wHi (absV (wVal x y))) (wLo (absV (wVal x y)))+wVal (wHi (wVal 0 1*pow2 (wr IntKind.i64 (s - 1)).toNat%340282366920938463463374607431768211456)) (wLo (wVal 0 1*pow2 (wr IntKind.i64 (s - 1)).toNat%340282366920938463463374607431768211456)))%340282366920938463463374607431768211456))/pow2 s.toNat))))=true then sgn (decide (wVal x y<0)) (wVal (wHi (wVal (wHi ((wVal (wHi (absV (wVal x y))) (wLo (absV (wVal x y)))+wVal (wHi (wVal 0 1*pow2 (wr IntKind.i64 (s - 1)).toNat%340282366920938463463374607431768211456)) (wLo (wVal 0 1*pow2 (wr IntKind.i64 (s - 1)).toNat%340282366920938463463374607431768211456)))%340282366920938463463374607431768211456)) (wLo ((wVal (wHi (absV (wVal x y))) (wLo (absV (wVal x y)))+wVal (wHi (wVal 0 1*pow2 (wr IntKind.i64 (s - 1)).toNat%340282366920938463463374607431768211456)) (wLo (wVal 0 1*pow2 (wr IntKind.i64 (s - 1)).toNat%340282366920938463463374607431768211456)))%340282366920938463463374607431768211456))/pow2 s.toNat)) (wLo (wVal (wHi ((wVal (wHi (absV (wVal x y))) (wLo (absV (wVal x y)))+wVal (wHi (wVal 0 1*pow2 (wr IntKind.i64 (s - 1)).toNat%340282366920938463463374607431768211456)) (wLo (wVal 0 1*pow2 (wr IntKind.i64 (s - 1)).toNat%340282366920938463463374607431768211456)))%340282366920938463463374607431768211456)) (wLo ((wVal (wHi (absV (wVal x y))) (wLo (absV (wVal x y)))+wVal (wHi (wVal 0 1*pow2 (wr IntKind.i64 (s - 1)).toNat%340282366920938463463374607431768211456)) (wLo (wVal 0 1*pow2 (wr IntKind.i64 (s - 1)).toNat%340282366920938463463374607431768211456)))%340282366920938463463374607431768211456))/pow2 s.toNat))) else 0)),V1.one (At.bool (isI (sgn (decide (wVal x y<0)) (wVal (wHi (wVal (wHi ((wVal (wHi (absV (wVal x y))) (wLo (absV (wVal x y)))+wVal (wHi (wVal 0 1*pow2 (wr IntKind.i64 (s - 1)).toNat%340282366920938463463374607431768211456)) (wLo (wVal 0 1*pow2 (wr IntKind.i64 (s - 1)).toNat%340282366920938463463374607431768211456)))%340282366920938463463374607431768211456)) (wLo ((wVal (wHi (absV (wVal x y))) (wLo (absV (wVal x y)))+wVal (wHi (wVal 0 1*pow2 (wr IntKind.i64 (s - 1)).toNat%340282366920938463463374607431768211456)) (wLo (wVal 0 1*pow2 (wr IntKind.i64 (s - 1)).toNat%340282366920938463463374607431768211456)))%340282366920938463463374607431768211456))/pow2 s.toNat)) (wLo (wVal (wHi ((wVal (wHi (absV (wVal x y))) (wLo (absV (wVal x y)))+wVal (wHi (wVal 0 1*pow2 (wr IntKind.i64 (s - 1)).toNat%340282366920938463463374607431768211456)) (wLo (wVal 0 1*pow2 (wr IntKind.i64 (s - 1)).toNat%340282366920938463463374607431768211456)))%340282366920938463463374607431768211456)) (wLo ((wVal (wHi (absV (wVal x y))) (wLo (absV (wVal x y)))+wVal (wHi (wVal 0 1*pow2 (wr IntKind.i64 (s - 1)).toNat%340282366920938463463374607431768211456)) (wLo (wVal 0 1*pow2 (wr IntKind.i64 (s - 1)).toNat%340282366920938463463374607431768211456)))%340282366920938463463374607431768211456))/pow2 s.toNat))))))],[(isU (wHi (wVal (wHi ((wVal (wHi (absV (wVal x y))) (wLo (absV (wVal x y)))+wVal (wHi (wVal 0 1*pow2 (wr IntKind.i64 (s - 1)).toNat%340282366920938463463374607431768211456)) (wLo (wVal 0 1*pow2 (wr IntKind.i64 (s - 1)).toNat%340282366920938463463374607431768211456)))%340282366920938463463374607431768211456)) (wLo ((wVal (wHi (absV (wVal x y))) (wLo (absV (wVal x y)))+wVal (wHi (wVal 0 1*pow2 (wr IntKind.i64 (s - 1)).toNat%340282366920938463463374607431768211456)) (wLo (wVal 0 1*pow2 (wr IntKind.i64 (s - 1)).toNat%340282366920938463463374607431768211456)))%340282366920938463463374607431768211456))/pow2 s.toNat)),true),(isU (wLo (wVal (wHi ((wVal (wHi (absV (wVal x y))) (wLo (absV (wVal x y)))+wVal (wHi (wVal 0 1*pow2 (wr IntKind.i64 (s - 1)).toNat%340282366920938463463374607431768211456)) (wLo (wVal 0 1*pow2 (wr IntKind.i64 (s - 1)).toNat%340282366920938463463374607431768211456)))%340282366920938463463374607431768211456)) (wLo ((wVal (wHi (absV (wVal x y))) (wLo (absV (wVal x y)))+wVal (wHi (wVal 0 1*pow2 (wr IntKind.i64 (s - 1)).toNat%340282366920938463463374607431768211456)) (wLo (wVal 0 1*pow2 (wr IntKind.i64 (s - 1)).toNat%340282366920938463463374607431768211456)))%340282366920938463463374607431768211456))/pow2 s.toNat)),true),(isU (wHi ((wVal (wHi (absV (wVal x y))) (wLo (absV (wVal x y)))+wVal (wHi (wVal 0 1*pow2 (wr IntKind.i64 (s - 1)).toNat%340282366920938463463374607431768211456)) (wLo (wVal 0 1*pow2 (wr IntKind.i64 (s - 1)).toNat%340282366920938463463374607431768211456)))%340282366920938463463374607431768211456)),true),(isU (wLo ((wVal (wHi (absV (wVal x y))) (wLo (absV (wVal x y)))+wVal (wHi (wVal 0 1*pow2 (wr IntKind.i64 (s - 1)).toNat%340282366920938463463374607431768211456)) (wLo (wVal 0 1*pow2 (wr IntKind.i64 (s - 1)).toNat%340282366920938463463374607431768211456)))%340282366920938463463374607431768211456)),true),(decide (0≤s)&&decide (s<128),true),(isU (wHi (absV (wVal x y))),true),(isU (wLo (absV (wVal x y))),true),(isU (wHi (wVal 0 1*pow2 (wr IntKind.i64 (s - 1)).toNat%340282366920938463463374607431768211456)),true),(isU (wLo (wVal 0 1*pow2 (wr IntKind.i64 (s - 1)).toNat%340282366920938463463374607431768211456)),true),(isU 0,true),(isU 1,true),(decide (0≤wr IntKind.i64 (s - 1))&&decide (wr IntKind.i64 (s - 1)<128),true),(isI x,true),(isU y,true)])
   else some (LV.tup [V1.one (At.int IntKind.i64 (if isI (sgn (decide (wVal x y<0)) (wVal (wHi (wVal (wHi (absV (wVal x y))) (wLo (absV (wVal x y)))/pow2 s.toNat)) (wLo (wVal (wHi (absV (wVal x y))) (wLo (absV (wVal x y)))/pow2 s.toNat))))=true then sgn (decide (wVal x y<0)) (wVal (wHi (wVal (wHi (absV (wVal x y))) (wLo (absV (wVal x y)))/pow2 s.toNat)) (wLo (wVal (wHi (absV (wVal x y))) (wLo (absV (wVal x y)))/pow2 s.toNat))) else 0)),V1.one (At.bool (isI (sgn (decide (wVal x y<0)) (wVal (wHi (wVal (wHi (absV (wVal x y))) (wLo (absV (wVal x y)))/pow2 s.toNat)) (wLo (wVal (wHi (absV (wVal x y))) (wLo (absV (wVal x y)))/pow2 s.toNat))))))],[(isU (wHi (wVal (wHi (absV (wVal x y))) (wLo (absV (wVal x y)))/pow2 s.toNat)),true),(isU (wLo (wVal (wHi (absV (wVal x y))) (wLo (absV (wVal x y)))/pow2 s.toNat)),true),(isU (wHi (absV (wVal x y))),true),(isU (wLo (absV (wVal x y))),true),(decide (0≤s)&&decide (s<128),true),(isI x,true),(isU y,true)])
def wroundF:List LV→Option (LV×List (Bool×Bool))
 | [.v (.agg [.int .i64 x,.int .u64 y]),.v (.one (.int .i64 s))]=>wroundT x y s
 | _=>none
theorem sumwround:SumOK Tryz.prog 180 (pureSum wroundF):=by
 refine pureSum_run (z:=Zl) sound6 (own_of sound6 Tryz.func180 (by kernel_rfl)) fun args v cs hF hc=> ?_
 unfold wroundF at hF
 split at hF
 ·rename_i x y s
  unfold wroundT at hF
  rcases bool_cases (decide (s<0)) with h0 | h0
  ·rw [cond_t h0] at hF
   cases hF
   exact ⟨2000,[some true,some true,some true,none],_,wroundR1 x y s,ae_cons (h0) (ae_cons (h0) (ae_cons (h0) (ae_nil)))⟩
  ·rw [cond_f h0] at hF
   rcases bool_cases (decide (s>126)) with h1 | h1
   ·rw [cond_t h1] at hF
    cases hF
    exact ⟨2000,[some false,some false,some false,some true],_,wroundR2 x y s,ae_cons (h1) (ae_cons (h0) (ae_cons (h0) (ae_cons (h0) (ae_nil))))⟩
   ·rw [cond_f h1] at hF
    rcases bool_cases (decide (s>0)) with h2 | h2
    ·rw [cond_t h2] at hF
     cases hF
     exact ⟨2000,[some false,some false,some false,some false,some true],_,wroundR3 x y s,ae_cons (hd_of (hc)) (ae_cons (hd_of (tl_of (hc))) (ae_cons (hd_of (tl_of (tl_of (hc)))) (ae_cons (hd_of (tl_of (tl_of (tl_of (hc))))) (ae_cons (hd_of (tl_of (tl_of (tl_of (tl_of (hc)))))) (ae_cons (hd_of (tl_of (tl_of (tl_of (tl_of (tl_of (hc))))))) (ae_cons (hd_of (tl_of (tl_of (tl_of (tl_of (tl_of (tl_of (hc)))))))) (ae_cons (hd_of (tl_of (tl_of (tl_of (tl_of (tl_of (tl_of (tl_of (hc))))))))) (ae_cons (hd_of (tl_of (tl_of (tl_of (tl_of (tl_of (tl_of (tl_of (tl_of (hc)))))))))) (ae_cons (hd_of (tl_of (tl_of (tl_of (tl_of (tl_of (tl_of (tl_of (tl_of (tl_of (hc))))))))))) (ae_cons (hd_of (tl_of (tl_of (tl_of (tl_of (tl_of (tl_of (tl_of (tl_of (tl_of (tl_of (hc)))))))))))) (ae_cons (hd_of (tl_of (tl_of (tl_of (tl_of (tl_of (tl_of (tl_of (tl_of (tl_of (tl_of (tl_of (hc))))))))))))) (ae_cons (h2) (ae_cons (hd_of (tl_of (tl_of (tl_of (tl_of (tl_of (tl_of (tl_of (tl_of (tl_of (tl_of (tl_of (tl_of (hc)))))))))))))) (ae_cons (hd_of (tl_of (tl_of (tl_of (tl_of (tl_of (tl_of (tl_of (tl_of (tl_of (tl_of (tl_of (tl_of (tl_of (hc))))))))))))))) (ae_cons (h1) (ae_cons (h0) (ae_cons (h0) (ae_cons (h0) (ae_nil)))))))))))))))))))⟩
    ·rw [cond_f h2] at hF
     cases hF
     exact ⟨2000,[some false,some false,some false,some false,some false],_,wroundR4 x y s,ae_cons (hd_of (hc)) (ae_cons (hd_of (tl_of (hc))) (ae_cons (hd_of (tl_of (tl_of (hc)))) (ae_cons (hd_of (tl_of (tl_of (tl_of (hc))))) (ae_cons (hd_of (tl_of (tl_of (tl_of (tl_of (hc)))))) (ae_cons (h2) (ae_cons (hd_of (tl_of (tl_of (tl_of (tl_of (tl_of (hc))))))) (ae_cons (hd_of (tl_of (tl_of (tl_of (tl_of (tl_of (tl_of (hc)))))))) (ae_cons (h1) (ae_cons (h0) (ae_cons (h0) (ae_cons (h0) (ae_nil))))))))))))⟩
 ·cases hF
theorem wshiftR1 (a s:Int):(runF Tryz.prog S6 Zl 2000 113 [.v (.one (.int .i64 a)),.v (.one (.int .i64 s))] [] 0 [some true,some true,some true,none]).map (fun r=>(r.1,r.2.2.2))=some (LV.tup [V1.agg [At.int IntKind.i64 0,At.int IntKind.u64 0],V1.one (At.bool false)],[(decide (s<0),true),(decide (s<0),true),(decide (s<0),true)]):=by kernel_rfl
theorem wshiftR2 (a s:Int):(runF Tryz.prog S6 Zl 2000 113 [.v (.one (.int .i64 a)),.v (.one (.int .i64 s))] [] 0 [some false,some false,some false,some true]).map (fun r=>(r.1,r.2.2.2))=some (LV.tup [V1.agg [At.int IntKind.i64 0,At.int IntKind.u64 0],V1.one (At.bool false)],[(decide (s>127),true),(decide (s<0),false),(decide (s<0),false),(decide (s<0),false)]):=by kernel_rfl
theorem wshiftR3 (a s:Int):(runF Tryz.prog S6 Zl 2000 113 [.v (.one (.int .i64 a)),.v (.one (.int .i64 s))] [] 0 [some false,some false,some false,some false,some true]).map (fun r=>(r.1,r.2.2.2))=some (LV.tup [V1.agg [At.int IntKind.i64 0,At.int IntKind.u64 0],V1.one (At.bool false)],[(!(wHi (wVal (wHi (wVal 0 (absV a)*pow2 s.toNat%340282366920938463463374607431768211456)) (wLo (wVal 0 (absV a)*pow2 s.toNat%340282366920938463463374607431768211456))/pow2 s.toNat)==0&&(wLo (wVal (wHi (wVal 0 (absV a)*pow2 s.toNat%340282366920938463463374607431768211456)) (wLo (wVal 0 (absV a)*pow2 s.toNat%340282366920938463463374607431768211456))/pow2 s.toNat)==absV a&&true)),true),(isU (wHi (wVal 0 (absV a)*pow2 s.toNat%340282366920938463463374607431768211456)),true),(isU (wLo (wVal 0 (absV a)*pow2 s.toNat%340282366920938463463374607431768211456)),true),(decide (0≤s)&&decide (s<128),true),(isU 0,true),(isU (absV a),true),(decide (0≤s)&&decide (s<128),true),(isI a,true),(decide (s>127),false),(decide (s<0),false),(decide (s<0),false),(decide (s<0),false)]):=by kernel_rfl
theorem wshiftR4 (a s:Int):(runF Tryz.prog S6 Zl 2000 113 [.v (.one (.int .i64 a)),.v (.one (.int .i64 s))] [] 0 [some false,some false,some false,some false,some false,some true]).map (fun r=>(r.1,r.2.2.2))=some (LV.tup [V1.agg [At.int IntKind.i64 0,At.int IntKind.u64 0],V1.one (At.bool false)],[(!isW (sgn (decide (a<0)) (wVal (wHi (wVal 0 (absV a)*pow2 s.toNat%340282366920938463463374607431768211456)) (wLo (wVal 0 (absV a)*pow2 s.toNat%340282366920938463463374607431768211456)))),true),(isU (wHi (wVal 0 (absV a)*pow2 s.toNat%340282366920938463463374607431768211456)),true),(isU (wLo (wVal 0 (absV a)*pow2 s.toNat%340282366920938463463374607431768211456)),true),(!(wHi (wVal (wHi (wVal 0 (absV a)*pow2 s.toNat%340282366920938463463374607431768211456)) (wLo (wVal 0 (absV a)*pow2 s.toNat%340282366920938463463374607431768211456))/pow2 s.toNat)==0&&(wLo (wVal (wHi (wVal 0 (absV a)*pow2 s.toNat%340282366920938463463374607431768211456)) (wLo (wVal 0 (absV a)*pow2 s.toNat%340282366920938463463374607431768211456))/pow2 s.toNat)==absV a&&true)),false),(isU (wHi (wVal 0 (absV a)*pow2 s.toNat%340282366920938463463374607431768211456)),true),(isU (wLo (wVal 0 (absV a)*pow2 s.toNat%340282366920938463463374607431768211456)),true),(decide (0≤s)&&decide (s<128),true),(isU 0,true),(isU (absV a),true),(decide (0≤s)&&decide (s<128),true),(isI a,true),(decide (s>127),false),(decide (s<0),false),(decide (s<0),false),(decide (s<0),false)]):=by kernel_rfl
theorem wshiftR5 (a s:Int):(runF Tryz.prog S6 Zl 2000 113 [.v (.one (.int .i64 a)),.v (.one (.int .i64 s))] [] 0 [some false,some false,some false,some false,some false,some false]).map (fun r=>(r.1,r.2.2.2))=some (LV.tup [V1.agg [At.int IntKind.i64 (w64 (wHi (sgn (decide (a<0)) (wVal (wHi (wVal 0 (absV a)*pow2 s.toNat%340282366920938463463374607431768211456)) (wLo (wVal 0 (absV a)*pow2 s.toNat%340282366920938463463374607431768211456)))))),At.int IntKind.u64 (wLo (sgn (decide (a<0)) (wVal (wHi (wVal 0 (absV a)*pow2 s.toNat%340282366920938463463374607431768211456)) (wLo (wVal 0 (absV a)*pow2 s.toNat%340282366920938463463374607431768211456)))))],V1.one (At.bool true)],[(!isW (sgn (decide (a<0)) (wVal (wHi (wVal 0 (absV a)*pow2 s.toNat%340282366920938463463374607431768211456)) (wLo (wVal 0 (absV a)*pow2 s.toNat%340282366920938463463374607431768211456)))),false),(isU (wHi (wVal 0 (absV a)*pow2 s.toNat%340282366920938463463374607431768211456)),true),(isU (wLo (wVal 0 (absV a)*pow2 s.toNat%340282366920938463463374607431768211456)),true),(!(wHi (wVal (wHi (wVal 0 (absV a)*pow2 s.toNat%340282366920938463463374607431768211456)) (wLo (wVal 0 (absV a)*pow2 s.toNat%340282366920938463463374607431768211456))/pow2 s.toNat)==0&&(wLo (wVal (wHi (wVal 0 (absV a)*pow2 s.toNat%340282366920938463463374607431768211456)) (wLo (wVal 0 (absV a)*pow2 s.toNat%340282366920938463463374607431768211456))/pow2 s.toNat)==absV a&&true)),false),(isU (wHi (wVal 0 (absV a)*pow2 s.toNat%340282366920938463463374607431768211456)),true),(isU (wLo (wVal 0 (absV a)*pow2 s.toNat%340282366920938463463374607431768211456)),true),(decide (0≤s)&&decide (s<128),true),(isU 0,true),(isU (absV a),true),(decide (0≤s)&&decide (s<128),true),(isI a,true),(decide (s>127),false),(decide (s<0),false),(decide (s<0),false),(decide (s<0),false)]):=by kernel_rfl
def wshiftT (a s:Int):Option (LV×List (Bool×Bool)):=
 bif (decide (s<0)) then some (LV.tup [V1.agg [At.int IntKind.i64 0,At.int IntKind.u64 0],V1.one (At.bool false)],[])
 else
  bif (decide (s>127)) then some (LV.tup [V1.agg [At.int IntKind.i64 0,At.int IntKind.u64 0],V1.one (At.bool false)],[])
  else
   bif (!(wHi (wVal (wHi (wVal 0 (absV a)*pow2 s.toNat%340282366920938463463374607431768211456)) (wLo (wVal 0 (absV a)*pow2 s.toNat%340282366920938463463374607431768211456))/pow2 s.toNat)==0&&(wLo (wVal (wHi (wVal 0 (absV a)*pow2 s.toNat%340282366920938463463374607431768211456)) (wLo (wVal 0 (absV a)*pow2 s.toNat%340282366920938463463374607431768211456))/pow2 s.toNat)==absV a&&true))) then some (LV.tup [V1.agg [At.int IntKind.i64 0,At.int IntKind.u64 0],V1.one (At.bool false)],[(isU (wHi (wVal 0 (absV a)*pow2 s.toNat%340282366920938463463374607431768211456)),true),(isU (wLo (wVal 0 (absV a)*pow2 s.toNat%340282366920938463463374607431768211456)),true),(decide (0≤s)&&decide (s<128),true),(isU 0,true),(isU (absV a),true),(isI a,true)])
   else
    bif (!isW (sgn (decide (a<0)) (wVal (wHi (wVal 0 (absV a)*pow2 s.toNat%340282366920938463463374607431768211456)) (wLo (wVal 0 (absV a)*pow2 s.toNat%340282366920938463463374607431768211456))))) then some (LV.tup [V1.agg [At.int IntKind.i64 0,At.int IntKind.u64 0],V1.one (At.bool false)],[(isU (wHi (wVal 0 (absV a)*pow2 s.toNat%340282366920938463463374607431768211456)),true),(isU (wLo (wVal 0 (absV a)*pow2 s.toNat%340282366920938463463374607431768211456)),true),(decide (0≤s)&&decide (s<128),true),(isU 0,true),(isU (absV a),true),(isI a,true)])
    else some (LV.tup [V1.agg [At.int IntKind.i64 (w64 (wHi (sgn (decide (a<0)) (wVal (wHi (wVal 0 (absV a)*pow2 s.toNat%340282366920938463463374607431768211456)) (wLo (wVal 0 (absV a)*pow2 s.toNat%340282366920938463463374607431768211456)))))),At.int IntKind.u64 (wLo (sgn (decide (a<0)) (wVal (wHi (wVal 0 (absV a)*pow2 s.toNat%340282366920938463463374607431768211456)) (wLo (wVal 0 (absV a)*pow2 s.toNat%340282366920938463463374607431768211456)))))],V1.one (At.bool true)],[(isU (wHi (wVal 0 (absV a)*pow2 s.toNat%340282366920938463463374607431768211456)),true),(isU (wLo (wVal 0 (absV a)*pow2 s.toNat%340282366920938463463374607431768211456)),true),(decide (0≤s)&&decide (s<128),true),(isU 0,true),(isU (absV a),true),(isI a,true)])
def wshiftF:List LV→Option (LV×List (Bool×Bool))
 | [.v (.one (.int .i64 a)),.v (.one (.int .i64 s))]=>wshiftT a s
 | _=>none
theorem sumwshift:SumOK Tryz.prog 113 (pureSum wshiftF):=by
 refine pureSum_run (z:=Zl) sound6 (own_of sound6 Tryz.func113 (by kernel_rfl)) fun args v cs hF hc=> ?_
 unfold wshiftF at hF
 split at hF
 ·rename_i a s
  unfold wshiftT at hF
  rcases bool_cases (decide (s<0)) with h0 | h0
  ·rw [cond_t h0] at hF
   cases hF
   exact ⟨2000,[some true,some true,some true,none],_,wshiftR1 a s,ae_cons (h0) (ae_cons (h0) (ae_cons (h0) (ae_nil)))⟩
  ·rw [cond_f h0] at hF
   rcases bool_cases (decide (s>127)) with h1 | h1
   ·rw [cond_t h1] at hF
    cases hF
    exact ⟨2000,[some false,some false,some false,some true],_,wshiftR2 a s,ae_cons (h1) (ae_cons (h0) (ae_cons (h0) (ae_cons (h0) (ae_nil))))⟩
   ·rw [cond_f h1] at hF
    rcases bool_cases (!(wHi (wVal (wHi (wVal 0 (absV a)*pow2 s.toNat%340282366920938463463374607431768211456)) (wLo (wVal 0 (absV a)*pow2 s.toNat%340282366920938463463374607431768211456))/pow2 s.toNat)==0&&(wLo (wVal (wHi (wVal 0 (absV a)*pow2 s.toNat%340282366920938463463374607431768211456)) (wLo (wVal 0 (absV a)*pow2 s.toNat%340282366920938463463374607431768211456))/pow2 s.toNat)==absV a&&true))) with h2 | h2
    ·rw [cond_t h2] at hF
     cases hF
     exact ⟨2000,[some false,some false,some false,some false,some true],_,wshiftR3 a s,ae_cons (h2) (ae_cons (hd_of (hc)) (ae_cons (hd_of (tl_of (hc))) (ae_cons (hd_of (tl_of (tl_of (hc)))) (ae_cons (hd_of (tl_of (tl_of (tl_of (hc))))) (ae_cons (hd_of (tl_of (tl_of (tl_of (tl_of (hc)))))) (ae_cons (hd_of (tl_of (tl_of (hc)))) (ae_cons (hd_of (tl_of (tl_of (tl_of (tl_of (tl_of (hc))))))) (ae_cons (h1) (ae_cons (h0) (ae_cons (h0) (ae_cons (h0) (ae_nil))))))))))))⟩
    ·rw [cond_f h2] at hF
     rcases bool_cases (!isW (sgn (decide (a<0)) (wVal (wHi (wVal 0 (absV a)*pow2 s.toNat%340282366920938463463374607431768211456)) (wLo (wVal 0 (absV a)*pow2 s.toNat%340282366920938463463374607431768211456))))) with h3 | h3
     ·rw [cond_t h3] at hF
      cases hF
      exact ⟨2000,[some false,some false,some false,some false,some false,some true],_,wshiftR4 a s,ae_cons (h3) (ae_cons (hd_of (hc)) (ae_cons (hd_of (tl_of (hc))) (ae_cons (h2) (ae_cons (hd_of (hc)) (ae_cons (hd_of (tl_of (hc))) (ae_cons (hd_of (tl_of (tl_of (hc)))) (ae_cons (hd_of (tl_of (tl_of (tl_of (hc))))) (ae_cons (hd_of (tl_of (tl_of (tl_of (tl_of (hc)))))) (ae_cons (hd_of (tl_of (tl_of (hc)))) (ae_cons (hd_of (tl_of (tl_of (tl_of (tl_of (tl_of (hc))))))) (ae_cons (h1) (ae_cons (h0) (ae_cons (h0) (ae_cons (h0) (ae_nil)))))))))))))))⟩
     ·rw [cond_f h3] at hF
      cases hF
      exact ⟨2000,[some false,some false,some false,some false,some false,some false],_,wshiftR5 a s,ae_cons (h3) (ae_cons (hd_of (hc)) (ae_cons (hd_of (tl_of (hc))) (ae_cons (h2) (ae_cons (hd_of (hc)) (ae_cons (hd_of (tl_of (hc))) (ae_cons (hd_of (tl_of (tl_of (hc)))) (ae_cons (hd_of (tl_of (tl_of (tl_of (hc))))) (ae_cons (hd_of (tl_of (tl_of (tl_of (tl_of (hc)))))) (ae_cons (hd_of (tl_of (tl_of (hc)))) (ae_cons (hd_of (tl_of (tl_of (tl_of (tl_of (tl_of (hc))))))) (ae_cons (h1) (ae_cons (h0) (ae_cons (h0) (ae_cons (h0) (ae_nil)))))))))))))))⟩
 ·cases hF
end Go.Proofs.YtnlhpaidmiogbaaGreat

/- wide: what Mul, Round, Shift come to, in numbers. -/
namespace Go.Proofs.YtnlhpaidmiogbaaGreat
open Go.Lr
set_option linter.unusedVariables false
set_option linter.unusedSimpArgs false
theorem absI {a:Int} (h0: -9223372036854775808≤a) (h1:a<9223372036854775808):absV a≤9223372036854775808:=by unfold absV;split <;> omega
theorem isU_lo (v:Int):isU (wLo v)=true:=isU_iff.2 (wLo_in v)
theorem w64_hi {v:Int} (h0: -170141183460469231731687303715884105728≤v) (h1:v<170141183460469231731687303715884105728):w64 (wHi v)=wHi v:=w64_in (wHi_inI v h0 h1).1 (wHi_inI v h0 h1).2
def mulS:List LV→Option (LV×List (Bool×Bool))
 | [.v (.one (.int .i64 a)),.v (.one (.int .i64 b))]=>some (.v (W1 (a*b)),[(isI a,true),(isI b,true)])
 | _=>none
theorem sumMul:SumOK Tryz.prog 42 (pureSum mulS):=by
 refine sumwmul.pure_re fun args v cs hF hc=> ?_
 unfold mulS at hF
 split at hF
 ·rename_i a b
  cases hF
  simp only [all_tt,isI_iff] at hc
  obtain ⟨⟨ha0,ha1⟩,⟨hb0,hb1⟩,-⟩:=hc
  have pa:=absI ha0 ha1
  have pb:=absI hb0 hb1
  obtain ⟨q0,q1⟩:=prod_lt pa pb
  have na:=absV_nn a
  have nb:=absV_nn b
  have n0:=Int.mul_nonneg na nb
  have n1:absV a*absV b≤9223372036854775808*9223372036854775808:=Int.mul_le_mul pa pb nb (by omega)
  have e:wVal (absV a*absV b/18446744073709551616) (absV a*absV b%18446744073709551616)=absV a*absV b:=wVal_mk _
  refine ⟨_,agg2 (a:=w64 _) _ ?_ ?_, ?_⟩
  ·rw [e,sgn_mul,w64_hi (by omega) (by omega)]
  ·rw [e,sgn_mul]
  ·simp only [all_tt,isU_iff,isI_iff]
   refine ⟨⟨?_, ?_⟩,⟨?_, ?_⟩,⟨?_, ?_⟩,⟨?_, ?_⟩,⟨?_, ?_⟩,⟨?_, ?_⟩,ae_nil⟩ <;> omega
 ·cases hF
theorem halfP_le (s:Nat):0≤halfP s∧halfP s≤pow2 s:=by
 cases s with
 | zero=>exact ⟨by decide,by decide⟩
 | succ n=>have:=pow2_pos n;have:=pow2_succ n;exact ⟨by show 0≤pow2 n;omega,by show pow2 n≤pow2 (n+1);omega⟩
def roundS:List LV→Option (LV×List (Bool×Bool))
 | [.v (.agg [.int .i64 x,.int .u64 y]),.v (.one (.int .i64 s))]=>
  some (.tup [.one (.int .i64 (if isI (rndV (wVal x y) s.toNat)=true then rndV (wVal x y) s.toNat else 0)),.one (.bool (isI (rndV (wVal x y) s.toNat)))],[(isI x,true),(isU y,true),(decide (0≤s)&&decide (s≤126),true)])
 | _=>none
theorem sumRound:SumOK Tryz.prog 180 (pureSum roundS):=by
 refine sumwround.pure_re fun args v cs hF hc=> ?_
 unfold roundS at hF
 split at hF
 ·rename_i x y s
  cases hF
  simp only [all_tt,isI_iff,isU_iff,Bool.and_eq_true,decide_eq_true_eq] at hc
  obtain ⟨⟨hx0,hx1⟩,⟨hy0,hy1⟩,⟨hs0,hs1⟩,-⟩:=hc
  show ∃cs',wroundT x y s=_∧_
  have hv0: -170141183460469231731687303715884105728≤wVal x y:=by unfold wVal;omega
  have hv1:wVal x y<170141183460469231731687303715884105728:=by unfold wVal;omega
  generalize hv:wVal x y=v at *
  have va:absV v≤170141183460469231731687303715884105728:=by unfold absV;split <;> omega
  have va0:=absV_nn v
  unfold wroundT
  rw [cond_f (decide_eq_false (by omega)),cond_f (decide_eq_false (by omega))]
  simp only [wVal_mk,hv]
  have e01:wVal 0 1=1:=rfl
  have hp:=pow2_pos s.toNat
  by_cases h:s>0
  ·have hw:wr .i64 (s - 1)=s - 1:=w64s (by omega) (by omega)
   have hn:s.toNat=(s - 1).toNat+1:=by omega
   have hp1:=pow2_pos (s - 1).toNat
   have hp2:pow2 (s - 1).toNat≤85070591730234615865843651857942052864:=pow2_le (n:=126) _ (by omega) (by decide)
   have e1:1*pow2 (s - 1).toNat%340282366920938463463374607431768211456=pow2 (s - 1).toNat:=by rw [Int.one_mul];omega
   have e2:(absV v+pow2 (s - 1).toNat)%340282366920938463463374607431768211456=absV v+pow2 (s - 1).toNat:=by omega
   have q0:0≤(absV v+pow2 (s - 1).toNat)/pow2 s.toNat:=Int.ediv_nonneg (by omega) (by omega)
   have q1:(absV v+pow2 (s - 1).toNat)/pow2 s.toNat≤absV v+pow2 (s - 1).toNat:=Int.ediv_le_self _ (by omega)
   have er:rndV v s.toNat=sgn (decide (v<0)) ((absV v+pow2 (s - 1).toNat)/pow2 s.toNat):=by
    unfold rndV;congr 2;rw [hn];rfl
   rw [cond_t (decide_eq_true h)]
   simp only [hw,e01,e1,e2,←er]
   refine ⟨_,rfl, ?_⟩
   simp only [all_tt,isU_iff,isI_iff,Bool.and_eq_true,decide_eq_true_eq]
   repeat' apply And.intro
   all_goals first | exact ae_nil | (unfold wHi;omega) | (unfold wLo;omega) | omega
  ·have hs:s=0:=by omega
   subst hs
   have e1:pow2 (Int.toNat 0)=1:=rfl
   have er:rndV v (Int.toNat 0)=sgn (decide (v<0)) (absV v/pow2 (Int.toNat 0)):=by
    unfold rndV;congr 2;show absV v+0=_;omega
   rw [cond_f (decide_eq_false h)]
   simp only [←er]
   refine ⟨_,rfl, ?_⟩
   simp only [all_tt,isU_iff,isI_iff,Bool.and_eq_true,decide_eq_true_eq,e1,Int.ediv_one]
   repeat' apply And.intro
   all_goals first | exact ae_nil | (unfold wHi;omega) | (unfold wLo;omega) | omega
 ·cases hF
def shiftS:List LV→Option (LV×List (Bool×Bool))
 | [.v (.one (.int .i64 a)),.v (.one (.int .i64 s))]=>
  some (.tup [W1 (a*pow2 s.toNat),.one (.bool true)],[(isI a,true),(decide (0≤s)&&decide (s≤127),true),(decide (absV a*pow2 s.toNat<170141183460469231731687303715884105728),true)])
 | _=>none
theorem sumShift:SumOK Tryz.prog 113 (pureSum shiftS):=by
 refine sumwshift.pure_re fun args v cs hF hc=> ?_
 unfold shiftS at hF
 split at hF
 ·rename_i a s
  cases hF
  simp only [all_tt,isI_iff,isU_iff,Bool.and_eq_true,decide_eq_true_eq] at hc
  obtain ⟨⟨ha0,ha1⟩,⟨hs0,hs1⟩,hb,-⟩:=hc
  show ∃cs',wshiftT a s=_∧_
  have pa:=absI ha0 ha1
  have na:=absV_nn a
  have hp:=pow2_pos s.toNat
  have n0:0≤absV a*pow2 s.toNat:=Int.mul_nonneg na (by omega)
  have e0:wVal 0 (absV a)=absV a:=by unfold wVal;omega
  have e1:absV a*pow2 s.toNat%340282366920938463463374607431768211456=absV a*pow2 s.toNat:=by omega
  have e2:absV a*pow2 s.toNat/pow2 s.toNat=absV a:=Int.mul_ediv_cancel _ (by omega)
  have e3:sgn (decide (a<0)) (absV a*pow2 s.toNat)=a*pow2 s.toNat:=by
   by_cases h:a<0
   ·unfold sgn absV;simp [h]
    grind
   ·unfold sgn absV;simp [h]
  have e4:wHi (absV a)=0:=by unfold wHi;omega
  have e5:wLo (absV a)=absV a:=by unfold wLo;omega
  have hR: -170141183460469231731687303715884105728≤a*pow2 s.toNat∧a*pow2 s.toNat<170141183460469231731687303715884105728:=by
   have h4:absV (a*pow2 s.toNat)=absV a*pow2 s.toNat:=by rw [absV_mul,absV_pos (a:=pow2 s.toNat) (by omega)]
   have h5:absV (a*pow2 s.toNat)<170141183460469231731687303715884105728:=by rw [h4];exact hb
   generalize a*pow2 s.toNat=t at h5 ⊢
   unfold absV at h5
   split at h5 <;> omega
  unfold wshiftT
  rw [cond_f (decide_eq_false (by omega)),cond_f (decide_eq_false (by omega))]
  simp only [wVal_mk,e0,e1,e2,e3,e4,e5]
  rw [cond_f (by simp),cond_f (by rw [isW_iff.2 ⟨hR.1,hR.2⟩];rfl)]
  refine ⟨_,tup21 _ (w64_hi hR.1 hR.2) rfl rfl, ?_⟩
  simp only [all_tt,isU_iff,isI_iff,Bool.and_eq_true,decide_eq_true_eq]
  repeat' apply And.intro
  all_goals first | exact ae_nil | (unfold wHi;omega) | (unfold wLo;omega) | omega
 ·cases hF
end Go.Proofs.YtnlhpaidmiogbaaGreat

/- math/bits.Len64 and LeadingZeros64: what they come to. -/
namespace Go.Proofs.YtnlhpaidmiogbaaGreat
open Go.Lr
theorem bitLenAux_spec:∀(f x:Nat),0<x→x<2 ^ f→1≤Lib.bitLenAux f x∧Lib.bitLenAux f x≤f∧2 ^ (Lib.bitLenAux f x - 1)≤x∧x<2 ^ Lib.bitLenAux f x
 | 0,x,h0,h1=>by simp at h1;omega
 | f+1,x,h0,h1=>by
  simp only [Lib.bitLenAux]
  rw [if_neg (by omega)]
  by_cases h:x/2=0
  ·have:x=1:=by omega
   subst this
   have:Lib.bitLenAux f (1/2)=0:=by cases f <;> simp [Lib.bitLenAux]
   rw [this]
   exact ⟨by omega,by omega,by decide,by decide⟩
  ·obtain ⟨a,b,c,d⟩:=bitLenAux_spec f (x/2) (by omega) (by rw [Nat.pow_succ] at h1;omega)
   generalize Lib.bitLenAux f (x/2)=n at *
   refine ⟨by omega,by omega, ?_, ?_⟩
   ·have e:1+n - 1=(n - 1)+1:=by omega
    rw [e,Nat.pow_succ];omega
   ·have e:1+n=n+1:=by omega
    rw [e,Nat.pow_succ];omega
theorem bitLen_spec (x:Nat) (h0:0<x) (h1:x<2 ^ 64):1≤Lib.bitLen x∧Lib.bitLen x≤64∧2 ^ (Lib.bitLen x - 1)≤x∧x<2 ^ Lib.bitLen x:=bitLenAux_spec 64 x h0 h1
def len64S:List LV→Option (LV×List (Bool×Bool))
 | [.v (.one (.int .u64 x))]=>some (.v (.one (.int .i64 (Lib.bitLen x.toNat))),[(isU x,true)])
 | _=>none
theorem sumLen64:SumOK Tryz.prog 231 (pureSum len64S):=by
 refine pureSum_ok fun args v cs hF hc w=> ?_
 unfold len64S at hF
 split at hF
 ·rename_i x
  cases hF
  obtain ⟨h0,h1⟩:=isU_iff.1 (hc (isU x,true) (by simp))
  refine callOK_of (own_of sound0 Tryz.func231 (by kernel_rfl)) ((lenBits x w h0 (by omega)).mono fun e w' he=>⟨he.1, ?_⟩)
  rw [he.2];exact .refl _ _
 ·cases hF
def S7:FuncId→Option SumK:=more (more (more (more S6 231 (pureSum len64S)) 42 (pureSum mulS)) 180 (pureSum roundS)) 113 (pureSum shiftS)
theorem sound7:Sound Tryz.prog S7:=(((sound6.more sumLen64).more sumMul).more sumRound).more sumShift
def lzV (x:Int):Int:=64 - (Lib.bitLen x.toNat:Int)
def lzS:List LV→Option (LV×List (Bool×Bool))
 | [.v (.one (.int .u64 x))]=>some (.v (.one (.int .i64 (lzV x))),[(isU x,true),(decide (0<x),true)])
 | _=>none
theorem runLz (x:Int):(runF Tryz.prog S7 Zl 200 190 [.v (.one (.int .u64 x))] [] 0 []).map (fun r=>(r.1,r.2.2.2))=some (.v (.one (.int .i64 (wr .i64 (64 - (Lib.bitLen x.toNat:Int))))),[(isU x,true)]):=by kernel_rfl
theorem lzV_spec {x:Int} (h0:0<x) (h1:x<18446744073709551616):0≤lzV x∧lzV x≤63∧9223372036854775808≤x*pow2 (lzV x).toNat∧x*pow2 (lzV x).toNat<18446744073709551616:=by
 obtain ⟨a,b,c,d⟩:=bitLen_spec x.toNat (by omega) (by omega)
 unfold lzV
 generalize Lib.bitLen x.toNat=n at *
 have e:(64 - (n:Int)).toNat=64 - n:=by omega
 rw [e]
 refine ⟨by omega,by omega, ?_, ?_⟩
 ·have h2:pow2 (n - 1)*pow2 (64 - n)=9223372036854775808:=by
   rw [←pow2_add,show n - 1+(64 - n)=63 by omega];decide
  have h3:pow2 (n - 1)≤x:=by
   have:((2 ^ (n - 1):Nat):Int)≤(x.toNat:Int):=Int.ofNat_le.2 c
   have e2:pow2 (n - 1)=((2 ^ (n - 1):Nat):Int):=rfl
   omega
  calc (9223372036854775808:Int)=pow2 (n - 1)*pow2 (64 - n):=h2.symm
   _≤x*pow2 (64 - n):=Int.mul_le_mul_of_nonneg_right h3 (Int.le_of_lt (pow2_pos _))
 ·have h2:pow2 n*pow2 (64 - n)=18446744073709551616:=by
   rw [←pow2_add,show n+(64 - n)=64 by omega];decide
  have h3:x<pow2 n:=by
   have:(x.toNat:Int)<((2 ^ n:Nat):Int):=Int.ofNat_lt.2 d
   have e2:pow2 n=((2 ^ n:Nat):Int):=rfl
   omega
  calc x*pow2 (64 - n)<pow2 n*pow2 (64 - n):=Int.mul_lt_mul_of_pos_right h3 (pow2_pos _)
   _=18446744073709551616:=h2
theorem sumLz:SumOK Tryz.prog 190 (pureSum lzS):=by
 refine pureSum_run (z:=Zl) sound7 (own_of sound7 Tryz.func190 (by kernel_rfl)) fun args v cs hF hc=> ?_
 unfold lzS at hF
 split at hF
 ·rename_i x
  cases hF
  simp only [all_tt,isU_iff,decide_eq_true_eq] at hc
  obtain ⟨⟨h0,h1⟩,h2,-⟩:=hc
  have h:=runLz x
  obtain ⟨a,b,_,_⟩:=lzV_spec h2 h1
  have e:wr .i64 (64 - (Lib.bitLen x.toNat:Int))=lzV x:=w64s (by unfold lzV at a;omega) (by unfold lzV at b;omega)
  rw [e] at h
  exact ⟨200,[],_,h,by simp only [all_tt,isU_iff];exact ⟨⟨h0,h1⟩,ae_nil⟩⟩
 ·cases hF
def S8:FuncId→Option SumK:=more S7 190 (pureSum lzS)
theorem sound8:Sound Tryz.prog S8:=sound7.more sumLz
end Go.Proofs.YtnlhpaidmiogbaaGreat

/- wide.Root: its walk, round by round. -/
namespace Go.Proofs.YtnlhpaidmiogbaaGreat
open Go.Lr
set_option linter.unusedVariables false
set_option linter.unusedSimpArgs false
theorem rootA (dead:Nat→Value) (x y:Int):projS [4,5] [1,2] (execL Tryz.prog S8 Zl 200 (spineL 3 (bodyF Tryz.prog 184)) (Kst.st ⟨argsL 0 [.v (.agg [.int .i64 x,.int .u64 y])],[],0⟩ 51 dead [some false]))=some (Ex.normal,[LV.v (V1.one (At.ptr 1 0)),LV.v (V1.one (At.ptr 2 0))],[some { ty:=203,fr:=(0,0),es:=0,cells:=[At.int IntKind.u64 (wr IntKind.u64 x),At.int IntKind.u64 y] },some { ty:=203,fr:=(0,0),es:=0,cells:=[At.int IntKind.u64 0,At.int IntKind.u64 0] }],[(decide (x<0),false)]):=by kernel_rfl
theorem rootA0 (dead:Nat→Value) (x y:Int):projS [2,3] [] (exec Tryz.prog S8 Zl 200 (.code (bodyF Tryz.prog 184)) (Kst.st ⟨argsL 0 [.v (.agg [.int .i64 x,.int .u64 y])],[],0⟩ 51 dead [some true]))=some (Ex.ret,[LV.v (V1.one (At.int IntKind.i64 0)),LV.v (V1.one (At.bool false))],[],[(decide (x<0),true)]):=by kernel_rfl
theorem rootB (dead:Nat→Value) (p q x y:Int):projS [4,5,6] [1,2] (exec Tryz.prog S8 Zl 200 (.code (c1 (c1 (dropC 3 (bodyF Tryz.prog 184))))) (Kst.st ⟨[(4,.v (.one (.ptr 1 0))),(5,.v (.one (.ptr 2 0)))],[(1,⟨203,(0,0),0,[.int .u64 p,.int .u64 q]⟩),(2,⟨203,(0,0),0,[.int .u64 x,.int .u64 y]⟩)],3⟩ 51 dead []))=some (Ex.normal,[LV.v (V1.one (At.ptr 1 0)),LV.v (V1.one (At.ptr 2 0)),LV.v (V1.one (At.int IntKind.i64 126))],[some { ty:=203,fr:=(0,0),es:=0,cells:=[At.int IntKind.u64 p,At.int IntKind.u64 q] },some { ty:=203,fr:=(0,0),es:=0,cells:=[At.int IntKind.u64 x,At.int IntKind.u64 y] }],[]):=by kernel_rfl
theorem rootC (dead:Nat→Value) (t p q x y:Int):projS [4,5] [1,2] (exec Tryz.prog S8 Zl 200 (.code (c1 (c1 (c2 (c1 (dropC 3 (bodyF Tryz.prog 184))))))) (Kst.st ⟨[(4,.v (.one (.ptr 1 0))),(5,.v (.one (.ptr 2 0))),(6,.v (.one (.int .i64 t)))],[(1,⟨203,(0,0),0,[.int .u64 p,.int .u64 q]⟩),(2,⟨203,(0,0),0,[.int .u64 x,.int .u64 y]⟩)],3⟩ 51 dead [some false]))=some (Ex.exit 0,[LV.v (V1.one (At.ptr 1 0)),LV.v (V1.one (At.ptr 2 0))],[some { ty:=203,fr:=(0,0),es:=0,cells:=[At.int IntKind.u64 p,At.int IntKind.u64 q] },some { ty:=203,fr:=(0,0),es:=0,cells:=[At.int IntKind.u64 x,At.int IntKind.u64 y] }],[(decide (t≥0),false)]):=by kernel_rfl
theorem rootD (dead:Nat→Value) (t p q x y:Int):projS [4,5,6] [1,2] (exec Tryz.prog S8 Zl 200 (.code (c1 (c1 (c2 (c1 (dropC 3 (bodyF Tryz.prog 184))))))) (Kst.st ⟨[(4,.v (.one (.ptr 1 0))),(5,.v (.one (.ptr 2 0))),(6,.v (.one (.int .i64 t)))],[(1,⟨203,(0,0),0,[.int .u64 p,.int .u64 q]⟩),(2,⟨203,(0,0),0,[.int .u64 x,.int .u64 y]⟩)],3⟩ 51 dead [some true,some true]))=some (Ex.normal,[LV.v (V1.one (At.ptr 1 0)),LV.v (V1.one (At.ptr 2 0)),LV.v (V1.one (At.int IntKind.i64 (wr IntKind.i64 (t - 2))))],[some { ty:=203,fr:=(0,0),es:=0,cells:=[At.int IntKind.u64 (wHi ((wVal p q - wVal (wHi ((wVal x y+wVal (wHi (wVal 0 1*pow2 t.toNat%340282366920938463463374607431768211456)) (wLo (wVal 0 1*pow2 t.toNat%340282366920938463463374607431768211456)))%340282366920938463463374607431768211456)) (wLo ((wVal x y+wVal (wHi (wVal 0 1*pow2 t.toNat%340282366920938463463374607431768211456)) (wLo (wVal 0 1*pow2 t.toNat%340282366920938463463374607431768211456)))%340282366920938463463374607431768211456)))%340282366920938463463374607431768211456)),At.int IntKind.u64 (wLo ((wVal p q - wVal (wHi ((wVal x y+wVal (wHi (wVal 0 1*pow2 t.toNat%340282366920938463463374607431768211456)) (wLo (wVal 0 1*pow2 t.toNat%340282366920938463463374607431768211456)))%340282366920938463463374607431768211456)) (wLo ((wVal x y+wVal (wHi (wVal 0 1*pow2 t.toNat%340282366920938463463374607431768211456)) (wLo (wVal 0 1*pow2 t.toNat%340282366920938463463374607431768211456)))%340282366920938463463374607431768211456)))%340282366920938463463374607431768211456))] },some { ty:=203,fr:=(0,0),es:=0,cells:=[At.int IntKind.u64 (wHi ((wVal (wHi (wVal x y/pow2 (Int.toNat 1))) (wLo (wVal x y/pow2 (Int.toNat 1)))+wVal (wHi (wVal 0 1*pow2 t.toNat%340282366920938463463374607431768211456)) (wLo (wVal 0 1*pow2 t.toNat%340282366920938463463374607431768211456)))%340282366920938463463374607431768211456)),At.int IntKind.u64 (wLo ((wVal (wHi (wVal x y/pow2 (Int.toNat 1))) (wLo (wVal x y/pow2 (Int.toNat 1)))+wVal (wHi (wVal 0 1*pow2 t.toNat%340282366920938463463374607431768211456)) (wLo (wVal 0 1*pow2 t.toNat%340282366920938463463374607431768211456)))%340282366920938463463374607431768211456))] }],[(isU (wHi (wVal x y/pow2 (Int.toNat 1))),true),(isU (wLo (wVal x y/pow2 (Int.toNat 1))),true),(isU (wHi (wVal 0 1*pow2 t.toNat%340282366920938463463374607431768211456)),true),(isU (wLo (wVal 0 1*pow2 t.toNat%340282366920938463463374607431768211456)),true),(isU p,true),(isU q,true),(isU (wHi ((wVal x y+wVal (wHi (wVal 0 1*pow2 t.toNat%340282366920938463463374607431768211456)) (wLo (wVal 0 1*pow2 t.toNat%340282366920938463463374607431768211456)))%340282366920938463463374607431768211456)),true),(isU (wLo ((wVal x y+wVal (wHi (wVal 0 1*pow2 t.toNat%340282366920938463463374607431768211456)) (wLo (wVal 0 1*pow2 t.toNat%340282366920938463463374607431768211456)))%340282366920938463463374607431768211456)),true),(!decide (wVal p q<wVal (wHi ((wVal x y+wVal (wHi (wVal 0 1*pow2 t.toNat%340282366920938463463374607431768211456)) (wLo (wVal 0 1*pow2 t.toNat%340282366920938463463374607431768211456)))%340282366920938463463374607431768211456)) (wLo ((wVal x y+wVal (wHi (wVal 0 1*pow2 t.toNat%340282366920938463463374607431768211456)) (wLo (wVal 0 1*pow2 t.toNat%340282366920938463463374607431768211456)))%340282366920938463463374607431768211456))),true),(isU q,true),(isU (wLo ((wVal x y+wVal (wHi (wVal 0 1*pow2 t.toNat%340282366920938463463374607431768211456)) (wLo (wVal 0 1*pow2 t.toNat%340282366920938463463374607431768211456)))%340282366920938463463374607431768211456)),true),(isU x,true),(isU y,true),(decide (0≤1)&&decide (1<128),true),(isU x,true),(isU y,true),(isU (wHi (wVal 0 1*pow2 t.toNat%340282366920938463463374607431768211456)),true),(isU (wLo (wVal 0 1*pow2 t.toNat%340282366920938463463374607431768211456)),true),(isU 0,true),(isU 1,true),(decide (0≤t)&&decide (t<128),true),(decide (t≥0),true)]):=by kernel_rfl
theorem rootE (dead:Nat→Value) (t p q x y:Int):projS [4,5,6] [1,2] (exec Tryz.prog S8 Zl 200 (.code (c1 (c1 (c2 (c1 (dropC 3 (bodyF Tryz.prog 184))))))) (Kst.st ⟨[(4,.v (.one (.ptr 1 0))),(5,.v (.one (.ptr 2 0))),(6,.v (.one (.int .i64 t)))],[(1,⟨203,(0,0),0,[.int .u64 p,.int .u64 q]⟩),(2,⟨203,(0,0),0,[.int .u64 x,.int .u64 y]⟩)],3⟩ 51 dead [some true,some false]))=some (Ex.normal,[LV.v (V1.one (At.ptr 1 0)),LV.v (V1.one (At.ptr 2 0)),LV.v (V1.one (At.int IntKind.i64 (wr IntKind.i64 (t - 2))))],[some { ty:=203,fr:=(0,0),es:=0,cells:=[At.int IntKind.u64 p,At.int IntKind.u64 q] },some { ty:=203,fr:=(0,0),es:=0,cells:=[At.int IntKind.u64 (wHi (wVal x y/pow2 (Int.toNat 1))),At.int IntKind.u64 (wLo (wVal x y/pow2 (Int.toNat 1)))] }],[(!decide (wVal p q<wVal (wHi ((wVal x y+wVal (wHi (wVal 0 1*pow2 t.toNat%340282366920938463463374607431768211456)) (wLo (wVal 0 1*pow2 t.toNat%340282366920938463463374607431768211456)))%340282366920938463463374607431768211456)) (wLo ((wVal x y+wVal (wHi (wVal 0 1*pow2 t.toNat%340282366920938463463374607431768211456)) (wLo (wVal 0 1*pow2 t.toNat%340282366920938463463374607431768211456)))%340282366920938463463374607431768211456))),false),(isU q,true),(isU (wLo ((wVal x y+wVal (wHi (wVal 0 1*pow2 t.toNat%340282366920938463463374607431768211456)) (wLo (wVal 0 1*pow2 t.toNat%340282366920938463463374607431768211456)))%340282366920938463463374607431768211456)),true),(isU x,true),(isU y,true),(decide (0≤1)&&decide (1<128),true),(isU x,true),(isU y,true),(isU (wHi (wVal 0 1*pow2 t.toNat%340282366920938463463374607431768211456)),true),(isU (wLo (wVal 0 1*pow2 t.toNat%340282366920938463463374607431768211456)),true),(isU 0,true),(isU 1,true),(decide (0≤t)&&decide (t<128),true),(decide (t≥0),true)]):=by kernel_rfl
theorem rootF (dead:Nat→Value) (p q x y:Int):projS [2,3] [] (exec Tryz.prog S8 Zl 200 (.code (c2 (dropC 3 (bodyF Tryz.prog 184)))) (Kst.st ⟨[(4,.v (.one (.ptr 1 0))),(5,.v (.one (.ptr 2 0)))],[(1,⟨203,(0,0),0,[.int .u64 p,.int .u64 q]⟩),(2,⟨203,(0,0),0,[.int .u64 x,.int .u64 y]⟩)],3⟩ 51 dead [some true]))=some (Ex.ret,[LV.v (V1.one (At.int IntKind.i64 (if isI (sgn false (wVal (wHi ((wVal x y+wVal 0 1)%340282366920938463463374607431768211456)) (wLo ((wVal x y+wVal 0 1)%340282366920938463463374607431768211456))))=true then sgn false (wVal (wHi ((wVal x y+wVal 0 1)%340282366920938463463374607431768211456)) (wLo ((wVal x y+wVal 0 1)%340282366920938463463374607431768211456))) else 0))),LV.v (V1.one (At.bool (isI (sgn false (wVal (wHi ((wVal x y+wVal 0 1)%340282366920938463463374607431768211456)) (wLo ((wVal x y+wVal 0 1)%340282366920938463463374607431768211456)))))))],[],[(isU (wHi ((wVal x y+wVal 0 1)%340282366920938463463374607431768211456)),true),(isU (wLo ((wVal x y+wVal 0 1)%340282366920938463463374607431768211456)),true),(isU x,true),(isU y,true),(isU 0,true),(isU 1,true),(decide (wVal x y<wVal p q),true),(isU y,true),(isU q,true)]):=by kernel_rfl
theorem rootG (dead:Nat→Value) (p q x y:Int):projS [2,3] [] (exec Tryz.prog S8 Zl 200 (.code (c2 (dropC 3 (bodyF Tryz.prog 184)))) (Kst.st ⟨[(4,.v (.one (.ptr 1 0))),(5,.v (.one (.ptr 2 0)))],[(1,⟨203,(0,0),0,[.int .u64 p,.int .u64 q]⟩),(2,⟨203,(0,0),0,[.int .u64 x,.int .u64 y]⟩)],3⟩ 51 dead [some false]))=some (Ex.ret,[LV.v (V1.one (At.int IntKind.i64 (if isI (sgn false (wVal x y))=true then sgn false (wVal x y) else 0))),LV.v (V1.one (At.bool (isI (sgn false (wVal x y)))))],[],[(isU x,true),(isU y,true),(decide (wVal x y<wVal p q),false),(isU y,true),(isU q,true)]):=by kernel_rfl
noncomputable def rootBody:Code:=c2 (c1 (dropC 3 (bodyF Tryz.prog 184)))
abbrev P1:LV:= .v (.one (.ptr 1 0))
abbrev P2:LV:= .v (.one (.ptr 2 0))
def bigB (v:Int):Blk:=⟨203,(0,0),0,[.int .u64 (wHi v),.int .u64 (wLo v)]⟩
def rtA (p r t:Int):Kst:=⟨[(4,P1),(5,P2),(6,.v (.one (.int .i64 t)))],[(1,bigB p),(2,bigB r)],3⟩
def rtB (p r:Int):Kst:=⟨[(4,P1),(5,P2)],[(1,bigB p),(2,bigB r)],3⟩
theorem rootStep (N:Int) (hN:N<170141183460469231731687303715884105728) (m:Nat) (hm:m≤63) (p r:Int) (h:RtInv N (m+1) p r):
  To Tryz.prog 51 (c1 (c1 rootBody)) (rtA p r (2*(m:Int))) .normal (rtA (if p<r+pow2 (2*m) then p else p - (r+pow2 (2*m))) (if p<r+pow2 (2*m) then r/2 else r/2+pow2 (2*m)) (2*(m:Int) - 2)):=by
 obtain ⟨b0,b1,b2,b3⟩:=h.bd
 have ht:(2*(m:Int)).toNat=2*m:=by omega
 have hb0:=pow2_pos (2*m)
 have hb1:pow2 (2*m)≤85070591730234615865843651857942052864:=pow2_le (n:=126) _ (by omega) (by decide)
 have e0:wVal 0 1=1:=rfl
 have e1:pow2 (Int.toNat 1)=2:=rfl
 have e2:1*pow2 (2*m)%340282366920938463463374607431768211456=pow2 (2*m):=by rw [Int.one_mul];omega
 have e3:(r+pow2 (2*m))%340282366920938463463374607431768211456=r+pow2 (2*m):=by omega
 have e5:(r/2+pow2 (2*m))%340282366920938463463374607431768211456=r/2+pow2 (2*m):=by omega
 have e6:wr .i64 (2*(m:Int) - 2)=2*(m:Int) - 2:=w64s (by omega) (by omega)
 by_cases hlt:p<r+pow2 (2*m)
 ·rw [if_pos hlt,if_pos hlt]
  refine To.run (z:=Zl) sound8 (slots:=[4,5,6]) (blks:=[1,2]) (vs:=[P1,P2,.v (.one (.int .i64 (2*(m:Int) - 2)))]) (bs:=[bigB p,bigB (r/2)]) (nbB:=3) (fun dead=>rootE dead (2*(m:Int)) (wHi p) (wLo p) (wHi r) (wLo r)) rfl (by rw [e6]) (by simp only [wVal_mk,e1];rfl) ?_ (canB_ok (by rfl)) (Nat.le_refl _)
  ·simp only [wVal_mk,e0,e1,ht,e2,e3,all_tt,all_ff,isU_iff,Bool.and_eq_true,decide_eq_true_eq]
   refine ⟨by simpa using hlt, ?_⟩
   repeat' apply And.intro
   all_goals first | exact ae_nil | (unfold wHi;omega) | (unfold wLo;omega) | omega
 ·rw [if_neg hlt,if_neg hlt]
  have e4:(p - (r+pow2 (2*m)))%340282366920938463463374607431768211456=p - (r+pow2 (2*m)):=by omega
  refine To.run (z:=Zl) sound8 (slots:=[4,5,6]) (blks:=[1,2]) (vs:=[P1,P2,.v (.one (.int .i64 (2*(m:Int) - 2)))]) (bs:=[bigB (p - (r+pow2 (2*m))),bigB (r/2+pow2 (2*m))]) (nbB:=3) (fun dead=>rootD dead (2*(m:Int)) (wHi p) (wLo p) (wHi r) (wLo r)) rfl (by rw [e6]) (by simp only [wVal_mk,e0,e1,ht,e2,e3,e4,e5];rfl) ?_ (canB_ok (by rfl)) (Nat.le_refl _)
  ·simp only [wVal_mk,e0,e1,ht,e2,e3,e4,e5,all_tt,all_ff,isU_iff,Bool.and_eq_true,decide_eq_true_eq]
   repeat' apply And.intro
   all_goals first | exact ae_nil | (unfold wHi;omega) | (unfold wLo;omega) | omega | (simp;omega)
theorem rootEnd (p r:Int):To Tryz.prog 51 (c1 (c1 rootBody)) (rtA p r (-2)) (.exit 0) (rtB p r):=
 To.exec (z:=Zl) sound8 (slots:=[4,5]) (blks:=[1,2]) (vs:=[P1,P2]) (bs:=[bigB p,bigB r]) (nbB:=3) (fun dead=>rootC dead (-2) (wHi p) (wLo p) (wHi r) (wLo r)) (by simp) (canB_ok (by rfl)) (Nat.le_refl _)
theorem rootRd (N:Int) (hN:N<170141183460469231731687303715884105728):∀(m:Nat),m≤64→∀p r,RtInv N m p r→Rd Tryz.prog 51 (c1 (c1 rootBody)) (m+1) (rtA p r (2*(m:Int) - 2)) (.exit 0) (rtB (rtL m p r).1 (rtL m p r).2)
 | 0,_,p,r,h=>Rd.last (by simp) (rootEnd p r)
 | m+1,hm,p,r,h=>by
  have hs:=rootStep N hN m (by omega) p r h
  have e:2*((m+1:Nat):Int) - 2=2*(m:Int):=by omega
  rw [e]
  refine Rd.next hs ?_
  simp only [rtL]
  by_cases hlt:p<r+pow2 (2*m)
  ·rw [if_pos hlt,if_pos hlt,decide_eq_true hlt]
   exact rootRd N hN m (by omega) _ _ (h.half hlt)
  ·rw [if_neg hlt,if_neg hlt,decide_eq_false hlt]
   exact rootRd N hN m (by omega) _ _ (h.take hlt)
def rootS:List LV→Option (LV×List (Bool×Bool))
 | [.v (.agg [.int .i64 x,.int .u64 y])]=>
  match decide (x<0) with
  | true=>some (.tup [.one (.int .i64 0),.one (.bool false)],[])
  | false=>some (.tup [.one (.int .i64 (if isI (rootW (wVal x y))=true then rootW (wVal x y) else 0)),.one (.bool (isI (rootW (wVal x y))))],[(isI x,true),(isU y,true)])
 | _=>none
theorem sumRoot:SumOK Tryz.prog 184 (pureSum rootS):=by
 refine pureSum_ok fun args v cs hF hc w=> ?_
 unfold rootS at hF
 split at hF
 ·rename_i x y
  refine callOK_of (own_of sound8 Tryz.func184 (by kernel_rfl)) ?_
  split at hF
  ·rename_i hx
   cases hF
   refine calls_pure (c:=bodyF Tryz.prog 184) (e:= .ret) (B:=⟨[(2,.v (.one (.int .i64 0))),(3,.v (.one (.bool false)))],[],0⟩) Tryz.func184 (by kernel_rfl) (Nat.le_of_ble_eq_true (by kernel_rfl)) (Nat.le_of_ble_eq_true (by kernel_rfl)) rfl ?_ (.inr rfl) (fun dead=>by kernel_rfl) rfl w
   exact To.exec (z:=Zl) sound8 (slots:=[2,3]) (blks:=[]) (vs:=[_,_]) (bs:=[]) (nbB:=0) (fun dead=>rootA0 dead x y) (by simpa using hx) (canB_ok (by rfl)) (Nat.le_refl _)
  ·rename_i hx
   cases hF
   simp only [all_tt,isU_iff,isI_iff] at hc
   obtain ⟨⟨hx0,hx1⟩,⟨hy0,hy1⟩,-⟩:=hc
   have hx':0≤x:=by simpa using hx
   have hN0:0≤wVal x y:=by unfold wVal;omega
   have hN1:wVal x y<170141183460469231731687303715884105728:=by unfold wVal;omega
   have hux:wr .u64 x=x:=u64_in hx' (by omega)
   have hhx:wHi (wVal x y)=x:=hi_mk x y hy0 hy1
   have hhy:wLo (wVal x y)=y:=lo_mk x y hy0 hy1
   generalize hN:wVal x y=N at *
   have hI:=(RtInv.start hN0 (by omega)).run
   have hbd:=hI.bd
   have hrd:=rootRd N hN1 64 (by omega) N 0 (RtInv.start hN0 (by omega))
   refine calls_pure (c:=bodyF Tryz.prog 184) (e:= .ret) (B:=⟨[(2,.v (.one (.int .i64 (if isI (rootW N)=true then rootW N else 0)))),(3,.v (.one (.bool (isI (rootW N)))))],[],3⟩) Tryz.func184 (by kernel_rfl) (Nat.le_of_ble_eq_true (by kernel_rfl)) (Nat.le_of_ble_eq_true (by kernel_rfl)) rfl ?_ (.inr rfl) (fun dead=>by kernel_rfl) rfl w
   refine To.spineR (z:=Zl) sound8 (k:=3) (slots:=[4,5]) (blks:=[1,2]) (vs:=[P1,P2]) (bs:=[bigB N,bigB 0]) (nbB:=3) (by kernel_rfl) (fun dead=>rootA dead x y) rfl rfl (by rw [hux];unfold bigB;rw [hhx,hhy];rfl) (by simpa using hx) (canB_ok (by rfl)) (Nat.zero_le _) ?_
   ·refine To.seq (by kernel_rfl) (To.seq (by kernel_rfl) (To.exec (z:=Zl) sound8 (slots:=[4,5,6]) (blks:=[1,2]) (vs:=[P1,P2,.v (.one (.int .i64 126))]) (bs:=[bigB N,bigB 0]) (nbB:=3) (fun dead=>rootB dead (wHi N) (wLo N) (wHi 0) (wLo 0)) (by simp) (canB_ok (by rfl)) (Nat.le_refl _))
     (To.block (id:=0) (by kernel_rfl) (To.loop (by kernel_rfl) hrd) (.inl rfl))) ?_
    unfold rootW
    generalize rtL 64 N 0=q at *
    obtain ⟨p,r⟩:=q
    simp only at hbd ⊢
    obtain ⟨b0,b1,b2,b3⟩:=hbd
    have e0:wVal 0 1=1:=rfl
    by_cases hlt:r<p
    ·rw [if_pos hlt]
     have e1:(r+1)%340282366920938463463374607431768211456=r+1:=by omega
     refine To.run (z:=Zl) sound8 (slots:=[2,3]) (blks:=[]) (vs:=[.v (.one (.int .i64 (if isI (r+1)=true then r+1 else 0))),.v (.one (.bool (isI (r+1))))]) (bs:=[]) (nbB:=3) (fun dead=>rootF dead (wHi p) (wLo p) (wHi r) (wLo r)) rfl (by simp only [wVal_mk,e0,e1];rfl) rfl ?_ (canB_ok (by rfl)) (Nat.le_refl _)
     ·simp only [wVal_mk,e0,e1,all_tt,all_ff,isU_iff,decide_eq_true_eq]
      repeat' apply And.intro
      all_goals first | exact ae_nil | (unfold wHi;omega) | (unfold wLo;omega) | omega
    ·rw [if_neg hlt]
     refine To.run (z:=Zl) sound8 (slots:=[2,3]) (blks:=[]) (vs:=[.v (.one (.int .i64 (if isI r=true then r else 0))),.v (.one (.bool (isI r)))]) (bs:=[]) (nbB:=3) (fun dead=>rootG dead (wHi p) (wLo p) (wHi r) (wLo r)) rfl (by simp only [wVal_mk];rfl) rfl ?_ (canB_ok (by rfl)) (Nat.le_refl _)
     ·simp only [wVal_mk,all_tt,all_ff,isU_iff,decide_eq_false_iff_not]
      repeat' apply And.intro
      all_goals first | exact ae_nil | (unfold wHi;omega) | (unfold wLo;omega) | omega
 ·cases hF
end Go.Proofs.YtnlhpaidmiogbaaGreat

/- math/bits.Div64: its pieces' runs (printed). -/
namespace Go.Proofs.YtnlhpaidmiogbaaGreat
open Go.Lr
set_option linter.unusedVariables false
def U (n:Int):LV:= .v (.one (.int .u64 n))
theorem dvA (dead:Nat→Value) (h l y:Int):projS [2,8,9,10,11,13,14,15,16] [] (execL Tryz.prog S8 Zl 200 (spineL 14 (bodyF Tryz.prog 137)) (Kst.st ⟨argsL 0 [.v (.one (.int .u64 h)),.v (.one (.int .u64 l)),.v (.one (.int .u64 y))],[],0⟩ 135 dead [some false,some false,some false]))=some (Ex.normal,[LV.v (V1.one (At.int IntKind.u64 (wr IntKind.u64 (y*pow2 (min (wr IntKind.u64 (lzV y)).toNat IntKind.u64.bits))))),LV.v (V1.one (At.int IntKind.u64 (wr IntKind.u64 (lzV y)))),LV.v (V1.one (At.int IntKind.u64 (wr IntKind.u64 (y*pow2 (min (wr IntKind.u64 (lzV y)).toNat IntKind.u64.bits))/pow2 (min (Int.toNat 32) IntKind.u64.bits)))),LV.v (V1.one (At.int IntKind.u64 (Int.ofNat ((u64 (wr IntKind.u64 (y*pow2 (min (wr IntKind.u64 (lzV y)).toNat IntKind.u64.bits)))).toNat.land (u64 4294967295).toNat)))),LV.v (V1.one (At.int IntKind.u64 (Int.ofNat ((u64 (wr IntKind.u64 (h*pow2 (min (wr IntKind.u64 (lzV y)).toNat IntKind.u64.bits)))).toNat.lor (u64 (l/pow2 (min (wr IntKind.u64 (64 - wr IntKind.u64 (lzV y))).toNat IntKind.u64.bits))).toNat)))),LV.v (V1.one (At.int IntKind.u64 (wr IntKind.u64 (l*pow2 (min (wr IntKind.u64 (lzV y)).toNat IntKind.u64.bits))/pow2 (min (Int.toNat 32) IntKind.u64.bits)))),LV.v (V1.one (At.int IntKind.u64 (Int.ofNat ((u64 (wr IntKind.u64 (l*pow2 (min (wr IntKind.u64 (lzV y)).toNat IntKind.u64.bits)))).toNat.land (u64 4294967295).toNat)))),LV.v (V1.one (At.int IntKind.u64 (wr IntKind.u64 ((Int.ofNat ((u64 (wr IntKind.u64 (h*pow2 (min (wr IntKind.u64 (lzV y)).toNat IntKind.u64.bits)))).toNat.lor (u64 (l/pow2 (min (wr IntKind.u64 (64 - wr IntKind.u64 (lzV y))).toNat IntKind.u64.bits))).toNat)).tdiv (wr IntKind.u64 (y*pow2 (min (wr IntKind.u64 (lzV y)).toNat IntKind.u64.bits))/pow2 (min (Int.toNat 32) IntKind.u64.bits)))))),LV.v (V1.one (At.int IntKind.u64 (wr IntKind.u64 (Int.ofNat ((u64 (wr IntKind.u64 (h*pow2 (min (wr IntKind.u64 (lzV y)).toNat IntKind.u64.bits)))).toNat.lor (u64 (l/pow2 (min (wr IntKind.u64 (64 - wr IntKind.u64 (lzV y))).toNat IntKind.u64.bits))).toNat) - wr IntKind.u64 (wr IntKind.u64 ((Int.ofNat ((u64 (wr IntKind.u64 (h*pow2 (min (wr IntKind.u64 (lzV y)).toNat IntKind.u64.bits)))).toNat.lor (u64 (l/pow2 (min (wr IntKind.u64 (64 - wr IntKind.u64 (lzV y))).toNat IntKind.u64.bits))).toNat)).tdiv (wr IntKind.u64 (y*pow2 (min (wr IntKind.u64 (lzV y)).toNat IntKind.u64.bits))/pow2 (min (Int.toNat 32) IntKind.u64.bits)))*(wr IntKind.u64 (y*pow2 (min (wr IntKind.u64 (lzV y)).toNat IntKind.u64.bits))/pow2 (min (Int.toNat 32) IntKind.u64.bits)))))))],[],[(decide (wr IntKind.u64 (y*pow2 (min (wr IntKind.u64 (lzV y)).toNat IntKind.u64.bits))/pow2 (min (Int.toNat 32) IntKind.u64.bits)=0),false),(decide (wr IntKind.u64 (lzV y)<0),false),(decide (wr IntKind.u64 (64 - wr IntKind.u64 (lzV y))<0),false),(decide (wr IntKind.u64 (lzV y)<0),false),(decide (wr IntKind.u64 (lzV y)<0),false),(isU y,true),(decide (0<y),true),(h==0,false),(decide (y≤h),false),(y==0,false)]):=by kernel_rfl
theorem dvZ (dead:Nat→Value) (h l y:Int):projS [6,7] [] (exec Tryz.prog S8 Zl 200 (.code (bodyF Tryz.prog 137)) (Kst.st ⟨argsL 0 [.v (.one (.int .u64 h)),.v (.one (.int .u64 l)),.v (.one (.int .u64 y))],[],0⟩ 135 dead [some false,some false,some true]))=some (Ex.ret,[LV.v (V1.one (At.int IntKind.u64 (wr IntKind.u64 (l.tdiv y)))),LV.v (V1.one (At.int IntKind.u64 (l.tmod y)))],[],[(decide (y=0),false),(decide (y=0),false),(h==0,true),(decide (y≤h),false),(y==0,false)]):=by kernel_rfl
theorem dvM (dead:Nat→Value) (y s n1 n0 u32 u1 u0 q r:Int):projS [2,8,9,10,14,15,17,18,16] [] (execL Tryz.prog S8 Zl 200 (spineL 3 (c2 (dropC 14 (bodyF Tryz.prog 137)))) (Kst.st ⟨[(2,U y),(8,U s),(9,U n1),(10,U n0),(11,U u32),(13,U u1),(14,U u0),(15,U q),(16,U r)],[],0⟩ 135 dead []))=some (Ex.normal,[LV.v (V1.one (At.int IntKind.u64 y)),LV.v (V1.one (At.int IntKind.u64 s)),LV.v (V1.one (At.int IntKind.u64 n1)),LV.v (V1.one (At.int IntKind.u64 n0)),LV.v (V1.one (At.int IntKind.u64 u0)),LV.v (V1.one (At.int IntKind.u64 q)),LV.v (V1.one (At.int IntKind.u64 (wr IntKind.u64 (wr IntKind.u64 (wr IntKind.u64 (u32*4294967296)+u1) - wr IntKind.u64 (q*y))))),LV.v (V1.one (At.int IntKind.u64 (wr IntKind.u64 ((wr IntKind.u64 (wr IntKind.u64 (wr IntKind.u64 (u32*4294967296)+u1) - wr IntKind.u64 (q*y))).tdiv n1)))),LV.v (V1.one (At.int IntKind.u64 (wr IntKind.u64 (wr IntKind.u64 (wr IntKind.u64 (wr IntKind.u64 (u32*4294967296)+u1) - wr IntKind.u64 (q*y)) - wr IntKind.u64 (wr IntKind.u64 ((wr IntKind.u64 (wr IntKind.u64 (wr IntKind.u64 (u32*4294967296)+u1) - wr IntKind.u64 (q*y))).tdiv n1)*n1)))))],[],[(decide (n1=0),false)]):=by kernel_rfl
theorem dvE (dead:Nat→Value) (y s n1 n0 u0 q1 u21 q r:Int):projS [6,7] [] (exec Tryz.prog S8 Zl 200 (.code (c2 (dropC 18 (bodyF Tryz.prog 137)))) (Kst.st ⟨[(2,U y),(8,U s),(9,U n1),(10,U n0),(14,U u0),(15,U q1),(17,U u21),(18,U q),(16,U r)],[],0⟩ 135 dead []))=some (Ex.ret,[LV.v (V1.one (At.int IntKind.u64 (wr IntKind.u64 (wr IntKind.u64 (q1*4294967296)+q)))),LV.v (V1.one (At.int IntKind.u64 (wr IntKind.u64 (wr IntKind.u64 (wr IntKind.u64 (u21*4294967296)+u0) - wr IntKind.u64 (q*y))/pow2 (min s.toNat IntKind.u64.bits))))],[],[(decide (s<0),false)]):=by kernel_rfl
theorem dvL1 (dead:Nat→Value) (y s n1 n0 u32 u1 u0 q r:Int):projS [2,8,9,10,11,13,14,15,16] [] (exec Tryz.prog S8 Zl 200 (.code (c1 (c1 (c1 (dropC 14 (bodyF Tryz.prog 137)))))) (Kst.st ⟨[(2,U y),(8,U s),(9,U n1),(10,U n0),(11,U u32),(13,U u1),(14,U u0),(15,U q),(16,U r)],[],0⟩ 135 dead [some true,some true,some true,some true,some true,some true,some true,some true,some true,none,some true]))=some (Ex.exit 0,[LV.v (V1.one (At.int IntKind.u64 y)),LV.v (V1.one (At.int IntKind.u64 s)),LV.v (V1.one (At.int IntKind.u64 n1)),LV.v (V1.one (At.int IntKind.u64 n0)),LV.v (V1.one (At.int IntKind.u64 u32)),LV.v (V1.one (At.int IntKind.u64 u1)),LV.v (V1.one (At.int IntKind.u64 u0)),LV.v (V1.one (At.int IntKind.u64 (wr IntKind.u64 (q - 1)))),LV.v (V1.one (At.int IntKind.u64 (wr IntKind.u64 (r+n1))))],[],[(decide (wr IntKind.u64 (r+n1)≥4294967296),true),(decide (q≥4294967296),true),(decide (q≥4294967296),true),(decide (q≥4294967296),true),(decide (q≥4294967296),true),(decide (q≥4294967296),true),(decide (q≥4294967296),true),(decide (q≥4294967296),true),(decide (q≥4294967296),true),(decide (q≥4294967296),true)]):=by kernel_rfl
theorem dvL2 (dead:Nat→Value) (y s n1 n0 u32 u1 u0 q r:Int):projS [2,8,9,10,11,13,14,15,16] [] (exec Tryz.prog S8 Zl 200 (.code (c1 (c1 (c1 (dropC 14 (bodyF Tryz.prog 137)))))) (Kst.st ⟨[(2,U y),(8,U s),(9,U n1),(10,U n0),(11,U u32),(13,U u1),(14,U u0),(15,U q),(16,U r)],[],0⟩ 135 dead [some true,some true,some true,some true,some true,some true,some true,some true,some true,none,some false]))=some (Ex.normal,[LV.v (V1.one (At.int IntKind.u64 y)),LV.v (V1.one (At.int IntKind.u64 s)),LV.v (V1.one (At.int IntKind.u64 n1)),LV.v (V1.one (At.int IntKind.u64 n0)),LV.v (V1.one (At.int IntKind.u64 u32)),LV.v (V1.one (At.int IntKind.u64 u1)),LV.v (V1.one (At.int IntKind.u64 u0)),LV.v (V1.one (At.int IntKind.u64 (wr IntKind.u64 (q - 1)))),LV.v (V1.one (At.int IntKind.u64 (wr IntKind.u64 (r+n1))))],[],[(decide (wr IntKind.u64 (r+n1)≥4294967296),false),(decide (q≥4294967296),true),(decide (q≥4294967296),true),(decide (q≥4294967296),true),(decide (q≥4294967296),true),(decide (q≥4294967296),true),(decide (q≥4294967296),true),(decide (q≥4294967296),true),(decide (q≥4294967296),true),(decide (q≥4294967296),true)]):=by kernel_rfl
theorem dvL3 (dead:Nat→Value) (y s n1 n0 u32 u1 u0 q r:Int):projS [2,8,9,10,11,13,14,15,16] [] (exec Tryz.prog S8 Zl 200 (.code (c1 (c1 (c1 (dropC 14 (bodyF Tryz.prog 137)))))) (Kst.st ⟨[(2,U y),(8,U s),(9,U n1),(10,U n0),(11,U u32),(13,U u1),(14,U u0),(15,U q),(16,U r)],[],0⟩ 135 dead [some false,some false,some false,some false,some false,some false,some false,some false,some false,some true,some true]))=some (Ex.exit 0,[LV.v (V1.one (At.int IntKind.u64 y)),LV.v (V1.one (At.int IntKind.u64 s)),LV.v (V1.one (At.int IntKind.u64 n1)),LV.v (V1.one (At.int IntKind.u64 n0)),LV.v (V1.one (At.int IntKind.u64 u32)),LV.v (V1.one (At.int IntKind.u64 u1)),LV.v (V1.one (At.int IntKind.u64 u0)),LV.v (V1.one (At.int IntKind.u64 (wr IntKind.u64 (q - 1)))),LV.v (V1.one (At.int IntKind.u64 (wr IntKind.u64 (r+n1))))],[],[(decide (wr IntKind.u64 (r+n1)≥4294967296),true),(decide (wr IntKind.u64 (q*n0)>wr IntKind.u64 (wr IntKind.u64 (4294967296*r)+u1)),true),(decide (q≥4294967296),false),(decide (q≥4294967296),false),(decide (q≥4294967296),false),(decide (q≥4294967296),false),(decide (q≥4294967296),false),(decide (q≥4294967296),false),(decide (q≥4294967296),false),(decide (q≥4294967296),false),(decide (q≥4294967296),false)]):=by kernel_rfl
theorem dvL4 (dead:Nat→Value) (y s n1 n0 u32 u1 u0 q r:Int):projS [2,8,9,10,11,13,14,15,16] [] (exec Tryz.prog S8 Zl 200 (.code (c1 (c1 (c1 (dropC 14 (bodyF Tryz.prog 137)))))) (Kst.st ⟨[(2,U y),(8,U s),(9,U n1),(10,U n0),(11,U u32),(13,U u1),(14,U u0),(15,U q),(16,U r)],[],0⟩ 135 dead [some false,some false,some false,some false,some false,some false,some false,some false,some false,some true,some false]))=some (Ex.normal,[LV.v (V1.one (At.int IntKind.u64 y)),LV.v (V1.one (At.int IntKind.u64 s)),LV.v (V1.one (At.int IntKind.u64 n1)),LV.v (V1.one (At.int IntKind.u64 n0)),LV.v (V1.one (At.int IntKind.u64 u32)),LV.v (V1.one (At.int IntKind.u64 u1)),LV.v (V1.one (At.int IntKind.u64 u0)),LV.v (V1.one (At.int IntKind.u64 (wr IntKind.u64 (q - 1)))),LV.v (V1.one (At.int IntKind.u64 (wr IntKind.u64 (r+n1))))],[],[(decide (wr IntKind.u64 (r+n1)≥4294967296),false),(decide (wr IntKind.u64 (q*n0)>wr IntKind.u64 (wr IntKind.u64 (4294967296*r)+u1)),true),(decide (q≥4294967296),false),(decide (q≥4294967296),false),(decide (q≥4294967296),false),(decide (q≥4294967296),false),(decide (q≥4294967296),false),(decide (q≥4294967296),false),(decide (q≥4294967296),false),(decide (q≥4294967296),false),(decide (q≥4294967296),false)]):=by kernel_rfl
theorem dvL5 (dead:Nat→Value) (y s n1 n0 u32 u1 u0 q r:Int):projS [2,8,9,10,11,13,14,15,16] [] (exec Tryz.prog S8 Zl 200 (.code (c1 (c1 (c1 (dropC 14 (bodyF Tryz.prog 137)))))) (Kst.st ⟨[(2,U y),(8,U s),(9,U n1),(10,U n0),(11,U u32),(13,U u1),(14,U u0),(15,U q),(16,U r)],[],0⟩ 135 dead [some false,some false,some false,some false,some false,some false,some false,some false,some false,some false]))=some (Ex.exit 0,[LV.v (V1.one (At.int IntKind.u64 y)),LV.v (V1.one (At.int IntKind.u64 s)),LV.v (V1.one (At.int IntKind.u64 n1)),LV.v (V1.one (At.int IntKind.u64 n0)),LV.v (V1.one (At.int IntKind.u64 u32)),LV.v (V1.one (At.int IntKind.u64 u1)),LV.v (V1.one (At.int IntKind.u64 u0)),LV.v (V1.one (At.int IntKind.u64 q)),LV.v (V1.one (At.int IntKind.u64 r))],[],[(decide (wr IntKind.u64 (q*n0)>wr IntKind.u64 (wr IntKind.u64 (4294967296*r)+u1)),false),(decide (q≥4294967296),false),(decide (q≥4294967296),false),(decide (q≥4294967296),false),(decide (q≥4294967296),false),(decide (q≥4294967296),false),(decide (q≥4294967296),false),(decide (q≥4294967296),false),(decide (q≥4294967296),false),(decide (q≥4294967296),false)]):=by kernel_rfl
theorem dvN1 (dead:Nat→Value) (y s n1 n0 u0 q1 u21 q r:Int):projS [2,8,9,10,14,15,17,18,16] [] (exec Tryz.prog S8 Zl 200 (.code (c1 (c1 (c1 (dropC 18 (bodyF Tryz.prog 137)))))) (Kst.st ⟨[(2,U y),(8,U s),(9,U n1),(10,U n0),(14,U u0),(15,U q1),(17,U u21),(18,U q),(16,U r)],[],0⟩ 135 dead [some true,some true,some true,some true,some true,some true,some true,some true,some true,none,some true]))=some (Ex.exit 2,[LV.v (V1.one (At.int IntKind.u64 y)),LV.v (V1.one (At.int IntKind.u64 s)),LV.v (V1.one (At.int IntKind.u64 n1)),LV.v (V1.one (At.int IntKind.u64 n0)),LV.v (V1.one (At.int IntKind.u64 u0)),LV.v (V1.one (At.int IntKind.u64 q1)),LV.v (V1.one (At.int IntKind.u64 u21)),LV.v (V1.one (At.int IntKind.u64 (wr IntKind.u64 (q - 1)))),LV.v (V1.one (At.int IntKind.u64 (wr IntKind.u64 (r+n1))))],[],[(decide (wr IntKind.u64 (r+n1)≥4294967296),true),(decide (q≥4294967296),true),(decide (q≥4294967296),true),(decide (q≥4294967296),true),(decide (q≥4294967296),true),(decide (q≥4294967296),true),(decide (q≥4294967296),true),(decide (q≥4294967296),true),(decide (q≥4294967296),true),(decide (q≥4294967296),true)]):=by kernel_rfl
theorem dvN2 (dead:Nat→Value) (y s n1 n0 u0 q1 u21 q r:Int):projS [2,8,9,10,14,15,17,18,16] [] (exec Tryz.prog S8 Zl 200 (.code (c1 (c1 (c1 (dropC 18 (bodyF Tryz.prog 137)))))) (Kst.st ⟨[(2,U y),(8,U s),(9,U n1),(10,U n0),(14,U u0),(15,U q1),(17,U u21),(18,U q),(16,U r)],[],0⟩ 135 dead [some true,some true,some true,some true,some true,some true,some true,some true,some true,none,some false]))=some (Ex.normal,[LV.v (V1.one (At.int IntKind.u64 y)),LV.v (V1.one (At.int IntKind.u64 s)),LV.v (V1.one (At.int IntKind.u64 n1)),LV.v (V1.one (At.int IntKind.u64 n0)),LV.v (V1.one (At.int IntKind.u64 u0)),LV.v (V1.one (At.int IntKind.u64 q1)),LV.v (V1.one (At.int IntKind.u64 u21)),LV.v (V1.one (At.int IntKind.u64 (wr IntKind.u64 (q - 1)))),LV.v (V1.one (At.int IntKind.u64 (wr IntKind.u64 (r+n1))))],[],[(decide (wr IntKind.u64 (r+n1)≥4294967296),false),(decide (q≥4294967296),true),(decide (q≥4294967296),true),(decide (q≥4294967296),true),(decide (q≥4294967296),true),(decide (q≥4294967296),true),(decide (q≥4294967296),true),(decide (q≥4294967296),true),(decide (q≥4294967296),true),(decide (q≥4294967296),true)]):=by kernel_rfl
theorem dvN3 (dead:Nat→Value) (y s n1 n0 u0 q1 u21 q r:Int):projS [2,8,9,10,14,15,17,18,16] [] (exec Tryz.prog S8 Zl 200 (.code (c1 (c1 (c1 (dropC 18 (bodyF Tryz.prog 137)))))) (Kst.st ⟨[(2,U y),(8,U s),(9,U n1),(10,U n0),(14,U u0),(15,U q1),(17,U u21),(18,U q),(16,U r)],[],0⟩ 135 dead [some false,some false,some false,some false,some false,some false,some false,some false,some false,some true,some true]))=some (Ex.exit 2,[LV.v (V1.one (At.int IntKind.u64 y)),LV.v (V1.one (At.int IntKind.u64 s)),LV.v (V1.one (At.int IntKind.u64 n1)),LV.v (V1.one (At.int IntKind.u64 n0)),LV.v (V1.one (At.int IntKind.u64 u0)),LV.v (V1.one (At.int IntKind.u64 q1)),LV.v (V1.one (At.int IntKind.u64 u21)),LV.v (V1.one (At.int IntKind.u64 (wr IntKind.u64 (q - 1)))),LV.v (V1.one (At.int IntKind.u64 (wr IntKind.u64 (r+n1))))],[],[(decide (wr IntKind.u64 (r+n1)≥4294967296),true),(decide (wr IntKind.u64 (q*n0)>wr IntKind.u64 (wr IntKind.u64 (4294967296*r)+u0)),true),(decide (q≥4294967296),false),(decide (q≥4294967296),false),(decide (q≥4294967296),false),(decide (q≥4294967296),false),(decide (q≥4294967296),false),(decide (q≥4294967296),false),(decide (q≥4294967296),false),(decide (q≥4294967296),false),(decide (q≥4294967296),false)]):=by kernel_rfl
theorem dvN4 (dead:Nat→Value) (y s n1 n0 u0 q1 u21 q r:Int):projS [2,8,9,10,14,15,17,18,16] [] (exec Tryz.prog S8 Zl 200 (.code (c1 (c1 (c1 (dropC 18 (bodyF Tryz.prog 137)))))) (Kst.st ⟨[(2,U y),(8,U s),(9,U n1),(10,U n0),(14,U u0),(15,U q1),(17,U u21),(18,U q),(16,U r)],[],0⟩ 135 dead [some false,some false,some false,some false,some false,some false,some false,some false,some false,some true,some false]))=some (Ex.normal,[LV.v (V1.one (At.int IntKind.u64 y)),LV.v (V1.one (At.int IntKind.u64 s)),LV.v (V1.one (At.int IntKind.u64 n1)),LV.v (V1.one (At.int IntKind.u64 n0)),LV.v (V1.one (At.int IntKind.u64 u0)),LV.v (V1.one (At.int IntKind.u64 q1)),LV.v (V1.one (At.int IntKind.u64 u21)),LV.v (V1.one (At.int IntKind.u64 (wr IntKind.u64 (q - 1)))),LV.v (V1.one (At.int IntKind.u64 (wr IntKind.u64 (r+n1))))],[],[(decide (wr IntKind.u64 (r+n1)≥4294967296),false),(decide (wr IntKind.u64 (q*n0)>wr IntKind.u64 (wr IntKind.u64 (4294967296*r)+u0)),true),(decide (q≥4294967296),false),(decide (q≥4294967296),false),(decide (q≥4294967296),false),(decide (q≥4294967296),false),(decide (q≥4294967296),false),(decide (q≥4294967296),false),(decide (q≥4294967296),false),(decide (q≥4294967296),false),(decide (q≥4294967296),false)]):=by kernel_rfl
theorem dvN5 (dead:Nat→Value) (y s n1 n0 u0 q1 u21 q r:Int):projS [2,8,9,10,14,15,17,18,16] [] (exec Tryz.prog S8 Zl 200 (.code (c1 (c1 (c1 (dropC 18 (bodyF Tryz.prog 137)))))) (Kst.st ⟨[(2,U y),(8,U s),(9,U n1),(10,U n0),(14,U u0),(15,U q1),(17,U u21),(18,U q),(16,U r)],[],0⟩ 135 dead [some false,some false,some false,some false,some false,some false,some false,some false,some false,some false]))=some (Ex.exit 2,[LV.v (V1.one (At.int IntKind.u64 y)),LV.v (V1.one (At.int IntKind.u64 s)),LV.v (V1.one (At.int IntKind.u64 n1)),LV.v (V1.one (At.int IntKind.u64 n0)),LV.v (V1.one (At.int IntKind.u64 u0)),LV.v (V1.one (At.int IntKind.u64 q1)),LV.v (V1.one (At.int IntKind.u64 u21)),LV.v (V1.one (At.int IntKind.u64 q)),LV.v (V1.one (At.int IntKind.u64 r))],[],[(decide (wr IntKind.u64 (q*n0)>wr IntKind.u64 (wr IntKind.u64 (4294967296*r)+u0)),false),(decide (q≥4294967296),false),(decide (q≥4294967296),false),(decide (q≥4294967296),false),(decide (q≥4294967296),false),(decide (q≥4294967296),false),(decide (q≥4294967296),false),(decide (q≥4294967296),false),(decide (q≥4294967296),false),(decide (q≥4294967296),false)]):=by kernel_rfl
end Go.Proofs.YtnlhpaidmiogbaaGreat

/- Long division by two digits: why the digits are right. Plain. -/
namespace Go.Lr
set_option linter.unusedVariables false
structure Dg (y n1 n0 u u1:Int):Prop where
 yd:y=n1*4294967296+n0
 n1a:2147483648≤n1
 n1b:n1<4294967296
 n0a:0≤n0
 n0b:n0<4294967296
 ua:0≤u
 ub:u<y
 u1a:0≤u1
 u1b:u1<4294967296
variable {y n1 n0 u u1:Int}
theorem Dg.ypos (h:Dg y n1 n0 u u1):0<y:=by have:=h.yd;have:=h.n1a;have:=h.n0a;omega
theorem Dg.nn (h:Dg y n1 n0 u u1):0≤(u*4294967296+u1)/y:=Int.ediv_nonneg (by have:=h.ua;have:=h.u1a;omega) (by have:=h.ypos;omega)
theorem Dg.lt (h:Dg y n1 n0 u u1):(u*4294967296+u1)/y<4294967296:=by
 refine Int.ediv_lt_of_lt_mul h.ypos ?_
 have:=h.ub;have:=h.u1b;have:=h.ypos;omega
theorem Dg.iff (h:Dg y n1 n0 u u1) {q r:Int} (hq:q*n1+r=u):q*n0>4294967296*r+u1↔(u*4294967296+u1)/y<q:=by
 rw [Int.ediv_lt_iff_lt_mul h.ypos,h.yd]
 have e1:q*(n1*4294967296+n0)=q*n1*4294967296+q*n0:=by grind
 rw [e1,←hq]
 generalize q*n1=a
 generalize q*n0=b
 omega
theorem Dg.brk (h:Dg y n1 n0 u u1) {q r:Int} (hq:q*n1+r=u) (hlt:(u*4294967296+u1)/y<q) (hb:r+n1≥4294967296):q - 1=(u*4294967296+u1)/y:=by
 have h0:=h.nn
 have hq':(q - 1)*n1+(r+n1)=u:=by rw [←hq];grind
 have hi:=h.iff hq'
 have e1:(q - 1)*n1<4294967296*n1:=by have:=h.ub;have:=h.yd;have:=h.n0b;omega
 have e2:q - 1<4294967296:=Int.lt_of_mul_lt_mul_right e1 (by have:=h.n1a;omega)
 have e3:(q - 1)*n0≤4294967295*4294967295:=Int.mul_le_mul (by omega) (by have:=h.n0b;omega) h.n0a (by omega)
 have hu:=h.u1a
 have:¬(u*4294967296+u1)/y<q - 1:=by rw [←hi];omega
 omega
theorem div_digits {V p y0 y u32 u1 u0:Int} (hp:0<p) (hy0:0<y0) (hy:y=y0*p) (hV:V*p=(u32*4294967296+u1)*4294967296+u0):
  (u32*4294967296+u1)/y*4294967296+((u32*4294967296+u1)%y*4294967296+u0)/y=V/y0∧((u32*4294967296+u1)%y*4294967296+u0)%y/p=V%y0:=by
 have hyp:0<y:=by rw [hy];exact Int.mul_pos hy0 hp
 have e1:=Int.emod_add_mul_ediv (u32*4294967296+u1) y
 generalize (u32*4294967296+u1)/y=q1 at *
 generalize (u32*4294967296+u1)%y=r1 at *
 have e2:=Int.emod_add_mul_ediv (r1*4294967296+u0) y
 have m0:=Int.emod_nonneg (r1*4294967296+u0) (show y≠0 by omega)
 have m1:=Int.emod_lt_of_pos (r1*4294967296+u0) hyp
 generalize (r1*4294967296+u0)/y=q0 at *
 generalize (r1*4294967296+u0)%y=r0 at *
 have e3:V*p=(q1*4294967296+q0)*y+r0:=by rw [hV,←e1];grind
 have e4:r0=(V - (q1*4294967296+q0)*y0)*p:=by rw [hy] at e3;grind
 generalize q1*4294967296+q0=Q at *
 have d0:0≤V - Q*y0:=by
  rw [e4] at m0
  exact Int.nonneg_of_mul_nonneg_left m0 hp
 have d1:V - Q*y0<y0:=by
  rw [e4,hy] at m1
  exact Int.lt_of_mul_lt_mul_right m1 (by omega)
 have e5:V=Q*y0+(V - Q*y0):=by omega
 refine ⟨(ediv_unique e5 d0 d1).symm, ?_⟩
 rw [e4,Int.mul_ediv_cancel _ (by omega)]
 exact (emod_unique e5 d0 d1).symm
end Go.Lr

/- math/bits.Div64: what it comes to. -/
namespace Go.Proofs.YtnlhpaidmiogbaaGreat
open Go.Lr
set_option linter.unusedVariables false
set_option linter.unusedSimpArgs false
noncomputable def dvBody1:Code:=c1 (c1 (c1 (dropC 14 (bodyF Tryz.prog 137))))
noncomputable def dvBody2:Code:=c1 (c1 (c1 (dropC 18 (bodyF Tryz.prog 137))))
def dvS1 (y s n1 n0 u32 u1 u0 q r:Int):Kst:=⟨[(2,U y),(8,U s),(9,U n1),(10,U n0),(11,U u32),(13,U u1),(14,U u0),(15,U q),(16,U r)],[],0⟩
def dvS2 (y s n1 n0 u0 q1 u21 q r:Int):Kst:=⟨[(2,U y),(8,U s),(9,U n1),(10,U n0),(14,U u0),(15,U q1),(17,U u21),(18,U q),(16,U r)],[],0⟩
theorem dvRd1 {y s n1 n0 u32 u1 u0:Int} (h:Dg y n1 n0 u32 u1):∀(d:Nat) (q r:Int),q*n1+r=u32→0≤r→r<4294967296→q≤8589934592→q=(u32*4294967296+u1)/y+d→
  ∃m r',Rd Tryz.prog 135 dvBody1 m (dvS1 y s n1 n0 u32 u1 u0 q r) (.exit 0) (dvS1 y s n1 n0 u32 u1 u0 ((u32*4294967296+u1)/y) r')
 | 0,q,r,hq,hr0,hr1,hq1,hd=>by
  have n0a:=h.n0a
  have n0b:=h.n0b
  have u1a:=h.u1a
  have u1b:=h.u1b
  have nn:=h.nn
  have lt:=h.lt
  have hi:=h.iff hq
  have hd':q=(u32*4294967296+u1)/y:=by omega
  have p0:0≤q*n0:=Int.mul_nonneg (by omega) n0a
  have p1:q*n0≤4294967295*4294967295:=Int.mul_le_mul (by omega) (by omega) n0a (by omega)
  have c1':wr .u64 (q*n0)=q*n0:=u64_in p0 (by omega)
  have c2':wr .u64 (wr .u64 (4294967296*r)+u1)=4294967296*r+u1:=by rw [wr_u,wr_u];unfold u64;omega
  rw [←hd'] at hi ⊢
  refine ⟨1,r,Rd.last (by simp) ?_⟩
  refine To.weak (B:=⟨[2,8,9,10,11,13,14,15,16].zip [U y,U s,U n1,U n0,U u32,U u1,U u0,U q,U r],[],0⟩) ?_ (fun _ h=>h) rfl rfl (canB_ok (by rfl))
  refine To.run (z:=Zl) sound8 (nbB:=0) (blks:=[]) (bs:=[]) (fun dead=>dvL5 dead y s n1 n0 u32 u1 u0 q r) rfl rfl rfl ?_ (canB_ok (by rfl)) (Nat.le_refl _)
  have hq2:decide (q≥4294967296)=false:=by simp;omega
  simp only [hq2,c1',c2',all_ff,true_and,and_true,decide_eq_false_iff_not]
  exact ⟨by omega,ae_nil⟩
 | d+1,q,r,hq,hr0,hr1,hq1,hd=>by
  have n0a:=h.n0a
  have n0b:=h.n0b
  have u1a:=h.u1a
  have u1b:=h.u1b
  have n1a:=h.n1a
  have n1b:=h.n1b
  have nn:=h.nn
  have lt:=h.lt
  have hi:=h.iff hq
  have hgt:(u32*4294967296+u1)/y<q:=by omega
  have f1:wr .u64 (q - 1)=q - 1:=u64_in (by omega) (by omega)
  have f2:wr .u64 (r+n1)=r+n1:=u64_in (by omega) (by omega)
  have hq':(q - 1)*n1+(r+n1)=u32:=by rw [←hq];grind
  have key:∀(e:Ex),(r+n1≥4294967296→e = .exit 0)→(¬r+n1≥4294967296→e = .normal)→To Tryz.prog 135 dvBody1 (dvS1 y s n1 n0 u32 u1 u0 q r) e (dvS1 y s n1 n0 u32 u1 u0 (q - 1) (r+n1)):=by
   intro e he1 he2
   refine To.weak (B:=⟨[2,8,9,10,11,13,14,15,16].zip [U y,U s,U n1,U n0,U u32,U u1,U u0,U (q - 1),U (r+n1)],[],0⟩) ?_ (fun _ h=>h) rfl rfl (canB_ok (by rfl))
   by_cases hqb:q≥4294967296
   ·by_cases hb:r+n1≥4294967296
    ·rw [he1 hb]
     refine To.run (z:=Zl) sound8 (nbB:=0) (blks:=[]) (bs:=[]) (fun dead=>dvL1 dead y s n1 n0 u32 u1 u0 q r) rfl (by rw [f1,f2];rfl) rfl ?_ (canB_ok (by rfl)) (Nat.le_refl _)
     simp only [f2,all_tt,decide_eq_true_eq,hqb,hb,true_and]
     exact ae_nil
    ·rw [he2 hb]
     refine To.run (z:=Zl) sound8 (nbB:=0) (blks:=[]) (bs:=[]) (fun dead=>dvL2 dead y s n1 n0 u32 u1 u0 q r) rfl (by rw [f1,f2];rfl) rfl ?_ (canB_ok (by rfl)) (Nat.le_refl _)
     simp only [f2,all_tt,all_ff,decide_eq_true_eq,decide_eq_false_iff_not,hqb,hb,true_and,not_false_eq_true]
     exact ae_nil
   ·have p0:0≤q*n0:=Int.mul_nonneg (by omega) n0a
    have p1:q*n0≤4294967295*4294967295:=Int.mul_le_mul (by omega) (by omega) n0a (by omega)
    have c1':wr .u64 (q*n0)=q*n0:=u64_in p0 (by omega)
    have c2':wr .u64 (wr .u64 (4294967296*r)+u1)=4294967296*r+u1:=by rw [wr_u,wr_u];unfold u64;omega
    have hc:=hi.2 hgt
    by_cases hb:r+n1≥4294967296
    ·rw [he1 hb]
     refine To.run (z:=Zl) sound8 (nbB:=0) (blks:=[]) (bs:=[]) (fun dead=>dvL3 dead y s n1 n0 u32 u1 u0 q r) rfl (by rw [f1,f2];rfl) rfl ?_ (canB_ok (by rfl)) (Nat.le_refl _)
     simp only [f2,c1',c2',all_tt,all_ff,decide_eq_true_eq,decide_eq_false_iff_not,hqb,hb,hc,true_and,not_false_eq_true]
     exact ae_nil
    ·rw [he2 hb]
     refine To.run (z:=Zl) sound8 (nbB:=0) (blks:=[]) (bs:=[]) (fun dead=>dvL4 dead y s n1 n0 u32 u1 u0 q r) rfl (by rw [f1,f2];rfl) rfl ?_ (canB_ok (by rfl)) (Nat.le_refl _)
     simp only [f2,c1',c2',all_tt,all_ff,decide_eq_true_eq,decide_eq_false_iff_not,hqb,hb,hc,true_and,not_false_eq_true]
     exact ae_nil
  by_cases hb:r+n1≥4294967296
  ·have:=h.brk hq hgt hb
   refine ⟨1,r+n1,Rd.last (by simp) ?_⟩
   rw [←this]
   exact key _ (fun _=>rfl) (fun h=>absurd hb h)
  ·obtain ⟨m,r',hm⟩:=dvRd1 (s:=s) (u0:=u0) h d (q - 1) (r+n1) hq' (by omega) (by omega) (by omega) (by omega)
   exact ⟨m+1,r',Rd.next (key _ (fun h=>absurd h hb) (fun _=>rfl)) hm⟩
theorem dvRd2 {y s n1 n0 u21 u0 q1:Int} (h:Dg y n1 n0 u21 u0):∀(d:Nat) (q r:Int),q*n1+r=u21→0≤r→r<4294967296→q≤8589934592→q=(u21*4294967296+u0)/y+d→
  ∃m r',Rd Tryz.prog 135 dvBody2 m (dvS2 y s n1 n0 u0 q1 u21 q r) (.exit 2) (dvS2 y s n1 n0 u0 q1 u21 ((u21*4294967296+u0)/y) r')
 | 0,q,r,hq,hr0,hr1,hq1,hd=>by
  have n0a:=h.n0a
  have n0b:=h.n0b
  have u1a:=h.u1a
  have u1b:=h.u1b
  have nn:=h.nn
  have lt:=h.lt
  have hi:=h.iff hq
  have hd':q=(u21*4294967296+u0)/y:=by omega
  have p0:0≤q*n0:=Int.mul_nonneg (by omega) n0a
  have p1:q*n0≤4294967295*4294967295:=Int.mul_le_mul (by omega) (by omega) n0a (by omega)
  have c1':wr .u64 (q*n0)=q*n0:=u64_in p0 (by omega)
  have c2':wr .u64 (wr .u64 (4294967296*r)+u0)=4294967296*r+u0:=by rw [wr_u,wr_u];unfold u64;omega
  rw [←hd'] at hi ⊢
  refine ⟨1,r,Rd.last (by simp) ?_⟩
  refine To.weak (B:=⟨[2,8,9,10,14,15,17,18,16].zip [U y,U s,U n1,U n0,U u0,U q1,U u21,U q,U r],[],0⟩) ?_ (fun _ h=>h) rfl rfl (canB_ok (by rfl))
  refine To.run (z:=Zl) sound8 (nbB:=0) (blks:=[]) (bs:=[]) (fun dead=>dvN5 dead y s n1 n0 u0 q1 u21 q r) rfl rfl rfl ?_ (canB_ok (by rfl)) (Nat.le_refl _)
  have hq2:decide (q≥4294967296)=false:=by simp;omega
  simp only [hq2,c1',c2',all_ff,true_and,and_true,decide_eq_false_iff_not]
  exact ⟨by omega,ae_nil⟩
 | d+1,q,r,hq,hr0,hr1,hq1,hd=>by
  have n0a:=h.n0a
  have n0b:=h.n0b
  have u1a:=h.u1a
  have u1b:=h.u1b
  have n1a:=h.n1a
  have n1b:=h.n1b
  have nn:=h.nn
  have lt:=h.lt
  have hi:=h.iff hq
  have hgt:(u21*4294967296+u0)/y<q:=by omega
  have f1:wr .u64 (q - 1)=q - 1:=u64_in (by omega) (by omega)
  have f2:wr .u64 (r+n1)=r+n1:=u64_in (by omega) (by omega)
  have hq':(q - 1)*n1+(r+n1)=u21:=by rw [←hq];grind
  have key:∀(e:Ex),(r+n1≥4294967296→e = .exit 2)→(¬r+n1≥4294967296→e = .normal)→To Tryz.prog 135 dvBody2 (dvS2 y s n1 n0 u0 q1 u21 q r) e (dvS2 y s n1 n0 u0 q1 u21 (q - 1) (r+n1)):=by
   intro e he1 he2
   refine To.weak (B:=⟨[2,8,9,10,14,15,17,18,16].zip [U y,U s,U n1,U n0,U u0,U q1,U u21,U (q - 1),U (r+n1)],[],0⟩) ?_ (fun _ h=>h) rfl rfl (canB_ok (by rfl))
   by_cases hqb:q≥4294967296
   ·by_cases hb:r+n1≥4294967296
    ·rw [he1 hb]
     refine To.run (z:=Zl) sound8 (nbB:=0) (blks:=[]) (bs:=[]) (fun dead=>dvN1 dead y s n1 n0 u0 q1 u21 q r) rfl (by rw [f1,f2];rfl) rfl ?_ (canB_ok (by rfl)) (Nat.le_refl _)
     simp only [f2,all_tt,decide_eq_true_eq,hqb,hb,true_and]
     exact ae_nil
    ·rw [he2 hb]
     refine To.run (z:=Zl) sound8 (nbB:=0) (blks:=[]) (bs:=[]) (fun dead=>dvN2 dead y s n1 n0 u0 q1 u21 q r) rfl (by rw [f1,f2];rfl) rfl ?_ (canB_ok (by rfl)) (Nat.le_refl _)
     simp only [f2,all_tt,all_ff,decide_eq_true_eq,decide_eq_false_iff_not,hqb,hb,true_and,not_false_eq_true]
     exact ae_nil
   ·have p0:0≤q*n0:=Int.mul_nonneg (by omega) n0a
    have p1:q*n0≤4294967295*4294967295:=Int.mul_le_mul (by omega) (by omega) n0a (by omega)
    have c1':wr .u64 (q*n0)=q*n0:=u64_in p0 (by omega)
    have c2':wr .u64 (wr .u64 (4294967296*r)+u0)=4294967296*r+u0:=by rw [wr_u,wr_u];unfold u64;omega
    have hc:=hi.2 hgt
    by_cases hb:r+n1≥4294967296
    ·rw [he1 hb]
     refine To.run (z:=Zl) sound8 (nbB:=0) (blks:=[]) (bs:=[]) (fun dead=>dvN3 dead y s n1 n0 u0 q1 u21 q r) rfl (by rw [f1,f2];rfl) rfl ?_ (canB_ok (by rfl)) (Nat.le_refl _)
     simp only [f2,c1',c2',all_tt,all_ff,decide_eq_true_eq,decide_eq_false_iff_not,hqb,hb,hc,true_and,not_false_eq_true]
     exact ae_nil
    ·rw [he2 hb]
     refine To.run (z:=Zl) sound8 (nbB:=0) (blks:=[]) (bs:=[]) (fun dead=>dvN4 dead y s n1 n0 u0 q1 u21 q r) rfl (by rw [f1,f2];rfl) rfl ?_ (canB_ok (by rfl)) (Nat.le_refl _)
     simp only [f2,c1',c2',all_tt,all_ff,decide_eq_true_eq,decide_eq_false_iff_not,hqb,hb,hc,true_and,not_false_eq_true]
     exact ae_nil
  by_cases hb:r+n1≥4294967296
  ·have:=h.brk hq hgt hb
   refine ⟨1,r+n1,Rd.last (by simp) ?_⟩
   rw [←this]
   exact key _ (fun _=>rfl) (fun h=>absurd hb h)
  ·obtain ⟨m,r',hm⟩:=dvRd2 (s:=s) (q1:=q1) h d (q - 1) (r+n1) hq' (by omega) (by omega) (by omega) (by omega)
   exact ⟨m+1,r',Rd.next (key _ (fun h=>absurd h hb) (fun _=>rfl)) hm⟩
def div64S:List LV→Option (LV×List (Bool×Bool))
 | [.v (.one (.int .u64 h)),.v (.one (.int .u64 l)),.v (.one (.int .u64 y))]=>some (.tup [.one (.int .u64 (wVal h l/y)),.one (.int .u64 (wVal h l%y))],[(isU h,true),(isU l,true),(isU y,true),(decide (h<y),true)])
 | _=>none
theorem tdiv_pos {a b:Int} (h:0≤a):a.tdiv b=a/b:=Int.tdiv_eq_ediv_of_nonneg h
theorem tmod_pos {a b:Int} (h:0≤a):a.tmod b=a%b:=Int.tmod_eq_emod_of_nonneg h
theorem dg_est {y n1 n0 u u1:Int} (h:Dg y n1 n0 u u1) (hu:u<18446744073709551616):u/n1*n1+u%n1=u∧0≤u%n1∧u%n1<4294967296∧u/n1≤8589934592∧∃d:Nat,u/n1=(u*4294967296+u1)/y+d:=by
 have n1a:=h.n1a
 have n1b:=h.n1b
 have ua:=h.ua
 have e:=Int.emod_add_mul_ediv u n1
 have m0:=Int.emod_nonneg u (show n1≠0 by omega)
 have m1:=Int.emod_lt_of_pos u (show 0<n1 by omega)
 have e':u/n1*n1+u%n1=u:=by rw [Int.mul_comm];omega
 have hd:u/n1<8589934593:=Int.ediv_lt_of_lt_mul (by omega) (by omega)
 refine ⟨e',m0,by omega,by omega, ?_⟩
 have hi:=h.iff (q:=u/n1+1) (r:=u%n1 - n1) (by rw [Int.add_mul];omega)
 have hlt:(u*4294967296+u1)/y<u/n1+1:=by
  rw [←hi]
  have:0≤(u/n1+1)*n0:=Int.mul_nonneg (by have:=Int.ediv_nonneg ua (show 0≤n1 by omega);omega) h.n0a
  have:=h.u1b
  omega
 have nn:=h.nn
 exact ⟨(u/n1 - (u*4294967296+u1)/y).toNat,by omega⟩
theorem sumDiv64:SumOK Tryz.prog 137 (pureSum div64S):=by
 refine pureSum_ok fun args v cs hF hc w=> ?_
 unfold div64S at hF
 split at hF
 ·rename_i h l y0
  cases hF
  simp only [all_tt,isU_iff,decide_eq_true_eq] at hc
  obtain ⟨⟨hh0,hh1⟩,⟨hl0,hl1⟩,⟨hy0,hy1⟩,hlt,-⟩:=hc
  have hypos:0<y0:=by omega
  have a1:(y0==0)=false:=by simp;omega
  have a2:decide (y0≤h)=false:=by simp;omega
  refine callOK_of (own_of sound8 Tryz.func137 (by kernel_rfl)) ?_
  by_cases hz:h=0
  ·subst hz
   have hv:wVal 0 l=l:=by unfold wVal;omega
   rw [hv]
   have q0:0≤l/y0:=Int.ediv_nonneg hl0 hy0
   have q1:l/y0≤l:=Int.ediv_le_self _ hl0
   refine calls_pure (c:=bodyF Tryz.prog 137) (e:= .ret) (B:=⟨[(6,U (l/y0)),(7,U (l%y0))],[],0⟩) Tryz.func137 (by kernel_rfl) (Nat.le_of_ble_eq_true (by kernel_rfl)) (Nat.le_of_ble_eq_true (by kernel_rfl)) rfl ?_ (.inr rfl) (fun dead=>by kernel_rfl) rfl w
   refine To.weak (B:=⟨[6,7].zip [U (l/y0),U (l%y0)],[],0⟩) ?_ (fun _ h=>h) rfl rfl (canB_ok (by rfl))
   refine To.run (z:=Zl) sound8 (nbB:=0) (blks:=[]) (bs:=[]) (fun dead=>dvZ dead 0 l y0) rfl (by rw [tdiv_pos hl0,tmod_pos hl0,wr_u,u64_in q0 (by omega)];rfl) rfl ?_ (canB_ok (by rfl)) (Nat.le_refl _)
   simp only [all_tt,all_ff,a1,a2,decide_eq_false_iff_not,true_and,beq_self_eq_true]
   exact ⟨by omega,by omega,ae_nil⟩
  ·obtain ⟨s0,s1,k0,k1⟩:=lzV_spec hypos hy1
   have w1:wr .u64 (lzV y0)=lzV y0:=u64_in s0 (by omega)
   have w2:wr .u64 (64 - lzV y0)=64 - lzV y0:=u64_in (by omega) (by omega)
   have w3:min (lzV y0).toNat IntKind.u64.bits=(lzV y0).toNat:=min64 s0 (by omega)
   have w4:min (64 - lzV y0).toNat IntKind.u64.bits=(64 - lzV y0).toNat:=min64 (by omega) (by omega)
   have hpq:pow2 (lzV y0).toNat*pow2 (64 - lzV y0).toNat=18446744073709551616:=by rw [←pow2_add,←pow2_64];congr 1;omega
   obtain ⟨g1,g2,g3,g4,g5,g6,g7,g8⟩:=shl_lt h l _ _ (pow2_pos _) (pow2_pos _) hpq hl0 hl1
   have hp:=pow2_pos (lzV y0).toNat
   have hq:=pow2_pos (64 - lzV y0).toNat
   have hior:=(ior_add _ _ _ g8 g5 g6 g7).1
   generalize hsv:lzV y0=s at *
   generalize hpv:pow2 s.toNat=p at *
   generalize hqv:pow2 (64 - s).toNat=q at *
   have w5:wr .u64 (y0*p)=y0*p:=u64_in (by omega) k1
   have hVlt:wVal h l*p<340282366920938463463374607431768211456:=by
    have e:wVal h l<y0*18446744073709551616:=by
     unfold wVal
     have:(h+1)*18446744073709551616≤y0*18446744073709551616:=Int.mul_le_mul_of_nonneg_right (by omega) (by omega)
     omega
    have e2:wVal h l*p≤y0*18446744073709551616*p:=Int.mul_le_mul_of_nonneg_right (by omega) (by omega)
    have e3:y0*18446744073709551616*p=y0*p*18446744073709551616:=by grind
    rw [e3] at e2
    omega
   have hV0:0≤wVal h l*p:=Int.mul_nonneg (by unfold wVal;omega) (by omega)
   have hVm:wVal h l*p%340282366920938463463374607431768211456=wVal h l*p:=by omega
   rw [hVm] at g1 g2
   generalize hX:wVal h l*p=X at *
   have x32:Int.ofNat ((u64 (wr .u64 (h*p))).toNat.lor (u64 (l/q)).toNat)=wHi X:=by rw [wr_u,g3,g1];exact hior
   have x10:wr .u64 (l*p)=wLo X:=by rw [wr_u,g4,g2]
   have u32b:wHi X<y0*p:=by
    have e:X<y0*p*18446744073709551616:=by
     rw [←hX]
     have e0:wVal h l<y0*18446744073709551616:=by
      unfold wVal
      have:(h+1)*18446744073709551616≤y0*18446744073709551616:=Int.mul_le_mul_of_nonneg_right (by omega) (by omega)
      omega
     have e2:wVal h l*p<y0*18446744073709551616*p:=Int.mul_lt_mul_of_pos_right e0 hp
     have e3:y0*18446744073709551616*p=y0*p*18446744073709551616:=by grind
     omega
    unfold wHi;omega
   have xlo:=wLo_in X
   have u0a:0≤wHi X:=by unfold wHi;omega
   have land1:Int.ofNat ((u64 (wLo X)).toNat.land (u64 4294967295).toNat)=wLo X%4294967296:=land32 _ xlo.1 xlo.2
   have hyv0:9223372036854775808≤y0*p:=k0
   have land2:Int.ofNat ((u64 (y0*p)).toNat.land (u64 4294967295).toNat)=y0*p%4294967296:=land32 _ (by omega) k1
   generalize hY:y0*p=y at *
   have hDg1:Dg y (y/4294967296) (y%4294967296) (wHi X) (wLo X/4294967296):=⟨by omega,by omega,by omega,by omega,by omega,u0a,u32b,by omega,by omega⟩
   have hXv:X=(wHi X*4294967296+wLo X/4294967296)*4294967296+wLo X%4294967296:=by unfold wHi wLo;omega
   obtain ⟨D1,D2⟩:=div_digits (V:=wVal h l) (p:=p) (y0:=y0) (y:=y) hp hypos hY.symm (hX.trans hXv)
   generalize wHi X=u32 at *
   generalize hu1:wLo X/4294967296=u1 at *
   generalize hu0:wLo X%4294967296=u0 at *
   have hn1:y/pow2 (min (Int.toNat 32) IntKind.u64.bits)=y/4294967296:=by rw [pow2_32u]
   have hu0a:0≤u0∧u0<4294967296:=by omega
   obtain ⟨E1,E2,E3,E4,d1,E5⟩:=dg_est hDg1 (by omega)
   generalize hN1:y/4294967296=n1 at *
   generalize hN0:y%4294967296=n0 at *
   obtain ⟨m1,r1,hR1⟩:=dvRd1 (s:=s) (u0:=u0) hDg1 d1 _ _ E1 E2 E3 E4 E5
   have nn1:=hDg1.nn
   have lt1:=hDg1.lt
   have ypos:=hDg1.ypos
   have m0:=Int.emod_nonneg (u32*4294967296+u1) (show y≠0 by omega)
   have m1':=Int.emod_lt_of_pos (u32*4294967296+u1) ypos
   have emd:=Int.emod_add_mul_ediv (u32*4294967296+u1) y
   generalize hq1:(u32*4294967296+u1)/y=q1 at *
   generalize hu21:(u32*4294967296+u1)%y=u21 at *
   have hDg2:Dg y n1 n0 u21 u0:=⟨hDg1.yd,hDg1.n1a,hDg1.n1b,hDg1.n0a,hDg1.n0b,m0,m1',hu0a.1,hu0a.2⟩
   obtain ⟨F1,F2,F3,F4,d2,F5⟩:=dg_est hDg2 (by omega)
   obtain ⟨m2,r2,hR2⟩:=dvRd2 (s:=s) (q1:=q1) hDg2 d2 _ _ F1 F2 F3 F4 F5
   have nn2:=hDg2.nn
   have lt2:=hDg2.lt
   have m2a:=Int.emod_nonneg (u21*4294967296+u0) (show y≠0 by omega)
   have m2b:=Int.emod_lt_of_pos (u21*4294967296+u0) ypos
   have emd2:=Int.emod_add_mul_ediv (u21*4294967296+u0) y
   have n1a:=hDg1.n1a
   have n1b:=hDg1.n1b
   have v1:wr .u64 (u32.tdiv n1)=u32/n1:=by rw [tdiv_pos u0a,wr_u];exact u64_in (Int.ediv_nonneg u0a (by omega)) (by omega)
   have v2:wr .u64 (u32 - wr .u64 (u32/n1*n1))=u32%n1:=by
    simp only [wr_u]
    generalize u32/n1*n1=t at *
    unfold u64;omega
   have v3:wr .u64 (wr .u64 (wr .u64 (u32*4294967296)+u1) - wr .u64 (q1*y))=u21:=by
    simp only [wr_u]
    have e:y*q1=q1*y:=Int.mul_comm _ _
    rw [e] at emd
    generalize q1*y=t at *
    unfold u64;omega
   have v4:wr .u64 (u21.tdiv n1)=u21/n1:=by rw [tdiv_pos m0,wr_u];exact u64_in (Int.ediv_nonneg m0 (by omega)) (by omega)
   have v5:wr .u64 (u21 - wr .u64 (u21/n1*n1))=u21%n1:=by
    simp only [wr_u]
    generalize u21/n1*n1=t at *
    unfold u64;omega
   have v6:wr .u64 (wr .u64 (q1*4294967296)+(u21*4294967296+u0)/y)=wVal h l/y0:=by
    rw [←D1]
    simp only [wr_u]
    unfold u64;omega
   have v7:wr .u64 (wr .u64 (wr .u64 (u21*4294967296)+u0) - wr .u64 ((u21*4294967296+u0)/y*y))/p=wVal h l%y0:=by
    rw [←D2]
    congr 1
    simp only [wr_u]
    have e:y*((u21*4294967296+u0)/y)=(u21*4294967296+u0)/y*y:=Int.mul_comm _ _
    rw [e] at emd2
    generalize (u21*4294967296+u0)/y*y=t at *
    unfold u64;omega
   refine calls_pure (c:=bodyF Tryz.prog 137) (e:= .ret) (B:=⟨[(6,U (wVal h l/y0)),(7,U (wVal h l%y0))],[],0⟩) Tryz.func137 (by kernel_rfl) (Nat.le_of_ble_eq_true (by kernel_rfl)) (Nat.le_of_ble_eq_true (by kernel_rfl)) rfl ?_ (.inr rfl) (fun dead=>by kernel_rfl) rfl w
   refine To.spineR (z:=Zl) sound8 (k:=14) (nbB:=0) (blks:=[]) (bs:=[]) (by kernel_rfl) (fun dead=>dvA dead h l y0) rfl
    (vs:=[U y,U s,U n1,U n0,U u32,U u1,U u0,U (u32/n1),U (u32%n1)]) ?_ rfl ?_ (canB_ok (by rfl)) (Nat.le_refl _) ?_
   ·simp only [hsv,w1,w2,w3,w4,hpv,hqv,w5,hY,x32,x10,pow2_32u,land1,land2,hN1,hu1,hu0,hN0,v1,v2]
    rfl
   ·simp only [hsv,w1,w2,w3,w4,hpv,hqv,w5,hY,pow2_32u,hN1,all_tt,all_ff,isU_iff,decide_eq_true_eq,a1,a2,decide_eq_false_iff_not,true_and]
    refine ⟨by omega,by omega,by omega,by omega,by omega,⟨hy0,hy1⟩,hypos,by simpa using hz,ae_nil⟩
   ·refine To.seq (by kernel_rfl) (To.block (id:=0) (by kernel_rfl) (To.loop (by kernel_rfl) hR1) (.inl rfl)) ?_
    refine To.spineR (z:=Zl) sound8 (k:=3) (nbB:=0) (blks:=[]) (bs:=[]) (by kernel_rfl) (fun dead=>dvM dead y s n1 n0 u32 u1 u0 q1 r1) rfl
     (vs:=[U y,U s,U n1,U n0,U u0,U q1,U u21,U (u21/n1),U (u21%n1)]) ?_ rfl ?_ (canB_ok (by rfl)) (Nat.le_refl _) ?_
    ·simp only [v3,v4,v5];rfl
    ·simp only [all_ff,decide_eq_false_iff_not];exact ⟨by omega,ae_nil⟩
    ·refine To.seq (by kernel_rfl) (To.block (id:=2) (by kernel_rfl) (To.loop (by kernel_rfl) hR2) (.inl rfl)) ?_
     refine To.weak (B:=⟨[6,7].zip [U (wVal h l/y0),U (wVal h l%y0)],[],0⟩) ?_ (fun _ h=>h) rfl rfl (canB_ok (by rfl))
     refine To.run (z:=Zl) sound8 (nbB:=0) (blks:=[]) (bs:=[]) (fun dead=>dvE dead y s n1 n0 u0 q1 u21 _ r2) rfl ?_ rfl ?_ (canB_ok (by rfl)) (Nat.le_refl _)
     ·simp only [w3,hpv,v6,v7];rfl
     ·simp only [all_ff,decide_eq_false_iff_not];exact ⟨by omega,ae_nil⟩
 ·cases hF
def S9:FuncId→Option SumK:=more (more S8 184 (pureSum rootS)) 137 (pureSum div64S)
theorem sound9:Sound Tryz.prog S9:=(sound8.more sumRoot).more sumDiv64
end Go.Proofs.YtnlhpaidmiogbaaGreat

/- wide.Div: by every path of its run (printed), and what it comes to. -/
namespace Go.Proofs.YtnlhpaidmiogbaaGreat
open Go.Lr
set_option linter.unusedVariables false
set_option linter.unusedSimpArgs false
theorem wdivR1 (x y d:Int):(runF Tryz.prog S9 Zl 2000 87 [.v (.agg [.int .i64 x,.int .u64 y]),.v (.one (.int .i64 d))] [] 0 [some true]).map (fun r=>(r.1,r.2.2.2))=some (LV.tup [V1.one (At.int IntKind.i64 0),V1.one (At.bool false)],[(d==0,true)]):=by kernel_rfl
theorem wdivR2 (x y d:Int):(runF Tryz.prog S9 Zl 2000 87 [.v (.agg [.int .i64 x,.int .u64 y]),.v (.one (.int .i64 d))] [] 0 [some false,some true]).map (fun r=>(r.1,r.2.2.2))=some (LV.tup [V1.one (At.int IntKind.i64 (if isI (sgn (!decide (wVal x y<0)==decide (d<0)) (wVal (wHi ((wVal (wr IntKind.u64 ((wHi (absV (wVal x y))).tdiv (absV d))) (wVal ((wHi (absV (wVal x y))).tmod (absV d)) (wLo (absV (wVal x y)))/absV d)+wVal 0 1)%340282366920938463463374607431768211456)) (wLo ((wVal (wr IntKind.u64 ((wHi (absV (wVal x y))).tdiv (absV d))) (wVal ((wHi (absV (wVal x y))).tmod (absV d)) (wLo (absV (wVal x y)))/absV d)+wVal 0 1)%340282366920938463463374607431768211456))))=true then sgn (!decide (wVal x y<0)==decide (d<0)) (wVal (wHi ((wVal (wr IntKind.u64 ((wHi (absV (wVal x y))).tdiv (absV d))) (wVal ((wHi (absV (wVal x y))).tmod (absV d)) (wLo (absV (wVal x y)))/absV d)+wVal 0 1)%340282366920938463463374607431768211456)) (wLo ((wVal (wr IntKind.u64 ((wHi (absV (wVal x y))).tdiv (absV d))) (wVal ((wHi (absV (wVal x y))).tmod (absV d)) (wLo (absV (wVal x y)))/absV d)+wVal 0 1)%340282366920938463463374607431768211456))) else 0)),V1.one (At.bool (isI (sgn (!decide (wVal x y<0)==decide (d<0)) (wVal (wHi ((wVal (wr IntKind.u64 ((wHi (absV (wVal x y))).tdiv (absV d))) (wVal ((wHi (absV (wVal x y))).tmod (absV d)) (wLo (absV (wVal x y)))/absV d)+wVal 0 1)%340282366920938463463374607431768211456)) (wLo ((wVal (wr IntKind.u64 ((wHi (absV (wVal x y))).tdiv (absV d))) (wVal ((wHi (absV (wVal x y))).tmod (absV d)) (wLo (absV (wVal x y)))/absV d)+wVal 0 1)%340282366920938463463374607431768211456))))))],[(isU (wHi ((wVal (wr IntKind.u64 ((wHi (absV (wVal x y))).tdiv (absV d))) (wVal ((wHi (absV (wVal x y))).tmod (absV d)) (wLo (absV (wVal x y)))/absV d)+wVal 0 1)%340282366920938463463374607431768211456)),true),(isU (wLo ((wVal (wr IntKind.u64 ((wHi (absV (wVal x y))).tdiv (absV d))) (wVal ((wHi (absV (wVal x y))).tmod (absV d)) (wLo (absV (wVal x y)))/absV d)+wVal 0 1)%340282366920938463463374607431768211456)),true),(isU (wr IntKind.u64 ((wHi (absV (wVal x y))).tdiv (absV d))),true),(isU (wVal ((wHi (absV (wVal x y))).tmod (absV d)) (wLo (absV (wVal x y)))/absV d),true),(isU 0,true),(isU 1,true),(decide (wVal ((wHi (absV (wVal x y))).tmod (absV d)) (wLo (absV (wVal x y)))%absV d≥wr IntKind.u64 (absV d - wVal ((wHi (absV (wVal x y))).tmod (absV d)) (wLo (absV (wVal x y)))%absV d)),true),(isU ((wHi (absV (wVal x y))).tmod (absV d)),true),(isU (wLo (absV (wVal x y))),true),(isU (absV d),true),(decide ((wHi (absV (wVal x y))).tmod (absV d)<absV d),true),(decide (absV d=0),false),(decide (absV d=0),false),(isI d,true),(isI x,true),(isU y,true),(d==0,false)]):=by kernel_rfl
theorem wdivR3 (x y d:Int):(runF Tryz.prog S9 Zl 2000 87 [.v (.agg [.int .i64 x,.int .u64 y]),.v (.one (.int .i64 d))] [] 0 [some false,some false]).map (fun r=>(r.1,r.2.2.2))=some (LV.tup [V1.one (At.int IntKind.i64 (if isI (sgn (!decide (wVal x y<0)==decide (d<0)) (wVal (wr IntKind.u64 ((wHi (absV (wVal x y))).tdiv (absV d))) (wVal ((wHi (absV (wVal x y))).tmod (absV d)) (wLo (absV (wVal x y)))/absV d)))=true then sgn (!decide (wVal x y<0)==decide (d<0)) (wVal (wr IntKind.u64 ((wHi (absV (wVal x y))).tdiv (absV d))) (wVal ((wHi (absV (wVal x y))).tmod (absV d)) (wLo (absV (wVal x y)))/absV d)) else 0)),V1.one (At.bool (isI (sgn (!decide (wVal x y<0)==decide (d<0)) (wVal (wr IntKind.u64 ((wHi (absV (wVal x y))).tdiv (absV d))) (wVal ((wHi (absV (wVal x y))).tmod (absV d)) (wLo (absV (wVal x y)))/absV d)))))],[(isU (wr IntKind.u64 ((wHi (absV (wVal x y))).tdiv (absV d))),true),(isU (wVal ((wHi (absV (wVal x y))).tmod (absV d)) (wLo (absV (wVal x y)))/absV d),true),(decide (wVal ((wHi (absV (wVal x y))).tmod (absV d)) (wLo (absV (wVal x y)))%absV d≥wr IntKind.u64 (absV d - wVal ((wHi (absV (wVal x y))).tmod (absV d)) (wLo (absV (wVal x y)))%absV d)),false),(isU ((wHi (absV (wVal x y))).tmod (absV d)),true),(isU (wLo (absV (wVal x y))),true),(isU (absV d),true),(decide ((wHi (absV (wVal x y))).tmod (absV d)<absV d),true),(decide (absV d=0),false),(decide (absV d=0),false),(isI d,true),(isI x,true),(isU y,true),(d==0,false)]):=by kernel_rfl
def wdivT (x y d:Int):Option (LV×List (Bool×Bool)):=
 bif (d==0) then some (LV.tup [V1.one (At.int IntKind.i64 0),V1.one (At.bool false)],[])
 else
  bif (decide (wVal ((wHi (absV (wVal x y))).tmod (absV d)) (wLo (absV (wVal x y)))%absV d≥wr IntKind.u64 (absV d - wVal ((wHi (absV (wVal x y))).tmod (absV d)) (wLo (absV (wVal x y)))%absV d))) then some (LV.tup [V1.one (At.int IntKind.i64 (if isI (sgn (!decide (wVal x y<0)==decide (d<0)) (wVal (wHi ((wVal (wr IntKind.u64 ((wHi (absV (wVal x y))).tdiv (absV d))) (wVal ((wHi (absV (wVal x y))).tmod (absV d)) (wLo (absV (wVal x y)))/absV d)+wVal 0 1)%340282366920938463463374607431768211456)) (wLo ((wVal (wr IntKind.u64 ((wHi (absV (wVal x y))).tdiv (absV d))) (wVal ((wHi (absV (wVal x y))).tmod (absV d)) (wLo (absV (wVal x y)))/absV d)+wVal 0 1)%340282366920938463463374607431768211456))))=true then sgn (!decide (wVal x y<0)==decide (d<0)) (wVal (wHi ((wVal (wr IntKind.u64 ((wHi (absV (wVal x y))).tdiv (absV d))) (wVal ((wHi (absV (wVal x y))).tmod (absV d)) (wLo (absV (wVal x y)))/absV d)+wVal 0 1)%340282366920938463463374607431768211456)) (wLo ((wVal (wr IntKind.u64 ((wHi (absV (wVal x y))).tdiv (absV d))) (wVal ((wHi (absV (wVal x y))).tmod (absV d)) (wLo (absV (wVal x y)))/absV d)+wVal 0 1)%340282366920938463463374607431768211456))) else 0)),V1.one (At.bool (isI (sgn (!decide (wVal x y<0)==decide (d<0)) (wVal (wHi ((wVal (wr IntKind.u64 ((wHi (absV (wVal x y))).tdiv (absV d))) (wVal ((wHi (absV (wVal x y))).tmod (absV d)) (wLo (absV (wVal x y)))/absV d)+wVal 0 1)%340282366920938463463374607431768211456)) (wLo ((wVal (wr IntKind.u64 ((wHi (absV (wVal x y))).tdiv (absV d))) (wVal ((wHi (absV (wVal x y))).tmod (absV d)) (wLo (absV (wVal x y)))/absV d)+wVal 0 1)%340282366920938463463374607431768211456))))))],[(isU (wHi ((wVal (wr IntKind.u64 ((wHi (absV (wVal x y))).tdiv (absV d))) (wVal ((wHi (absV (wVal x y))).tmod (absV d)) (wLo (absV (wVal x y)))/absV d)+wVal 0 1)%340282366920938463463374607431768211456)),true),(isU (wLo ((wVal (wr IntKind.u64 ((wHi (absV (wVal x y))).tdiv (absV d))) (wVal ((wHi (absV (wVal x y))).tmod (absV d)) (wLo (absV (wVal x y)))/absV d)+wVal 0 1)%340282366920938463463374607431768211456)),true),(isU (wr IntKind.u64 ((wHi (absV (wVal x y))).tdiv (absV d))),true),(isU (wVal ((wHi (absV (wVal x y))).tmod (absV d)) (wLo (absV (wVal x y)))/absV d),true),(isU 0,true),(isU 1,true),(isU ((wHi (absV (wVal x y))).tmod (absV d)),true),(isU (wLo (absV (wVal x y))),true),(isU (absV d),true),(decide ((wHi (absV (wVal x y))).tmod (absV d)<absV d),true),(decide (absV d=0),false),(isI d,true),(isI x,true),(isU y,true)])
  else some (LV.tup [V1.one (At.int IntKind.i64 (if isI (sgn (!decide (wVal x y<0)==decide (d<0)) (wVal (wr IntKind.u64 ((wHi (absV (wVal x y))).tdiv (absV d))) (wVal ((wHi (absV (wVal x y))).tmod (absV d)) (wLo (absV (wVal x y)))/absV d)))=true then sgn (!decide (wVal x y<0)==decide (d<0)) (wVal (wr IntKind.u64 ((wHi (absV (wVal x y))).tdiv (absV d))) (wVal ((wHi (absV (wVal x y))).tmod (absV d)) (wLo (absV (wVal x y)))/absV d)) else 0)),V1.one (At.bool (isI (sgn (!decide (wVal x y<0)==decide (d<0)) (wVal (wr IntKind.u64 ((wHi (absV (wVal x y))).tdiv (absV d))) (wVal ((wHi (absV (wVal x y))).tmod (absV d)) (wLo (absV (wVal x y)))/absV d)))))],[(isU (wr IntKind.u64 ((wHi (absV (wVal x y))).tdiv (absV d))),true),(isU (wVal ((wHi (absV (wVal x y))).tmod (absV d)) (wLo (absV (wVal x y)))/absV d),true),(isU ((wHi (absV (wVal x y))).tmod (absV d)),true),(isU (wLo (absV (wVal x y))),true),(isU (absV d),true),(decide ((wHi (absV (wVal x y))).tmod (absV d)<absV d),true),(decide (absV d=0),false),(isI d,true),(isI x,true),(isU y,true)])
def wdivF:List LV→Option (LV×List (Bool×Bool))
 | [.v (.agg [.int .i64 x,.int .u64 y]),.v (.one (.int .i64 d))]=>wdivT x y d
 | _=>none
theorem sumwdiv:SumOK Tryz.prog 87 (pureSum wdivF):=by
 refine pureSum_run (z:=Zl) sound9 (own_of sound9 Tryz.func87 (by kernel_rfl)) fun args v cs hF hc=> ?_
 unfold wdivF at hF
 split at hF
 ·rename_i x y d
  unfold wdivT at hF
  rcases bool_cases (d==0) with h0 | h0
  ·rw [cond_t h0] at hF
   cases hF
   exact ⟨2000,[some true],_,wdivR1 x y d,ae_cons (h0) (ae_nil)⟩
  ·rw [cond_f h0] at hF
   rcases bool_cases (decide (wVal ((wHi (absV (wVal x y))).tmod (absV d)) (wLo (absV (wVal x y)))%absV d≥wr IntKind.u64 (absV d - wVal ((wHi (absV (wVal x y))).tmod (absV d)) (wLo (absV (wVal x y)))%absV d))) with h1 | h1
   ·rw [cond_t h1] at hF
    cases hF
    exact ⟨2000,[some false,some true],_,wdivR2 x y d,ae_cons (hd_of (hc)) (ae_cons (hd_of (tl_of (hc))) (ae_cons (hd_of (tl_of (tl_of (hc)))) (ae_cons (hd_of (tl_of (tl_of (tl_of (hc))))) (ae_cons (hd_of (tl_of (tl_of (tl_of (tl_of (hc)))))) (ae_cons (hd_of (tl_of (tl_of (tl_of (tl_of (tl_of (hc))))))) (ae_cons (h1) (ae_cons (hd_of (tl_of (tl_of (tl_of (tl_of (tl_of (tl_of (hc)))))))) (ae_cons (hd_of (tl_of (tl_of (tl_of (tl_of (tl_of (tl_of (tl_of (hc))))))))) (ae_cons (hd_of (tl_of (tl_of (tl_of (tl_of (tl_of (tl_of (tl_of (tl_of (hc)))))))))) (ae_cons (hd_of (tl_of (tl_of (tl_of (tl_of (tl_of (tl_of (tl_of (tl_of (tl_of (hc))))))))))) (ae_cons (hd_of (tl_of (tl_of (tl_of (tl_of (tl_of (tl_of (tl_of (tl_of (tl_of (tl_of (hc)))))))))))) (ae_cons (hd_of (tl_of (tl_of (tl_of (tl_of (tl_of (tl_of (tl_of (tl_of (tl_of (tl_of (hc)))))))))))) (ae_cons (hd_of (tl_of (tl_of (tl_of (tl_of (tl_of (tl_of (tl_of (tl_of (tl_of (tl_of (tl_of (hc))))))))))))) (ae_cons (hd_of (tl_of (tl_of (tl_of (tl_of (tl_of (tl_of (tl_of (tl_of (tl_of (tl_of (tl_of (tl_of (hc)))))))))))))) (ae_cons (hd_of (tl_of (tl_of (tl_of (tl_of (tl_of (tl_of (tl_of (tl_of (tl_of (tl_of (tl_of (tl_of (tl_of (hc))))))))))))))) (ae_cons (h0) (ae_nil)))))))))))))))))⟩
   ·rw [cond_f h1] at hF
    cases hF
    exact ⟨2000,[some false,some false],_,wdivR3 x y d,ae_cons (hd_of (hc)) (ae_cons (hd_of (tl_of (hc))) (ae_cons (h1) (ae_cons (hd_of (tl_of (tl_of (hc)))) (ae_cons (hd_of (tl_of (tl_of (tl_of (hc))))) (ae_cons (hd_of (tl_of (tl_of (tl_of (tl_of (hc)))))) (ae_cons (hd_of (tl_of (tl_of (tl_of (tl_of (tl_of (hc))))))) (ae_cons (hd_of (tl_of (tl_of (tl_of (tl_of (tl_of (tl_of (hc)))))))) (ae_cons (hd_of (tl_of (tl_of (tl_of (tl_of (tl_of (tl_of (hc)))))))) (ae_cons (hd_of (tl_of (tl_of (tl_of (tl_of (tl_of (tl_of (tl_of (hc))))))))) (ae_cons (hd_of (tl_of (tl_of (tl_of (tl_of (tl_of (tl_of (tl_of (tl_of (hc)))))))))) (ae_cons (hd_of (tl_of (tl_of (tl_of (tl_of (tl_of (tl_of (tl_of (tl_of (tl_of (hc))))))))))) (ae_cons (h0) (ae_nil)))))))))))))⟩
 ·cases hF
theorem long_div {B b:Int} (hb:0<b):wVal (wHi B/b) (wVal (wHi B%b) (wLo B)/b)=B/b∧wVal (wHi B%b) (wLo B)%b=B%b:=by
 have e1:=Int.emod_add_mul_ediv (wHi B) b
 have e2:=Int.emod_add_mul_ediv (wVal (wHi B%b) (wLo B)) b
 have m0:=Int.emod_nonneg (wVal (wHi B%b) (wLo B)) (show b≠0 by omega)
 have m1:=Int.emod_lt_of_pos (wVal (wHi B%b) (wLo B)) hb
 have e3:=wVal_mk B
 generalize hq:wHi B/b=q at *
 generalize hr:wHi B%b=r at *
 generalize ht:wVal r (wLo B)/b=t at *
 generalize hs:wVal r (wLo B)%b=s at *
 have e4:B=wVal q t*b+s:=by
  have:B=wHi B*18446744073709551616+wLo B:=by rw [←e3];simp only [hi_mk _ _ (wLo_in B).1 (wLo_in B).2,lo_mk _ _ (wLo_in B).1 (wLo_in B).2];rfl
  rw [this,←e1]
  have e5:wVal r (wLo B)=r*18446744073709551616+wLo B:=rfl
  rw [e5] at e2
  unfold wVal
  grind
 exact ⟨(ediv_unique e4 m0 m1).symm,(emod_unique e4 m0 m1).symm⟩
def divS:List LV→Option (LV×List (Bool×Bool))
 | [.v (.agg [.int .i64 x,.int .u64 y]),.v (.one (.int .i64 d))]=>
  bif (d==0) then some (.tup [.one (.int .i64 0),.one (.bool false)],[])
  else some (.tup [.one (.int .i64 (if isI (divV (wVal x y) d)=true then divV (wVal x y) d else 0)),.one (.bool (isI (divV (wVal x y) d)))],[(isI x,true),(isU y,true),(isI d,true)])
 | _=>none
theorem sumDiv:SumOK Tryz.prog 87 (pureSum divS):=by
 refine sumwdiv.pure_re fun args v cs hF hc=> ?_
 unfold divS at hF
 split at hF
 ·rename_i x y d
  rcases bool_cases (d==0) with hd | hd
  ·rw [cond_t hd] at hF
   cases hF
   exact ⟨[],cond_t hd,ae_nil⟩
  ·rw [cond_f hd] at hF
   cases hF
   simp only [all_tt,isI_iff,isU_iff] at hc
   obtain ⟨⟨hx0,hx1⟩,⟨hy0,hy1⟩,⟨hd0,hd1⟩,-⟩:=hc
   show ∃cs',wdivT x y d=_∧_
   have hdn:d≠0:=by simpa using hd
   have hv0: -170141183460469231731687303715884105728≤wVal x y:=by unfold wVal;omega
   have hv1:wVal x y<170141183460469231731687303715884105728:=by unfold wVal;omega
   have hB0:=absV_nn (wVal x y)
   have hB1:absV (wVal x y)≤170141183460469231731687303715884105728:=by unfold absV;split <;> omega
   have hb0:0<absV d:=by unfold absV;split <;> omega
   have hb1:absV d≤9223372036854775808:=absI hd0 hd1
   have hdef:divV (wVal x y) d=sgn (!decide (wVal x y<0)==decide (d<0)) (quoR (absV (wVal x y)) (absV d)):=rfl
   rw [hdef]
   unfold wdivT
   rw [cond_f hd]
   generalize absV (wVal x y)=B at *
   generalize absV d=b at *
   have hh:=wHi_in B hB0 (by omega)
   have hl:=wLo_in B
   obtain ⟨L1,L2⟩:=long_div (B:=B) hb0
   have m0:=Int.emod_nonneg (wHi B) (show b≠0 by omega)
   have m1:=Int.emod_lt_of_pos (wHi B) hb0
   have t1:(wHi B).tmod b=wHi B%b:=tmod_pos hh.1
   have t2:(wHi B).tdiv b=wHi B/b:=tdiv_pos hh.1
   have d0:0≤wHi B/b:=Int.ediv_nonneg hh.1 (by omega)
   have d1:wHi B/b≤wHi B:=Int.ediv_le_self _ hh.1
   have t3:wr .u64 (wHi B/b)=wHi B/b:=u64_in d0 (by omega)
   have c0:0≤wVal (wHi B%b) (wLo B):=by unfold wVal;omega
   have q0:0≤wVal (wHi B%b) (wLo B)/b:=Int.ediv_nonneg c0 (by omega)
   have q1:wVal (wHi B%b) (wLo B)/b<18446744073709551616:=by
    refine Int.ediv_lt_of_lt_mul hb0 ?_
    have:(wHi B%b+1)*18446744073709551616≤b*18446744073709551616:=Int.mul_le_mul_of_nonneg_right (by omega) (by omega)
    unfold wVal
    rw [Int.mul_comm 18446744073709551616 b]
    omega
   have r0:=Int.emod_nonneg B (show b≠0 by omega)
   have r1:=Int.emod_lt_of_pos B hb0
   have t4:wr .u64 (b - B%b)=b - B%b:=u64_in (by omega) (by omega)
   have Q0:0≤B/b:=Int.ediv_nonneg hB0 (by omega)
   have Q1:B/b≤B:=Int.ediv_le_self _ hB0
   have e01:wVal 0 1=1:=rfl
   have t5:(B/b+1)%340282366920938463463374607431768211456=B/b+1:=by omega
   simp only [t1,t2,t3,L1,L2,t4,e01,t5,wVal_mk]
   by_cases hr:B%b≥b - B%b
   ·rw [cond_t (decide_eq_true hr)]
    have eq:quoR B b=B/b+1:=if_pos hr
    rw [eq]
    refine ⟨_,rfl, ?_⟩
    simp only [all_tt,all_ff,isU_iff,isI_iff,decide_eq_true_eq,decide_eq_false_iff_not]
    repeat' apply And.intro
    all_goals first | exact ae_nil | (unfold wHi;omega) | (unfold wLo;omega) | omega
   ·rw [cond_f (decide_eq_false hr)]
    have eq:quoR B b=B/b:=if_neg hr
    rw [eq]
    refine ⟨_,rfl, ?_⟩
    simp only [all_tt,all_ff,isU_iff,isI_iff,decide_eq_true_eq,decide_eq_false_iff_not]
    repeat' apply And.intro
    all_goals first | exact ae_nil | (unfold wHi;omega) | (unfold wLo;omega) | omega
 ·cases hF
end Go.Proofs.YtnlhpaidmiogbaaGreat

/- fx: the table of what is known so far. -/
namespace Go.Proofs.YtnlhpaidmiogbaaGreat
open Go.Lr
def divS2:List LV→Option (LV×List (Bool×Bool))
 | [.v (.agg [.int .i64 x,.int .u64 y]),.v (.one (.int .i64 d))]=>
  some (.tup [.one (.int .i64 (if isI (divV (wVal x y) d)=true then divV (wVal x y) d else 0)),.one (.bool (isI (divV (wVal x y) d)))],[(d==0,false),(isI x,true),(isU y,true),(isI d,true)])
 | _=>none
theorem sumDiv2:SumOK Tryz.prog 87 (pureSum divS2):=by
 refine sumDiv.pure_re fun args v cs hF hc=> ?_
 unfold divS2 at hF
 split at hF
 ·cases hF
  exact ⟨_,cond_f (hd_of hc),tl_of hc⟩
 ·cases hF
def rootS2:List LV→Option (LV×List (Bool×Bool))
 | [.v (.agg [.int .i64 x,.int .u64 y])]=>
  some (.tup [.one (.int .i64 (if isI (rootW (wVal x y))=true then rootW (wVal x y) else 0)),.one (.bool (isI (rootW (wVal x y))))],[(decide (x<0),false),(isI x,true),(isU y,true)])
 | _=>none
theorem sumRoot2:SumOK Tryz.prog 184 (pureSum rootS2):=by
 refine sumRoot.pure_re fun args v cs hF hc=> ?_
 unfold rootS2 at hF
 split at hF
 ·rename_i x y
  cases hF
  have h0:=hd_of hc
  refine ⟨[(isI x,true),(isU y,true)], ?_,tl_of hc⟩
  simp only [rootS,h0]
 ·cases hF
def S11:FuncId→Option SumK:=more (more (more (more S8 184 (pureSum rootS2)) 87 (pureSum divS2)) 92 (accSum 61 clampF)) 43 (accSum 61 satF)
theorem sound11:Sound Tryz.prog S11:=(((sound8.more sumRoot2).more sumDiv2).more sumClamp).more sumSat
end Go.Proofs.YtnlhpaidmiogbaaGreat

/- fx: end, Sub, Abs, by every path of their runs (printed), and what they come to. -/
namespace Go.Proofs.YtnlhpaidmiogbaaGreat
open Go.Lr
set_option linter.unusedVariables false
set_option linter.unusedSimpArgs false
theorem xendR1 (a:Int) (ok neg:Bool) (hb:Bool):(runF Tryz.prog S11 Zl 2000 88 [A0,.v (.one (.int .i64 a)),.v (.one (.bool ok)),.v (.one (.bool neg))] [(0,flag 61 hb)] 1 [some true,some true]).map acc3=some (LV.v (V1.one (At.int IntKind.i64 (-1152921504606846976))),some { ty:=61,fr:=(0,0),es:=0,cells:=[At.bool true] },[(neg,true),(!ok,true)]):=by kernel_rfl
theorem xendR2 (a:Int) (ok neg:Bool) (hb:Bool):(runF Tryz.prog S11 Zl 2000 88 [A0,.v (.one (.int .i64 a)),.v (.one (.bool ok)),.v (.one (.bool neg))] [(0,flag 61 hb)] 1 [some true,some false]).map acc3=some (LV.v (V1.one (At.int IntKind.i64 1152921504606846976)),some { ty:=61,fr:=(0,0),es:=0,cells:=[At.bool true] },[(neg,false),(!ok,true)]):=by kernel_rfl
theorem xendR3 (a:Int) (ok neg:Bool) (hb:Bool):(runF Tryz.prog S11 Zl 2000 88 [A0,.v (.one (.int .i64 a)),.v (.one (.bool ok)),.v (.one (.bool neg))] [(0,flag 61 hb)] 1 [some false]).map acc3=some (LV.v (V1.one (At.int IntKind.i64 (satV a))),some { ty:=61,fr:=(0,0),es:=0,cells:=[At.bool (hb||satH a)] },[(!ok,false)]):=by kernel_rfl
def xendT (a:Int) (ok neg:Bool) (hb:Bool):Option (LV×Bool×List (Bool×Bool)):=
 bif (!ok) then
  bif (neg) then some (LV.v (V1.one (At.int IntKind.i64 (-1152921504606846976))),(true),[])
  else some (LV.v (V1.one (At.int IntKind.i64 1152921504606846976)),(true),[])
 else some (LV.v (V1.one (At.int IntKind.i64 (satV a))),(hb||satH a),[])
def xendF:List LV→Bool→Option (LV×Bool×List (Bool×Bool))
 | [.v (.one (.int .i64 a)),.v (.one (.bool ok)),.v (.one (.bool neg))],hb=>xendT a ok neg hb
 | _,_=>none
theorem sumxend:SumOK Tryz.prog 88 (accSum 61 xendF):=by
 refine accSum_run (z:=Zl) sound11 (own_of sound11 Tryz.func88 (by kernel_rfl)) fun args hb v h' cs hF hc=> ?_
 unfold xendF at hF
 split at hF
 ·rename_i a ok neg
  unfold xendT at hF
  rcases bool_cases (!ok) with h0 | h0
  ·rw [cond_t h0] at hF
   rcases bool_cases (neg) with h1 | h1
   ·rw [cond_t h1] at hF
    cases hF
    exact ⟨rfl,2000,[some true,some true],_,xendR1 a ok neg hb,ae_cons (h1) (ae_cons (h0) (ae_nil))⟩
   ·rw [cond_f h1] at hF
    cases hF
    exact ⟨rfl,2000,[some true,some false],_,xendR2 a ok neg hb,ae_cons (h1) (ae_cons (h0) (ae_nil))⟩
  ·rw [cond_f h0] at hF
   cases hF
   exact ⟨rfl,2000,[some false],_,xendR3 a ok neg hb,ae_cons (h0) (ae_nil)⟩
 ·cases hF
theorem xsubR1 (a b:Int) (hb:Bool):(runF Tryz.prog S11 Zl 2000 197 [A0,.v (.one (.int .i64 a)),.v (.one (.int .i64 b))] [(0,flag 61 hb)] 1 []).map acc3=some (LV.v (V1.one (At.int IntKind.i64 (satV (wr IntKind.i64 (satV a - satV b))))),some { ty:=61,fr:=(0,0),es:=0,cells:=[At.bool (hb||satH a||satH b||satH (wr IntKind.i64 (satV a - satV b)))] },[]):=by kernel_rfl
def xsubT (a b:Int) (hb:Bool):Option (LV×Bool×List (Bool×Bool)):=some (LV.v (V1.one (At.int IntKind.i64 (satV (wr IntKind.i64 (satV a - satV b))))),(hb||satH a||satH b||satH (wr IntKind.i64 (satV a - satV b))),[])
def xsubF:List LV→Bool→Option (LV×Bool×List (Bool×Bool))
 | [.v (.one (.int .i64 a)),.v (.one (.int .i64 b))],hb=>xsubT a b hb
 | _,_=>none
theorem sumxsub:SumOK Tryz.prog 197 (accSum 61 xsubF):=by
 refine accSum_run (z:=Zl) sound11 (own_of sound11 Tryz.func197 (by kernel_rfl)) fun args hb v h' cs hF hc=> ?_
 unfold xsubF at hF
 split at hF
 ·rename_i a b
  unfold xsubT at hF
  cases hF
  exact ⟨rfl,2000,[],_,xsubR1 a b hb,ae_nil⟩
 ·cases hF
theorem xabsR1 (a:Int):(runF Tryz.prog S11 Zl 2000 110 [.v (.one (.int .i64 a))] [] 0 [some true,some true,some true,none]).map (fun r=>(r.1,r.2.2.2))=some (LV.v (V1.one (At.int IntKind.i64 1152921504606846976)),[(decide (a≥1152921504606846976),true),(decide (a≥1152921504606846976),true),(decide (a≥1152921504606846976),true)]):=by kernel_rfl
theorem xabsR2 (a:Int):(runF Tryz.prog S11 Zl 2000 110 [.v (.one (.int .i64 a))] [] 0 [some false,some false,some false,some true]).map (fun r=>(r.1,r.2.2.2))=some (LV.v (V1.one (At.int IntKind.i64 1152921504606846976)),[(decide (a≤ -1152921504606846976),true),(decide (a≥1152921504606846976),false),(decide (a≥1152921504606846976),false),(decide (a≥1152921504606846976),false)]):=by kernel_rfl
theorem xabsR3 (a:Int):(runF Tryz.prog S11 Zl 2000 110 [.v (.one (.int .i64 a))] [] 0 [some false,some false,some false,some false,some true]).map (fun r=>(r.1,r.2.2.2))=some (LV.v (V1.one (At.int IntKind.i64 (wr IntKind.i64 (0 - a)))),[(decide (a<0),true),(decide (a≤ -1152921504606846976),false),(decide (a≥1152921504606846976),false),(decide (a≥1152921504606846976),false),(decide (a≥1152921504606846976),false)]):=by kernel_rfl
theorem xabsR4 (a:Int):(runF Tryz.prog S11 Zl 2000 110 [.v (.one (.int .i64 a))] [] 0 [some false,some false,some false,some false,some false]).map (fun r=>(r.1,r.2.2.2))=some (LV.v (V1.one (At.int IntKind.i64 a)),[(decide (a<0),false),(decide (a≤ -1152921504606846976),false),(decide (a≥1152921504606846976),false),(decide (a≥1152921504606846976),false),(decide (a≥1152921504606846976),false)]):=by kernel_rfl
def xabsT (a:Int):Option (LV×List (Bool×Bool)):=
 bif (decide (a≥1152921504606846976)) then some (LV.v (V1.one (At.int IntKind.i64 1152921504606846976)),[])
 else
  bif (decide (a≤ -1152921504606846976)) then some (LV.v (V1.one (At.int IntKind.i64 1152921504606846976)),[])
  else
   bif (decide (a<0)) then some (LV.v (V1.one (At.int IntKind.i64 (wr IntKind.i64 (0 - a)))),[])
   else some (LV.v (V1.one (At.int IntKind.i64 a)),[])
def xabsF:List LV→Option (LV×List (Bool×Bool))
 | [.v (.one (.int .i64 a))]=>xabsT a
 | _=>none
theorem sumxabs:SumOK Tryz.prog 110 (pureSum xabsF):=by
 refine pureSum_run (z:=Zl) sound11 (own_of sound11 Tryz.func110 (by kernel_rfl)) fun args v cs hF hc=> ?_
 unfold xabsF at hF
 split at hF
 ·rename_i a
  unfold xabsT at hF
  rcases bool_cases (decide (a≥1152921504606846976)) with h0 | h0
  ·rw [cond_t h0] at hF
   cases hF
   exact ⟨2000,[some true,some true,some true,none],_,xabsR1 a,ae_cons (h0) (ae_cons (h0) (ae_cons (h0) (ae_nil)))⟩
  ·rw [cond_f h0] at hF
   rcases bool_cases (decide (a≤ -1152921504606846976)) with h1 | h1
   ·rw [cond_t h1] at hF
    cases hF
    exact ⟨2000,[some false,some false,some false,some true],_,xabsR2 a,ae_cons (h1) (ae_cons (h0) (ae_cons (h0) (ae_cons (h0) (ae_nil))))⟩
   ·rw [cond_f h1] at hF
    rcases bool_cases (decide (a<0)) with h2 | h2
    ·rw [cond_t h2] at hF
     cases hF
     exact ⟨2000,[some false,some false,some false,some false,some true],_,xabsR3 a,ae_cons (h2) (ae_cons (h1) (ae_cons (h0) (ae_cons (h0) (ae_cons (h0) (ae_nil)))))⟩
    ·rw [cond_f h2] at hF
     cases hF
     exact ⟨2000,[some false,some false,some false,some false,some false],_,xabsR4 a,ae_cons (h2) (ae_cons (h1) (ae_cons (h0) (ae_cons (h0) (ae_cons (h0) (ae_nil)))))⟩
 ·cases hF
theorem sat_bd (a:Int): -1152921504606846976≤satV a∧satV a≤1152921504606846976:=by
 unfold satV clampV;(repeat' split) <;> omega
theorem sat_in {a:Int} (h0: -1152921504606846976≤a) (h1:a≤1152921504606846976):satV a=a:=by
 unfold satV clampV;rw [if_neg (by omega),if_neg (by omega),if_neg (by omega)]
theorem satH_in {a:Int} (h0: -1152921504606846976≤a) (h1:a≤1152921504606846976):satH a=false:=by
 unfold satH clampH;simp;omega
theorem satH_out {a:Int} (h:a < -1152921504606846976∨1152921504606846976<a):satH a=true:=by
 unfold satH clampH;simp;omega
theorem sat_lo {a:Int} (h:a < -1152921504606846976):satV a = -1152921504606846976:=by
 unfold satV clampV;rw [if_neg (by omega),if_pos (by omega)]
theorem sat_hi {a:Int} (h:1152921504606846976<a):satV a=1152921504606846976:=by
 unfold satV clampV;rw [if_neg (by omega),if_neg (by omega),if_pos (by omega)]
def endV (a:Int) (ok neg:Bool):Int:=bif ok then satV a else bif neg then -1152921504606846976 else 1152921504606846976
def endH (a:Int) (ok:Bool):Bool:=bif ok then satH a else true
def endS:List LV→Bool→Option (LV×Bool×List (Bool×Bool))
 | [.v (.one (.int .i64 a)),.v (.one (.bool ok)),.v (.one (.bool neg))],hb=>some (I (endV a ok neg),hb||endH a ok,[])
 | _,_=>none
theorem sumEnd:SumOK Tryz.prog 88 (accSum 61 endS):=by
 refine sumxend.acc_re fun args hb v h' cs hF _=> ?_
 unfold endS at hF
 split at hF
 ·rename_i a ok neg
  cases hF
  refine ⟨[], ?_,ae_nil⟩
  show xendT a ok neg hb=_
  unfold xendT
  cases ok <;> cases neg <;> simp [endV,endH,I]
 ·cases hF
def subV (a b:Int):Int:=satV (satV a - satV b)
def subH (a b:Int):Bool:=satH a||(satH b||satH (satV a - satV b))
def subS:List LV→Bool→Option (LV×Bool×List (Bool×Bool))
 | [.v (.one (.int .i64 a)),.v (.one (.int .i64 b))],hb=>some (I (subV a b),hb||subH a b,[])
 | _,_=>none
theorem sumSub:SumOK Tryz.prog 197 (accSum 61 subS):=by
 refine sumxsub.acc_re fun args hb v h' cs hF _=> ?_
 unfold subS at hF
 split at hF
 ·rename_i a b
  cases hF
  refine ⟨[], ?_,ae_nil⟩
  show xsubT a b hb=_
  have ha:=sat_bd a
  have hb':=sat_bd b
  have e:wr .i64 (satV a - satV b)=satV a - satV b:=w64_in (by omega) (by omega)
  unfold xsubT
  rw [e]
  simp [subV,subH,I,Bool.or_assoc]
 ·cases hF
def fabsV (a:Int):Int:=if a≥1152921504606846976 then 1152921504606846976 else if a≤ -1152921504606846976 then 1152921504606846976 else if a<0 then -a else a
def fabsS:List LV→Option (LV×List (Bool×Bool))
 | [.v (.one (.int .i64 a))]=>some (I (fabsV a),[])
 | _=>none
theorem sumFabs:SumOK Tryz.prog 110 (pureSum fabsS):=by
 refine sumxabs.pure_re fun args v cs hF _=> ?_
 unfold fabsS at hF
 split at hF
 ·rename_i a
  cases hF
  refine ⟨[], ?_,ae_nil⟩
  show xabsT a=_
  unfold xabsT fabsV
  by_cases h1:a≥1152921504606846976
  ·rw [cond_t (decide_eq_true h1),if_pos h1];rfl
  ·rw [cond_f (decide_eq_false h1),if_neg h1]
   by_cases h2:a≤ -1152921504606846976
   ·rw [cond_t (decide_eq_true h2),if_pos h2];rfl
   ·rw [cond_f (decide_eq_false h2),if_neg h2]
    by_cases h3:a<0
    ·rw [cond_t (decide_eq_true h3),if_pos h3]
     have e:wr .i64 (0 - a) = -a:=by rw [wr_i];unfold w64;omega
     rw [e];rfl
    ·rw [cond_f (decide_eq_false h3),if_neg h3];rfl
 ·cases hF
def S12:FuncId→Option SumK:=more (more (more S11 88 (accSum 61 endS)) 197 (accSum 61 subS)) 110 (pureSum fabsS)
theorem sound12:Sound Tryz.prog S12:=((sound11.more sumEnd).more sumSub).more sumFabs
end Go.Proofs.YtnlhpaidmiogbaaGreat

/- fx: round, by, by every path of their runs (printed), and what they come to. -/
namespace Go.Proofs.YtnlhpaidmiogbaaGreat
open Go.Lr
set_option linter.unusedVariables false
set_option linter.unusedSimpArgs false
theorem xroundR1 (x y s:Int) (hb:Bool):(runF Tryz.prog S12 Zl 2000 109 [A0,.v (.agg [.int .i64 x,.int .u64 y]),.v (.one (.int .i64 s))] [(0,flag 61 hb)] 1 [some true,some true,some true,none]).map acc3=some (LV.v (V1.one (At.int IntKind.i64 0)),some { ty:=61,fr:=(0,0),es:=0,cells:=[At.bool true] },[(decide (s<0),true),(decide (s<0),true),(decide (s<0),true)]):=by kernel_rfl
theorem xroundR2 (x y s:Int) (hb:Bool):(runF Tryz.prog S12 Zl 2000 109 [A0,.v (.agg [.int .i64 x,.int .u64 y]),.v (.one (.int .i64 s))] [(0,flag 61 hb)] 1 [some false,some false,some false,some true]).map acc3=some (LV.v (V1.one (At.int IntKind.i64 0)),some { ty:=61,fr:=(0,0),es:=0,cells:=[At.bool true] },[(decide (s>120),true),(decide (s<0),false),(decide (s<0),false),(decide (s<0),false)]):=by kernel_rfl
theorem xroundR3 (x y s:Int) (hb:Bool):(runF Tryz.prog S12 Zl 2000 109 [A0,.v (.agg [.int .i64 x,.int .u64 y]),.v (.one (.int .i64 s))] [(0,flag 61 hb)] 1 [some false,some false,some false,some false]).map acc3=some (LV.v (V1.one (At.int IntKind.i64 (endV (if isI (rndV (wVal x y) s.toNat)=true then rndV (wVal x y) s.toNat else 0) (isI (rndV (wVal x y) s.toNat)) (decide (x<0))))),some { ty:=61,fr:=(0,0),es:=0,cells:=[At.bool (hb||endH (if isI (rndV (wVal x y) s.toNat)=true then rndV (wVal x y) s.toNat else 0) (isI (rndV (wVal x y) s.toNat)))] },[(isI x,true),(isU y,true),(decide (0≤s)&&decide (s≤126),true),(decide (s>120),false),(decide (s<0),false),(decide (s<0),false),(decide (s<0),false)]):=by kernel_rfl
def xroundT (x y s:Int) (hb:Bool):Option (LV×Bool×List (Bool×Bool)):=
 bif (decide (s<0)) then some (LV.v (V1.one (At.int IntKind.i64 0)),(true),[])
 else
  bif (decide (s>120)) then some (LV.v (V1.one (At.int IntKind.i64 0)),(true),[])
  else some (LV.v (V1.one (At.int IntKind.i64 (endV (if isI (rndV (wVal x y) s.toNat)=true then rndV (wVal x y) s.toNat else 0) (isI (rndV (wVal x y) s.toNat)) (decide (x<0))))),(hb||endH (if isI (rndV (wVal x y) s.toNat)=true then rndV (wVal x y) s.toNat else 0) (isI (rndV (wVal x y) s.toNat))),[(isI x,true),(isU y,true),(decide (0≤s)&&decide (s≤126),true)])
def xroundF:List LV→Bool→Option (LV×Bool×List (Bool×Bool))
 | [.v (.agg [.int .i64 x,.int .u64 y]),.v (.one (.int .i64 s))],hb=>xroundT x y s hb
 | _,_=>none
theorem sumxround:SumOK Tryz.prog 109 (accSum 61 xroundF):=by
 refine accSum_run (z:=Zl) sound12 (own_of sound12 Tryz.func109 (by kernel_rfl)) fun args hb v h' cs hF hc=> ?_
 unfold xroundF at hF
 split at hF
 ·rename_i x y s
  unfold xroundT at hF
  rcases bool_cases (decide (s<0)) with h0 | h0
  ·rw [cond_t h0] at hF
   cases hF
   exact ⟨rfl,2000,[some true,some true,some true,none],_,xroundR1 x y s hb,ae_cons (h0) (ae_cons (h0) (ae_cons (h0) (ae_nil)))⟩
  ·rw [cond_f h0] at hF
   rcases bool_cases (decide (s>120)) with h1 | h1
   ·rw [cond_t h1] at hF
    cases hF
    exact ⟨rfl,2000,[some false,some false,some false,some true],_,xroundR2 x y s hb,ae_cons (h1) (ae_cons (h0) (ae_cons (h0) (ae_cons (h0) (ae_nil))))⟩
   ·rw [cond_f h1] at hF
    cases hF
    exact ⟨rfl,2000,[some false,some false,some false,some false],_,xroundR3 x y s hb,ae_cons (hd_of (hc)) (ae_cons (hd_of (tl_of (hc))) (ae_cons (hd_of (tl_of (tl_of (hc)))) (ae_cons (h1) (ae_cons (h0) (ae_cons (h0) (ae_cons (h0) (ae_nil)))))))⟩
 ·cases hF
theorem xbyR1 (x y d:Int) (hb:Bool):(runF Tryz.prog S12 Zl 2000 41 [A0,.v (.agg [.int .i64 x,.int .u64 y]),.v (.one (.int .i64 d))] [(0,flag 61 hb)] 1 [some true,some true]).map acc3=some (LV.v (V1.one (At.int IntKind.i64 0)),some { ty:=61,fr:=(0,0),es:=0,cells:=[At.bool true] },[(x==0&&(y==0&&true),true),(d==0,true)]):=by kernel_rfl
theorem xbyR2 (x y d:Int) (hb:Bool):(runF Tryz.prog S12 Zl 2000 41 [A0,.v (.agg [.int .i64 x,.int .u64 y]),.v (.one (.int .i64 d))] [(0,flag 61 hb)] 1 [some true,some false,some true]).map acc3=some (LV.v (V1.one (At.int IntKind.i64 (-1152921504606846976))),some { ty:=61,fr:=(0,0),es:=0,cells:=[At.bool true] },[(decide (x<0),true),(x==0&&(y==0&&true),false),(d==0,true)]):=by kernel_rfl
theorem xbyR3 (x y d:Int) (hb:Bool):(runF Tryz.prog S12 Zl 2000 41 [A0,.v (.agg [.int .i64 x,.int .u64 y]),.v (.one (.int .i64 d))] [(0,flag 61 hb)] 1 [some true,some false,some false]).map acc3=some (LV.v (V1.one (At.int IntKind.i64 1152921504606846976)),some { ty:=61,fr:=(0,0),es:=0,cells:=[At.bool true] },[(decide (x<0),false),(x==0&&(y==0&&true),false),(d==0,true)]):=by kernel_rfl
theorem xbyR4 (x y d:Int) (hb:Bool):(runF Tryz.prog S12 Zl 2000 41 [A0,.v (.agg [.int .i64 x,.int .u64 y]),.v (.one (.int .i64 d))] [(0,flag 61 hb)] 1 [some false]).map acc3=some (LV.v (V1.one (At.int IntKind.i64 (endV (if isI (divV (wVal x y) d)=true then divV (wVal x y) d else 0) (isI (divV (wVal x y) d)) !decide (x<0)==decide (d<0)))),some { ty:=61,fr:=(0,0),es:=0,cells:=[At.bool (hb||endH (if isI (divV (wVal x y) d)=true then divV (wVal x y) d else 0) (isI (divV (wVal x y) d)))] },[(d==0,false),(isI x,true),(isU y,true),(isI d,true),(d==0,false)]):=by kernel_rfl
def xbyT (x y d:Int) (hb:Bool):Option (LV×Bool×List (Bool×Bool)):=
 bif (d==0) then
  bif (x==0&&(y==0&&true)) then some (LV.v (V1.one (At.int IntKind.i64 0)),(true),[])
  else
   bif (decide (x<0)) then some (LV.v (V1.one (At.int IntKind.i64 (-1152921504606846976))),(true),[])
   else some (LV.v (V1.one (At.int IntKind.i64 1152921504606846976)),(true),[])
 else some (LV.v (V1.one (At.int IntKind.i64 (endV (if isI (divV (wVal x y) d)=true then divV (wVal x y) d else 0) (isI (divV (wVal x y) d)) !decide (x<0)==decide (d<0)))),(hb||endH (if isI (divV (wVal x y) d)=true then divV (wVal x y) d else 0) (isI (divV (wVal x y) d))),[(isI x,true),(isU y,true),(isI d,true)])
def xbyF:List LV→Bool→Option (LV×Bool×List (Bool×Bool))
 | [.v (.agg [.int .i64 x,.int .u64 y]),.v (.one (.int .i64 d))],hb=>xbyT x y d hb
 | _,_=>none
theorem sumxby:SumOK Tryz.prog 41 (accSum 61 xbyF):=by
 refine accSum_run (z:=Zl) sound12 (own_of sound12 Tryz.func41 (by kernel_rfl)) fun args hb v h' cs hF hc=> ?_
 unfold xbyF at hF
 split at hF
 ·rename_i x y d
  unfold xbyT at hF
  rcases bool_cases (d==0) with h0 | h0
  ·rw [cond_t h0] at hF
   rcases bool_cases (x==0&&(y==0&&true)) with h1 | h1
   ·rw [cond_t h1] at hF
    cases hF
    exact ⟨rfl,2000,[some true,some true],_,xbyR1 x y d hb,ae_cons (h1) (ae_cons (h0) (ae_nil))⟩
   ·rw [cond_f h1] at hF
    rcases bool_cases (decide (x<0)) with h2 | h2
    ·rw [cond_t h2] at hF
     cases hF
     exact ⟨rfl,2000,[some true,some false,some true],_,xbyR2 x y d hb,ae_cons (h2) (ae_cons (h1) (ae_cons (h0) (ae_nil)))⟩
    ·rw [cond_f h2] at hF
     cases hF
     exact ⟨rfl,2000,[some true,some false,some false],_,xbyR3 x y d hb,ae_cons (h2) (ae_cons (h1) (ae_cons (h0) (ae_nil)))⟩
  ·rw [cond_f h0] at hF
   cases hF
   exact ⟨rfl,2000,[some false],_,xbyR4 x y d hb,ae_cons (h0) (ae_cons (hd_of (hc)) (ae_cons (hd_of (tl_of (hc))) (ae_cons (hd_of (tl_of (tl_of (hc)))) (ae_cons (h0) (ae_nil)))))⟩
 ·cases hF
theorem endV_of {v:Int} {neg:Bool} (h0:v < -9223372036854775808→neg=true) (h1:9223372036854775808≤v→neg=false):endV (if isI v=true then v else 0) (isI v) neg=satV v:=by
 unfold endV
 by_cases h:isI v=true
 ·rw [h];simp
 ·have h':isI v=false:=by simpa using h
  rw [h']
  have hv:¬(-9223372036854775808≤v∧v<9223372036854775808):=fun hh=>h (isI_iff.2 hh)
  by_cases hn:v<0
  ·rw [h0 (by omega),sat_lo (a:=v) (by omega)];rfl
  ·rw [h1 (by omega),sat_hi (a:=v) (by omega)];rfl
theorem endH_of (v:Int):endH (if isI v=true then v else 0) (isI v)=satH v:=by
 unfold endH
 by_cases h:isI v=true
 ·rw [h];simp
 ·have h':isI v=false:=by simpa using h
  rw [h']
  have hv:¬(-9223372036854775808≤v∧v<9223372036854775808):=fun hh=>h (isI_iff.2 hh)
  rw [satH_out (a:=v) (by omega)];rfl
theorem sgn_t {x:Int}:sgn true x = -x:=rfl
theorem sgn_f {x:Int}:sgn false x=x:=rfl
theorem rnd_nn (w:Int) (s:Nat):0≤(absV w+halfP s)/pow2 s:=Int.ediv_nonneg (by have:=absV_nn w;have:=(halfP_le s).1;omega) (by have:=pow2_pos s;omega)
theorem quo_nn {a b:Int} (ha:0≤a) (hb:0≤b):0≤quoR a b:=by
 have:=Int.ediv_nonneg ha hb
 unfold quoR;split <;> omega
theorem end_rnd (w:Int) (s:Nat) (n:Bool) (hn:n=decide (w<0)):endV (if isI (rndV w s)=true then rndV w s else 0) (isI (rndV w s)) n=satV (rndV w s):=by
 have h:=rnd_nn w s
 subst hn
 refine endV_of (fun h1=> ?_) (fun h1=> ?_) <;> unfold rndV at h1 <;> cases hw:decide (w<0) <;> rw [hw] at h1 <;> simp only [sgn_t,sgn_f] at h1 <;> first | rfl | (exfalso;omega)
theorem end_div (w d:Int) (n:Bool) (hn:n = !(decide (w<0)==decide (d<0))):endV (if isI (divV w d)=true then divV w d else 0) (isI (divV w d)) n=satV (divV w d):=by
 have h:=quo_nn (absV_nn w) (absV_nn d)
 subst hn
 refine endV_of (fun h1=> ?_) (fun h1=> ?_) <;> unfold divV at h1 <;> cases hw: !(decide (w<0)==decide (d<0)) <;> rw [hw] at h1 <;> simp only [sgn_t,sgn_f] at h1 <;> first | rfl | (exfalso;omega)
def rndS (w s:Int):Int:=if s<0 then 0 else if s>120 then 0 else satV (rndV w s.toNat)
def rndH (w s:Int):Bool:=decide (s<0)||(decide (s>120)||satH (rndV w s.toNat))
def froundS:List LV→Bool→Option (LV×Bool×List (Bool×Bool))
 | [.v (.agg [.int .i64 x,.int .u64 y]),.v (.one (.int .i64 s))],hb=>some (I (rndS (wVal x y) s),hb||rndH (wVal x y) s,[(isI x,true),(isU y,true)])
 | _,_=>none
theorem wVal_neg {x y:Int} (h0:0≤y) (h1:y<18446744073709551616):decide (x<0)=decide (wVal x y<0):=by
 unfold wVal;congr 1;apply propext;constructor <;> intro h <;> omega
theorem sumFround:SumOK Tryz.prog 109 (accSum 61 froundS):=by
 refine sumxround.acc_re fun args hb v h' cs hF hc=> ?_
 unfold froundS at hF
 split at hF
 ·rename_i x y s
  cases hF
  show ∃cs',xroundT x y s hb=_∧_
  simp only [all_tt,isI_iff,isU_iff] at hc
  obtain ⟨⟨hx0,hx1⟩,⟨hy0,hy1⟩,-⟩:=hc
  unfold xroundT rndS rndH
  by_cases h1:s<0
  ·rw [cond_t (decide_eq_true h1),if_pos h1,decide_eq_true h1]
   exact ⟨_,by simp [I],ae_nil⟩
  ·rw [cond_f (decide_eq_false h1),if_neg h1,decide_eq_false h1]
   by_cases h2:s>120
   ·rw [cond_t (decide_eq_true h2),if_pos h2,decide_eq_true h2]
    exact ⟨_,by simp [I],ae_nil⟩
   ·rw [cond_f (decide_eq_false h2),if_neg h2,decide_eq_false h2]
    rw [end_rnd _ _ _ (wVal_neg hy0 hy1),endH_of]
    refine ⟨[(isI x,true),(isU y,true),(decide (0≤s)&&decide (s≤126),true)],by simp only [I,Bool.false_or], ?_⟩
    simp only [all_tt,isI_iff,isU_iff,Bool.and_eq_true,decide_eq_true_eq]
    exact ⟨⟨hx0,hx1⟩,⟨hy0,hy1⟩,⟨by omega,by omega⟩,ae_nil⟩
 ·cases hF
def byV (w d:Int):Int:=if d=0 then (if w=0 then 0 else if w<0 then -1152921504606846976 else 1152921504606846976) else satV (divV w d)
def byH (w d:Int):Bool:=d==0||satH (divV w d)
def fbyS:List LV→Bool→Option (LV×Bool×List (Bool×Bool))
 | [.v (.agg [.int .i64 x,.int .u64 y]),.v (.one (.int .i64 d))],hb=>some (I (byV (wVal x y) d),hb||byH (wVal x y) d,[(isI x,true),(isU y,true),(isI d,true)])
 | _,_=>none
theorem sumFby:SumOK Tryz.prog 41 (accSum 61 fbyS):=by
 refine sumxby.acc_re fun args hb v h' cs hF hc=> ?_
 unfold fbyS at hF
 split at hF
 ·rename_i x y d
  cases hF
  show ∃cs',xbyT x y d hb=_∧_
  have hc':=hc
  simp only [all_tt,isI_iff,isU_iff] at hc
  obtain ⟨⟨hx0,hx1⟩,⟨hy0,hy1⟩,⟨hd0,hd1⟩,-⟩:=hc
  unfold xbyT byV byH
  by_cases h1:d=0
  ·rw [cond_t (by simpa using h1),if_pos h1]
   have hd:(d==0)=true:=by simpa using h1
   rw [hd]
   by_cases h2:wVal x y=0
   ·have hx:x=0:=by unfold wVal at h2;omega
    have hy:y=0:=by unfold wVal at h2;omega
    rw [cond_t (by simp [hx,hy]),if_pos h2]
    exact ⟨_,by simp [I],ae_nil⟩
   ·rw [cond_f (by by_cases hx:x=0 <;> by_cases hy:y=0 <;> simp [hx,hy];exact absurd (by rw [hx,hy];rfl) h2),if_neg h2]
    by_cases h3:x<0
    ·rw [cond_t (by simpa using h3),if_pos (by unfold wVal;omega)]
     exact ⟨_,by simp [I],ae_nil⟩
    ·rw [cond_f (by simpa using h3),if_neg (by unfold wVal;omega)]
     exact ⟨_,by simp [I],ae_nil⟩
  ·have hd:(d==0)=false:=by simpa using h1
   rw [cond_f hd,if_neg h1,hd]
   rw [end_div _ _ _ (by rw [wVal_neg hy0 hy1]),endH_of]
   exact ⟨[(isI x,true),(isU y,true),(isI d,true)],by simp only [I,Bool.false_or],hc'⟩
 ·cases hF
def S13:FuncId→Option SumK:=more (more S12 109 (accSum 61 froundS)) 41 (accSum 61 fbyS)
theorem sound13:Sound Tryz.prog S13:=(sound12.more sumFround).more sumFby
end Go.Proofs.YtnlhpaidmiogbaaGreat

/- fx: Mul, Div, MulDiv, by every path of their runs (printed), and what they come to. -/
namespace Go.Proofs.YtnlhpaidmiogbaaGreat
open Go.Lr
set_option linter.unusedVariables false
set_option linter.unusedSimpArgs false
theorem xmulR1 (a b s:Int) (hb:Bool):(runF Tryz.prog S13 Zl 2000 52 [A0,.v (.one (.int .i64 a)),.v (.one (.int .i64 b)),.v (.one (.int .i64 s))] [(0,flag 61 hb)] 1 []).map acc3=some (LV.v (V1.one (At.int IntKind.i64 (rndS (wVal (wHi (satV a*satV b)) (wLo (satV a*satV b))) s))),some { ty:=61,fr:=(0,0),es:=0,cells:=[At.bool (hb||satH a||satH b||rndH (wVal (wHi (satV a*satV b)) (wLo (satV a*satV b))) s)] },[(isI (wHi (satV a*satV b)),true),(isU (wLo (satV a*satV b)),true),(isI (satV a),true),(isI (satV b),true)]):=by kernel_rfl
def xmulT (a b s:Int) (hb:Bool):Option (LV×Bool×List (Bool×Bool)):=some (LV.v (V1.one (At.int IntKind.i64 (rndS (wVal (wHi (satV a*satV b)) (wLo (satV a*satV b))) s))),(hb||satH a||satH b||rndH (wVal (wHi (satV a*satV b)) (wLo (satV a*satV b))) s),[(isI (wHi (satV a*satV b)),true),(isU (wLo (satV a*satV b)),true),(isI (satV a),true),(isI (satV b),true)])
def xmulF:List LV→Bool→Option (LV×Bool×List (Bool×Bool))
 | [.v (.one (.int .i64 a)),.v (.one (.int .i64 b)),.v (.one (.int .i64 s))],hb=>xmulT a b s hb
 | _,_=>none
theorem sumxmul:SumOK Tryz.prog 52 (accSum 61 xmulF):=by
 refine accSum_run (z:=Zl) sound13 (own_of sound13 Tryz.func52 (by kernel_rfl)) fun args hb v h' cs hF hc=> ?_
 unfold xmulF at hF
 split at hF
 ·rename_i a b s
  unfold xmulT at hF
  cases hF
  exact ⟨rfl,2000,[],_,xmulR1 a b s hb,ae_cons (hd_of (hc)) (ae_cons (hd_of (tl_of (hc))) (ae_cons (hd_of (tl_of (tl_of (hc)))) (ae_cons (hd_of (tl_of (tl_of (tl_of (hc))))) (ae_nil))))⟩
 ·cases hF
theorem xdivR1 (a b s:Int) (hb:Bool):(runF Tryz.prog S13 Zl 2000 56 [A0,.v (.one (.int .i64 a)),.v (.one (.int .i64 b)),.v (.one (.int .i64 s))] [(0,flag 61 hb)] 1 [some true,some true,some true,none]).map acc3=some (LV.v (V1.one (At.int IntKind.i64 0)),some { ty:=61,fr:=(0,0),es:=0,cells:=[At.bool true] },[(decide (s<0),true),(decide (s<0),true),(decide (s<0),true)]):=by kernel_rfl
theorem xdivR2 (a b s:Int) (hb:Bool):(runF Tryz.prog S13 Zl 2000 56 [A0,.v (.one (.int .i64 a)),.v (.one (.int .i64 b)),.v (.one (.int .i64 s))] [(0,flag 61 hb)] 1 [some false,some false,some false,some true]).map acc3=some (LV.v (V1.one (At.int IntKind.i64 0)),some { ty:=61,fr:=(0,0),es:=0,cells:=[At.bool true] },[(decide (s>66),true),(decide (s<0),false),(decide (s<0),false),(decide (s<0),false)]):=by kernel_rfl
theorem xdivR3 (a b s:Int) (hb:Bool):(runF Tryz.prog S13 Zl 2000 56 [A0,.v (.one (.int .i64 a)),.v (.one (.int .i64 b)),.v (.one (.int .i64 s))] [(0,flag 61 hb)] 1 [some false,some false,some false,some false]).map acc3=some (LV.v (V1.one (At.int IntKind.i64 (byV (wVal (wHi (satV a*pow2 s.toNat)) (wLo (satV a*pow2 s.toNat))) (satV b)))),some { ty:=61,fr:=(0,0),es:=0,cells:=[At.bool (hb||satH a||satH b||byH (wVal (wHi (satV a*pow2 s.toNat)) (wLo (satV a*pow2 s.toNat))) (satV b))] },[(isI (wHi (satV a*pow2 s.toNat)),true),(isU (wLo (satV a*pow2 s.toNat)),true),(isI (satV b),true),(isI (satV a),true),(decide (0≤s)&&decide (s≤127),true),(decide (absV (satV a)*pow2 s.toNat<170141183460469231731687303715884105728),true),(decide (s>66),false),(decide (s<0),false),(decide (s<0),false),(decide (s<0),false)]):=by kernel_rfl
def xdivT (a b s:Int) (hb:Bool):Option (LV×Bool×List (Bool×Bool)):=
 bif (decide (s<0)) then some (LV.v (V1.one (At.int IntKind.i64 0)),(true),[])
 else
  bif (decide (s>66)) then some (LV.v (V1.one (At.int IntKind.i64 0)),(true),[])
  else some (LV.v (V1.one (At.int IntKind.i64 (byV (wVal (wHi (satV a*pow2 s.toNat)) (wLo (satV a*pow2 s.toNat))) (satV b)))),(hb||satH a||satH b||byH (wVal (wHi (satV a*pow2 s.toNat)) (wLo (satV a*pow2 s.toNat))) (satV b)),[(isI (wHi (satV a*pow2 s.toNat)),true),(isU (wLo (satV a*pow2 s.toNat)),true),(isI (satV b),true),(isI (satV a),true),(decide (0≤s)&&decide (s≤127),true),(decide (absV (satV a)*pow2 s.toNat<170141183460469231731687303715884105728),true)])
def xdivF:List LV→Bool→Option (LV×Bool×List (Bool×Bool))
 | [.v (.one (.int .i64 a)),.v (.one (.int .i64 b)),.v (.one (.int .i64 s))],hb=>xdivT a b s hb
 | _,_=>none
theorem sumxdiv:SumOK Tryz.prog 56 (accSum 61 xdivF):=by
 refine accSum_run (z:=Zl) sound13 (own_of sound13 Tryz.func56 (by kernel_rfl)) fun args hb v h' cs hF hc=> ?_
 unfold xdivF at hF
 split at hF
 ·rename_i a b s
  unfold xdivT at hF
  rcases bool_cases (decide (s<0)) with h0 | h0
  ·rw [cond_t h0] at hF
   cases hF
   exact ⟨rfl,2000,[some true,some true,some true,none],_,xdivR1 a b s hb,ae_cons (h0) (ae_cons (h0) (ae_cons (h0) (ae_nil)))⟩
  ·rw [cond_f h0] at hF
   rcases bool_cases (decide (s>66)) with h1 | h1
   ·rw [cond_t h1] at hF
    cases hF
    exact ⟨rfl,2000,[some false,some false,some false,some true],_,xdivR2 a b s hb,ae_cons (h1) (ae_cons (h0) (ae_cons (h0) (ae_cons (h0) (ae_nil))))⟩
   ·rw [cond_f h1] at hF
    cases hF
    exact ⟨rfl,2000,[some false,some false,some false,some false],_,xdivR3 a b s hb,ae_cons (hd_of (hc)) (ae_cons (hd_of (tl_of (hc))) (ae_cons (hd_of (tl_of (tl_of (hc)))) (ae_cons (hd_of (tl_of (tl_of (tl_of (hc))))) (ae_cons (hd_of (tl_of (tl_of (tl_of (tl_of (hc)))))) (ae_cons (hd_of (tl_of (tl_of (tl_of (tl_of (tl_of (hc))))))) (ae_cons (h1) (ae_cons (h0) (ae_cons (h0) (ae_cons (h0) (ae_nil))))))))))⟩
 ·cases hF
theorem xmuldivR1 (a b d:Int) (hb:Bool):(runF Tryz.prog S13 Zl 2000 18 [A0,.v (.one (.int .i64 a)),.v (.one (.int .i64 b)),.v (.one (.int .i64 d))] [(0,flag 61 hb)] 1 []).map acc3=some (LV.v (V1.one (At.int IntKind.i64 (byV (wVal (wHi (satV a*satV b)) (wLo (satV a*satV b))) (satV d)))),some { ty:=61,fr:=(0,0),es:=0,cells:=[At.bool (hb||satH a||satH b||satH d||byH (wVal (wHi (satV a*satV b)) (wLo (satV a*satV b))) (satV d))] },[(isI (wHi (satV a*satV b)),true),(isU (wLo (satV a*satV b)),true),(isI (satV d),true),(isI (satV a),true),(isI (satV b),true)]):=by kernel_rfl
def xmuldivT (a b d:Int) (hb:Bool):Option (LV×Bool×List (Bool×Bool)):=some (LV.v (V1.one (At.int IntKind.i64 (byV (wVal (wHi (satV a*satV b)) (wLo (satV a*satV b))) (satV d)))),(hb||satH a||satH b||satH d||byH (wVal (wHi (satV a*satV b)) (wLo (satV a*satV b))) (satV d)),[(isI (wHi (satV a*satV b)),true),(isU (wLo (satV a*satV b)),true),(isI (satV d),true),(isI (satV a),true),(isI (satV b),true)])
def xmuldivF:List LV→Bool→Option (LV×Bool×List (Bool×Bool))
 | [.v (.one (.int .i64 a)),.v (.one (.int .i64 b)),.v (.one (.int .i64 d))],hb=>xmuldivT a b d hb
 | _,_=>none
theorem sumxmuldiv:SumOK Tryz.prog 18 (accSum 61 xmuldivF):=by
 refine accSum_run (z:=Zl) sound13 (own_of sound13 Tryz.func18 (by kernel_rfl)) fun args hb v h' cs hF hc=> ?_
 unfold xmuldivF at hF
 split at hF
 ·rename_i a b d
  unfold xmuldivT at hF
  cases hF
  exact ⟨rfl,2000,[],_,xmuldivR1 a b d hb,ae_cons (hd_of (hc)) (ae_cons (hd_of (tl_of (hc))) (ae_cons (hd_of (tl_of (tl_of (hc)))) (ae_cons (hd_of (tl_of (tl_of (tl_of (hc))))) (ae_cons (hd_of (tl_of (tl_of (tl_of (tl_of (hc)))))) (ae_nil)))))⟩
 ·cases hF
theorem absV_sat (a:Int):absV (satV a)≤1152921504606846976:=by have:=sat_bd a;unfold absV;split <;> omega
theorem satsat (a b:Int): -1329227995784915872903807060280344576≤satV a*satV b∧satV a*satV b≤1329227995784915872903807060280344576:=prod_lt (absV_sat a) (absV_sat b)
theorem isI_sat (a:Int):isI (satV a)=true:=by have:=sat_bd a;exact isI_iff.2 ⟨by omega,by omega⟩
theorem isI_hi {v:Int} (h0: -170141183460469231731687303715884105728≤v) (h1:v<170141183460469231731687303715884105728):isI (wHi v)=true:=isI_iff.2 (wHi_inI v h0 h1)
theorem isI_hi_ss (a b:Int):isI (wHi (satV a*satV b))=true:=by have:=satsat a b;exact isI_hi (by omega) (by omega)
def mulV (a b s:Int):Int:=rndS (satV a*satV b) s
def mulH (a b s:Int):Bool:=satH a||(satH b||rndH (satV a*satV b) s)
def fmulS:List LV→Bool→Option (LV×Bool×List (Bool×Bool))
 | [.v (.one (.int .i64 a)),.v (.one (.int .i64 b)),.v (.one (.int .i64 s))],hb=>some (I (mulV a b s),hb||mulH a b s,[])
 | _,_=>none
theorem sumFmul:SumOK Tryz.prog 52 (accSum 61 fmulS):=by
 refine sumxmul.acc_re fun args hb v h' cs hF _=> ?_
 unfold fmulS at hF
 split at hF
 ·rename_i a b s
  cases hF
  show ∃cs',xmulT a b s hb=_∧_
  unfold xmulT
  rw [wVal_mk]
  refine ⟨[(isI (wHi (satV a*satV b)),true),(isU (wLo (satV a*satV b)),true),(isI (satV a),true),(isI (satV b),true)],by simp only [I,mulV,mulH,Bool.or_assoc], ?_⟩
  simp only [isI_hi_ss,isU_lo,isI_sat]
  simp
 ·cases hF
def divPV (a b s:Int):Int:=if s<0 then 0 else if s>66 then 0 else byV (satV a*pow2 s.toNat) (satV b)
def divPH (a b s:Int):Bool:=satH a||(satH b||(decide (s<0)||(decide (s>66)||byH (satV a*pow2 s.toNat) (satV b))))
def fdivS:List LV→Bool→Option (LV×Bool×List (Bool×Bool))
 | [.v (.one (.int .i64 a)),.v (.one (.int .i64 b)),.v (.one (.int .i64 s))],hb=>some (I (divPV a b s),hb||divPH a b s,[])
 | _,_=>none
theorem sumFdiv:SumOK Tryz.prog 56 (accSum 61 fdivS):=by
 refine sumxdiv.acc_re fun args hb v h' cs hF _=> ?_
 unfold fdivS at hF
 split at hF
 ·rename_i a b s
  cases hF
  show ∃cs',xdivT a b s hb=_∧_
  unfold xdivT divPV divPH
  by_cases h1:s<0
  ·rw [cond_t (decide_eq_true h1),if_pos h1,decide_eq_true h1]
   exact ⟨[],by simp [I],ae_nil⟩
  ·rw [cond_f (decide_eq_false h1),if_neg h1,decide_eq_false h1]
   by_cases h2:s>66
   ·rw [cond_t (decide_eq_true h2),if_pos h2,decide_eq_true h2]
    exact ⟨[],by simp [I],ae_nil⟩
   ·rw [cond_f (decide_eq_false h2),if_neg h2,decide_eq_false h2]
    have hp:=pow2_pos s.toNat
    have hp1:pow2 s.toNat≤73786976294838206464:=pow2_le (n:=66) _ (by omega) (by decide)
    have ha:=absV_sat a
    have h0:=absV_nn (satV a)
    have hq:absV (pow2 s.toNat)≤73786976294838206464:=by rw [absV_pos (by omega)];exact hp1
    have hm:=prod_lt ha hq
    have hn:absV (satV a)*pow2 s.toNat≤1152921504606846976*73786976294838206464:=Int.mul_le_mul ha hp1 (by omega) (by omega)
    rw [wVal_mk]
    refine ⟨[(isI (wHi (satV a*pow2 s.toNat)),true),(isU (wLo (satV a*pow2 s.toNat)),true),(isI (satV b),true),(isI (satV a),true),(decide (0≤s)&&decide (s≤127),true),(decide (absV (satV a)*pow2 s.toNat<170141183460469231731687303715884105728),true)],by simp only [I,Bool.or_assoc,Bool.false_or], ?_⟩
    simp only [isU_lo,isI_sat,isI_hi (v:=satV a*pow2 s.toNat) (by omega) (by omega),all_tt,Bool.and_eq_true,decide_eq_true_eq]
    exact ⟨trivial,trivial,trivial,trivial,⟨by omega,by omega⟩,by omega,ae_nil⟩
 ·cases hF
def mulDivV (a b d:Int):Int:=byV (satV a*satV b) (satV d)
def mulDivH (a b d:Int):Bool:=satH a||(satH b||(satH d||byH (satV a*satV b) (satV d)))
def fmdS:List LV→Bool→Option (LV×Bool×List (Bool×Bool))
 | [.v (.one (.int .i64 a)),.v (.one (.int .i64 b)),.v (.one (.int .i64 d))],hb=>some (I (mulDivV a b d),hb||mulDivH a b d,[])
 | _,_=>none
theorem sumFmd:SumOK Tryz.prog 18 (accSum 61 fmdS):=by
 refine sumxmuldiv.acc_re fun args hb v h' cs hF _=> ?_
 unfold fmdS at hF
 split at hF
 ·rename_i a b d
  cases hF
  show ∃cs',xmuldivT a b d hb=_∧_
  unfold xmuldivT
  rw [wVal_mk]
  refine ⟨[(isI (wHi (satV a*satV b)),true),(isU (wLo (satV a*satV b)),true),(isI (satV d),true),(isI (satV a),true),(isI (satV b),true)],by simp only [I,mulDivV,mulDivH,Bool.or_assoc], ?_⟩
  simp only [isI_hi_ss,isU_lo,isI_sat]
  simp
 ·cases hF
def S14:FuncId→Option SumK:=more (more (more S13 52 (accSum 61 fmulS)) 56 (accSum 61 fdivS)) 18 (accSum 61 fmdS)
theorem sound14:Sound Tryz.prog S14:=((sound13.more sumFmul).more sumFdiv).more sumFmd
end Go.Proofs.YtnlhpaidmiogbaaGreat

/- wide.Add of two numbers. -/
namespace Go.Proofs.YtnlhpaidmiogbaaGreat
open Go.Lr
set_option linter.unusedVariables false
theorem wadd3 (ty:TypeId) (fr:Nat×Nat) (es:Nat) (x y u v:Int):(runF Tryz.prog S14 Zl 2000 133 [.v (.one (.sl 0 0 2 2))] [(0,⟨ty,fr,es,[.int .i64 x,.int .u64 y,.int .i64 u,.int .u64 v]⟩)] 1 [none,some false,none,some false,none]).map acc3=some (LV.tup [V1.agg [At.int IntKind.i64 (w64 (wHi (wVal (w64 (wHi (wVal 0 0+wVal x y))) (wLo (wVal 0 0+wVal x y))+wVal u v))),At.int IntKind.u64 (wLo (wVal (w64 (wHi (wVal 0 0+wVal x y))) (wLo (wVal 0 0+wVal x y))+wVal u v))],V1.one (At.bool true)],some { ty:=ty,fr:=fr,es:=es,cells:=[At.int IntKind.i64 x,At.int IntKind.u64 y,At.int IntKind.i64 u,At.int IntKind.u64 v] },[(!isW (wVal (w64 (wHi (wVal 0 0+wVal x y))) (wLo (wVal 0 0+wVal x y))+wVal u v),false),(isI (w64 (wHi (wVal 0 0+wVal x y))),true),(isU (wLo (wVal 0 0+wVal x y)),true),(isI u,true),(isU v,true),(!isW (wVal 0 0+wVal x y),false),(isI 0,true),(isU 0,true),(isI x,true),(isU y,true)]):=by kernel_rfl
def addSum:Sum:=fun args=>
 match args with
 | [.v (.one (.sl b 0 2 2))]=>some ⟨[b],[],fun rdB _ _=>match rdB with
  | [⟨_,_,_,[.int .i64 x,.int .u64 y,.int .i64 u,.int .u64 v]⟩]=>
   some ⟨.tup [W1 (wVal x y+wVal u v),.one (.bool true)],[],[],[(isI x,true),(isU y,true),(isI u,true),(isU v,true),(isW (wVal x y+wVal u v),true)]⟩
  | _=>none⟩
 | _=>none
theorem w64_wHi {v:Int} (h:isW v=true):w64 (wHi v)=wHi v:=by
 have:=isW_iff.1 h;exact w64_hi this.1 this.2
theorem sumWadd:SumOK Tryz.prog 133 addSum:=by
 intro args t g nb p rdB wrB ans ws E w hs hr hw hnd hgo hz hc hrel hg hargs hn
 unfold addSum at hs
 split at hs
 ·rename_i b
  cases hs
  simp only at hgo hw hr
  split at hgo
  ·rename_i ty fr es x y u v
   cases hgo
   simp only [all_tt,isI_iff,isU_iff] at hc
   obtain ⟨⟨hx0,hx1⟩,⟨hy0,hy1⟩,⟨hu0,hu1⟩,⟨hv0,hv1⟩,hW,-⟩:=hc
   obtain ⟨k,r',hk,hr',hrr⟩:=liveAll_cons hr
   cases liveAll_nil hr'
   cases hrr
   cases liveAll_nil hw
   simp only [zipW] at hz
   cases hz
   have e0:wVal 0 0+wVal x y=wVal x y:=by unfold wVal;omega
   have hW1:isW (wVal x y)=true:=by rw [isW_iff];unfold wVal;omega
   have hrun:=wadd3 ty fr es x y u v
   rw [e0,w64_wHi hW1,wVal_mk,w64_wHi hW,hW,hW1] at hrun
   cases hq:runF Tryz.prog S14 Zl 2000 133 [.v (.one (.sl 0 0 2 2))] [(0,⟨ty,fr,es,[.int .i64 x,.int .u64 y,.int .i64 u,.int .u64 v]⟩)] 1 [none,some false,none,some false,none] with
   | none=>rw [hq] at hrun;cases hrun
   | some q=>
    obtain ⟨v',m2,nb',cs'⟩:=q
    rw [hq] at hrun
    simp only [Option.map_some,acc3,Option.some.injEq,Prod.mk.injEq] at hrun
    obtain ⟨rfl,hm2,rfl⟩:=hrun
    generalize hE1:(fun _:Nat=>E b)=E1
    have hE:∀i,E1 i=E b:=fun i=>by rw [←hE1]
    have hcl:=lcl_of_run sound14 hq (m':=[(0,⟨ty,fr,es,[.int .i64 x,.int .u64 y,.int .i64 u,.int .u64 v]⟩)]) (fun i c hic=>by
      obtain ⟨rfl,rfl⟩:=get1 hic
      exact ⟨hm2,Nat.zero_lt_one,rfl⟩) (by
      simp only [all_tt,all_ff,isI_iff,isU_iff]
      have h1:=wHi_inI (wVal x y) (isW_iff.1 hW1).1 (isW_iff.1 hW1).2
      have h2:=wLo_in (wVal x y)
      exact ⟨rfl,⟨h1.1,h1.2⟩,⟨h2.1,h2.2⟩,⟨hu0,hu1⟩,⟨hv0,hv1⟩,rfl,⟨by omega,by omega⟩,⟨by omega,by omega⟩,⟨hx0,hx1⟩,⟨hy0,hy1⟩,ae_nil⟩) rfl (fun a ha=>by
      rw [List.mem_singleton] at ha;subst ha;rfl) rfl E1 w (rel1 hrel hk rfl (hE 0))
    obtain ⟨fn,f1,f2,f3⟩:=own_of sound14 Tryz.func133 (by kernel_rfl)
    have ha:([.v (.one (.sl b 0 2 2))]:List LV).map (LV.den E)=([.v (.one (.sl 0 0 2 2))]:List LV).map (LV.den E1):=by
     simp only [List.map_cons,List.map_nil,LV.den,V1.den,At.den,hE]
    rw [ha]
    refine .inl ⟨fn,f1,f2,f3,hcl.mono ?_⟩
    rintro e w' ⟨rfl,hl⟩
    refine ⟨_,rfl,E,(den_noP rfl).symm, ?_⟩
    refine ⟨fun _ _=>rfl,⟨fun i c hic=> ?_,hrel.inj⟩,hl.os,hl.tape,hl.output,hl.size,fun j hj hne=>hl.frame j hj fun i hi=> ?_,fun i h1 h2=>by simp at h2;omega⟩
    ·simp only [nwG,wrG] at hic
     by_cases hib:i=b
     ·subst hib
      rw [hk] at hic
      cases hic
      exact blkAt_ren (E:=E1) (i:=0) rfl (hE 0).symm (hl.blk 0 _ rfl)
     ·obtain ⟨r,g1,g2,g3⟩:=hrel.blk i c hic
      refine ⟨r, ?_,g2,g3⟩
      rw [hl.frame _ (Array.getElem?_eq_some_iff.1 g1).1 fun j hj e=>hib (hrel.inj i b (by simp [hic]) (by simp [hk]) (by rw [hE] at e;exact e.symm))]
      exact g1
    ·rw [hE]
     exact hne b (by simp [hk])
  ·cases hgo
 ·cases hs
def S15:FuncId→Option SumK:=more S14 133 addSum
theorem sound15:Sound Tryz.prog S15:=sound14.more sumWadd
end Go.Proofs.YtnlhpaidmiogbaaGreat
