/- Joined texts. What each part proves stands ahead of it; no condition. -/
import Derived.Test.YtnlhpaidmiogbaaGreatLrM2
import Derived.Test.YtnlhpaidmiogbaaGreatProg
import Derived.Test.YtnlhpaidmiogbaaGreatLrLenBits

/- The scalars' operations in numbers: clamping, rounding, dividing, roots. Plain. -/
namespace Go.Lr
set_option linter.unusedVariables false
def jh (a:Int):Int:=if a<0 then -a else a
def sgn (neg:Bool) (x:Int):Int:=if neg then -x else x
theorem qC (a:Int):0≤jh a:=by unfold jh;split <;> omega
theorem yG {a:Int} (h:0≤a):jh a=a:=by unfold jh;rw [if_neg (by omega)]
theorem jh2 {a:Int} (h:a≤0):jh a = -a:=by unfold jh;split <;> omega
theorem jli (a:Int):jh a=a.natAbs:=by unfold jh;split <;> omega
theorem YH (a b:Int):jh (a*b)=jh a*jh b:=by
 simp only [jli,Int.natAbs_mul];exact Int.natCast_mul _ _
theorem jbe (a:Int):jh (-a)=jh a:=by unfold jh;split <;> split <;> omega
theorem jfm (a:Int):sgn (decide (a<0)) (jh a)=a:=by
 unfold sgn jh;by_cases h:a<0 <;> simp [h]
theorem jfn (a b:Int):sgn (!(decide (a<0)==decide (b<0))) (jh a*jh b)=a*b:=by
 have hnn: -a * -b=a*b:=by grind
 have hn1: -(-a*b)=a*b:=by grind
 have hn2: -(a * -b)=a*b:=by grind
 unfold sgn jh
 by_cases h:a<0 <;> by_cases k:b<0 <;> simp only [h,k,decide_true,decide_false,if_true,if_false] <;> simp [hnn,hn1,hn2]
def yW (s:Nat):Int:=match s with
 | 0=>0
 | n+1=>jj n
def kB (v:Int) (s:Nat):Int:=sgn (decide (v<0)) ((jh v+yW s)/jj s)
def jcA (a b:Int):Int:=if a%b≥b - a%b then a/b+1 else a/b
def xU (w d:Int):Int:=sgn (!(decide (w<0)==decide (d<0))) (jcA (jh w) (jh d))
theorem yH {a b k l:Int} (ha:jh a≤k) (hb:jh b≤l): -(k*l)≤a*b∧a*b≤k*l:=by
 have h0:=qC a
 have h1:=qC b
 have h2:jh a*jh b≤k*l:=Int.mul_le_mul ha hb h1 (by omega)
 rw [←YH] at h2
 have h3:=jfm (a*b)
 unfold jh at h2
 split at h2 <;> omega
def rtL:Nat→Int→Int→Int×Int
 | 0,p,r=>(p,r)
 | k+1,p,r=>match decide (p<r+jj (2*k)) with
  | true=>rtL k p (r/2)
  | false=>rtL k (p - (r+jj (2*k))) (r/2+jj (2*k))
def kp (v:Int):Int:=match rtL 64 v 0 with
 | (p,r)=>if r<p then r+1 else r
def RtInv (N:Int) (m:Nat) (p r:Int):Prop:=
 ∃Q:Int,0≤Q∧r=Q*jj m∧p=N - Q*Q∧Q*Q≤N∧N<(Q+jj m)*(Q+jj m)∧(Q=0∨jj m≤Q)
theorem jcB (m:Nat):jj (2*m)=jj m*jj m:=by rw [Nat.two_mul,xd]
theorem RtInv.half {N:Int} {m:Nat} {p r:Int} (h:RtInv N (m+1) p r) (hlt:p<r+jj (2*m)):RtInv N m p (r/2):=by
 obtain ⟨Q,h0,rfl,rfl,h3,h4,h5⟩:=h
 have hp:=kg m
 have hs:=zk m
 rw [jcB] at hlt
 rw [hs] at hlt h4 h5 ⊢
 have e:Q*(2*jj m)=2*(Q*jj m):=by grind
 refine ⟨Q,h0,by rw [e];omega,rfl,h3, ?_,by omega⟩
 have e2:(Q+jj m)*(Q+jj m)=Q*Q+2*(Q*jj m)+jj m*jj m:=by grind
 rw [e2];omega
theorem RtInv.take {N:Int} {m:Nat} {p r:Int} (h:RtInv N (m+1) p r) (hge:¬p<r+jj (2*m)):RtInv N m (p - (r+jj (2*m))) (r/2+jj (2*m)):=by
 obtain ⟨Q,h0,rfl,rfl,h3,h4,h5⟩:=h
 have hp:=kg m
 have hs:=zk m
 rw [jcB] at hge ⊢
 rw [hs] at hge h4 h5 ⊢
 have e:Q*(2*jj m)=2*(Q*jj m):=by grind
 have e2:(Q+jj m)*(Q+jj m)=Q*Q+2*(Q*jj m)+jj m*jj m:=by grind
 have e3:(Q+jj m)*jj m=Q*jj m+jj m*jj m:=by grind
 have e4:(Q+jj m+jj m)*(Q+jj m+jj m)=(Q+2*jj m)*(Q+2*jj m):=by grind
 rw [e] at hge ⊢
 refine ⟨Q+jj m,by omega,by rw [e3];omega,by rw [e2];omega,by rw [e2];omega,by rw [e4];exact h4,by omega⟩
theorem RtInv.bd {N:Int} {m:Nat} {p r:Int} (h:RtInv N m p r):0≤p∧p≤N∧0≤r∧r≤N:=by
 obtain ⟨Q,h0,rfl,rfl,h3,h4,h5⟩:=h
 have hp:=kg m
 have hq:0≤Q*Q:=Int.mul_nonneg h0 h0
 refine ⟨by omega,by omega,Int.mul_nonneg h0 (by omega), ?_⟩
 rcases h5 with rfl | h5
 ·omega
 ·have:Q*jj m≤Q*Q:=Int.mul_le_mul_of_nonneg_left h5 h0
  omega
theorem RtInv.start {N:Int} (h0:0≤N) (h1:N<340282366920938463463374607431768211456):RtInv N 64 N 0:=by
 refine ⟨0,by omega,by omega,by omega,by omega, ?_,.inl rfl⟩
 have:jj 64=18446744073709551616:=Jr
 rw [this];omega
theorem RtInv.run {N:Int}:∀{m:Nat} {p r:Int},RtInv N m p r→RtInv N 0 (rtL m p r).1 (rtL m p r).2
 | 0,p,r,h=>h
 | m+1,p,r,h=>by
  simp only [rtL]
  by_cases hlt:p<r+jj (2*m)
  ·rw [decide_eq_true hlt];exact (h.half hlt).run
  ·rw [decide_eq_false hlt];exact (h.take hlt).run
theorem Kk {N:Int} (h0:0≤N) (h1:N<340282366920938463463374607431768211456):
  0≤kp N∧N≤kp N*kp N+kp N∧(kp N=0∨kp N*kp N - kp N+1≤N):=by
 have h:=(RtInv.start h0 h1).run
 unfold kp
 generalize rtL 64 N 0=q at h ⊢
 obtain ⟨p,r⟩:=q
 obtain ⟨Q,a0,a1,a2,a3,a4,-⟩:=h
 simp only at a1 a2 ⊢
 have e1:jj 0=1:=rfl
 rw [e1,Int.mul_one] at a1
 rw [e1] at a4
 have a1':Q=r:=a1.symm
 subst a1'
 subst a2
 have e2:(Q+1)*(Q+1)=Q*Q+2*Q+1:=by grind
 have hq:0≤Q*Q:=Int.mul_nonneg a0 a0
 split
 ·refine ⟨by omega,by rw [e2];omega,.inr (by rw [e2];omega)⟩
 ·refine ⟨a0,by omega, ?_⟩
  by_cases h':Q=0
  ·exact .inl h'
  ·right;omega
end Go.Lr

/- This seat's program: what the evaluator leans on; math/bits' two that the model answers. -/
namespace Go.Proofs.YtnlhpaidmiogbaaGreat
open Go.Lr
theorem jwl:(Tryz.prog.funcs.toList.all fun fn=>fn.name != "runtime.NumGoroutine")=true:=by kernel_rfl
theorem ng:∀(f:FuncId) (fn:Func),Tryz.prog.funcs[f]? = some fn→fn.name≠ "runtime.NumGoroutine":=by
 intro f fn h
 have:=List.all_eq_true.1 jwl fn (by
  have h':Tryz.prog.funcs.toList[f]? = some fn:=by simpa using h
  exact List.mem_of_getElem? h')
 simpa using this
theorem mix:Tryz.prog.follows .mixedOrders=true:=by kernel_rfl
theorem jhf:SumOK Tryz.prog 140 (jp jvz):=jia Tryz.func140 (by kernel_rfl) (by kernel_rfl) (by kernel_rfl) (by kernel_rfl)
theorem jhg:SumOK Tryz.prog 248 (jp jvA):=jib Tryz.func248 (by kernel_rfl) (by kernel_rfl) (by kernel_rfl) (by kernel_rfl)
def S0:FuncId→Option SumK:=more (more (fun _=>none) 140 (jp jvz)) 248 (jp jvA)
theorem sound0:Sound Tryz.prog S0:=((Sound.none mix ng).more jhf).more jhg
def Zl:Md:=⟨false,true,false⟩
def Za:Md:=⟨false,true,true⟩
def I (n:Int):LV:= .v (.one (.int .i64 n))
def B (b:Bool):LV:= .v (.one (.bool b))
end Go.Proofs.YtnlhpaidmiogbaaGreat

/- fx: Clamp, Sat; astrolabelaw2's awake. -/
namespace Go.Proofs.YtnlhpaidmiogbaaGreat
open Go.Lr
def jw (a lo hi:Int):Int:=if lo>hi then lo else if a<lo then lo else if a>hi then hi else a
def jF (a lo hi:Int):Bool:=decide (lo>hi)||decide (a<lo)||decide (a>hi)
def jce:List LV→Bool→Option (LV×Bool×List (Bool×Bool))
 | [.v (.one (.int .i64 a)),.v (.one (.int .i64 lo)),.v (.one (.int .i64 hi))],h=>some (I (jw a lo hi),h||jF a lo hi,[])
 | _,_=>none
abbrev qn (r:LV×Mem×Nat×List (Bool×Bool)):=(r.1,getM r.2.1 0,r.2.2.2)
theorem joF (a lo hi:Int) (h:Bool):(jR Tryz.prog S0 Zl 200 92 [A0,I a,I lo,I hi] [(0,flag 61 h)] 1 [some true]).map qn=some (I lo,some (flag 61 true),[(decide (lo>hi),true)]):=by kernel_rfl
theorem joG (a lo hi:Int) (h:Bool):(jR Tryz.prog S0 Zl 200 92 [A0,I a,I lo,I hi] [(0,flag 61 h)] 1 [some false,some true]).map qn=some (I lo,some (flag 61 true),[(decide (a<lo),true),(decide (lo>hi),false)]):=by kernel_rfl
theorem joH (a lo hi:Int) (h:Bool):(jR Tryz.prog S0 Zl 200 92 [A0,I a,I lo,I hi] [(0,flag 61 h)] 1 [some false,some false,some true]).map qn=some (I hi,some (flag 61 true),[(decide (a>hi),true),(decide (a<lo),false),(decide (lo>hi),false)]):=by kernel_rfl
theorem joI (a lo hi:Int) (h:Bool):(jR Tryz.prog S0 Zl 200 92 [A0,I a,I lo,I hi] [(0,flag 61 h)] 1 [some false,some false,some false]).map qn=some (I a,some (flag 61 h),[(decide (a>hi),false),(decide (a<lo),false),(decide (lo>hi),false)]):=by kernel_rfl
theorem jcf:SumOK Tryz.prog 92 (jv 61 jce):=by
 refine jT (z:=Zl) sound0 (jg sound0 Tryz.func92 (by kernel_rfl)) fun args hb v h' cs hF _=> ?_
 unfold jce at hF
 split at hF
 ·rename_i a lo hi
  cases hF
  refine ⟨rfl, ?_⟩
  by_cases h1:lo>hi
  ·rw [show jw a lo hi=lo by simp [jw,h1],show (hb||jF a lo hi)=true by simp [jF,h1]]
   exact ⟨200,[some true],_,joF a lo hi hb,by simp [h1]⟩
  ·by_cases h2:a<lo
   ·rw [show jw a lo hi=lo by simp [jw,h2],show (hb||jF a lo hi)=true by simp [jF,h2]]
    exact ⟨200,[some false,some true],_,joG a lo hi hb,by simp [h2];omega⟩
   ·by_cases h3:a>hi
    ·rw [show jw a lo hi=hi by simp [jw,h1,h2,h3],show (hb||jF a lo hi)=true by simp [jF,h3]]
     exact ⟨200,[some false,some false,some true],_,joH a lo hi hb,by simp [h3];omega⟩
    ·rw [show jw a lo hi=a by simp [jw,h1,h2,h3],show (hb||jF a lo hi)=hb by simp [jF,h1,h2,h3]]
     exact ⟨200,[some false,some false,some false],_,joI a lo hi hb,by simp;omega⟩
 ·cases hF
def S2:FuncId→Option SumK:=more S0 92 (jv 61 jce)
theorem jjq:Sound Tryz.prog S2:=sound0.more jcf
def jc (a:Int):Int:=jw a (-1152921504606846976) 1152921504606846976
def jV (a:Int):Bool:=jF a (-1152921504606846976) 1152921504606846976
def jxn:List LV→Bool→Option (LV×Bool×List (Bool×Bool))
 | [.v (.one (.int .i64 a))],h=>some (I (jc a),h||jV a,[])
 | _,_=>none
theorem jDC (a:Int) (h:Bool):(jR Tryz.prog S2 Zl 200 43 [A0,I a] [(0,flag 61 h)] 1 []).map qn=some (I (jc a),some (flag 61 (h||jV a)),[]):=by kernel_rfl
theorem joJ:SumOK Tryz.prog 43 (jv 61 jxn):=by
 refine jT (z:=Zl) jjq (jg jjq Tryz.func43 (by kernel_rfl)) fun args hb v h' cs hF _=> ?_
 unfold jxn at hF
 split at hF
 ·rename_i a
  cases hF
  exact ⟨rfl,200,[],_,jDC a hb,by simp⟩
 ·cases hF
end Go.Proofs.YtnlhpaidmiogbaaGreat

/- math/bits.Mul64, wide.Of, wide.Mul, by their runs. -/
namespace Go.Proofs.YtnlhpaidmiogbaaGreat
open Go.Lr
theorem jiH (x y:Int):(jR Tryz.prog S0 Zl 200 89 [.v (.one (.int .u64 x)),.v (.one (.int .u64 y))] [] 0 []).map (fun r=>(r.1,r.2.2.2))=some (LV.tup [V1.one (At.int IntKind.u64 (wr IntKind.u64 (wr IntKind.u64 (wr IntKind.u64 (x/jj (min (Int.toNat 32) IntKind.u64.bits)*(y/jj (min (Int.toNat 32) IntKind.u64.bits)))+wr IntKind.u64 (wr IntKind.u64 (x/jj (min (Int.toNat 32) IntKind.u64.bits)*Int.ofNat ((u64 y).toNat.land (u64 4294967295).toNat))+wr IntKind.u64 (Int.ofNat ((u64 x).toNat.land (u64 4294967295).toNat)*Int.ofNat ((u64 y).toNat.land (u64 4294967295).toNat))/jj (min (Int.toNat 32) IntKind.u64.bits))/jj (min (Int.toNat 32) IntKind.u64.bits))+wr IntKind.u64 (Int.ofNat ((u64 (wr IntKind.u64 (wr IntKind.u64 (x/jj (min (Int.toNat 32) IntKind.u64.bits)*Int.ofNat ((u64 y).toNat.land (u64 4294967295).toNat))+wr IntKind.u64 (Int.ofNat ((u64 x).toNat.land (u64 4294967295).toNat)*Int.ofNat ((u64 y).toNat.land (u64 4294967295).toNat))/jj (min (Int.toNat 32) IntKind.u64.bits)))).toNat.land (u64 4294967295).toNat)+wr IntKind.u64 (Int.ofNat ((u64 x).toNat.land (u64 4294967295).toNat)*(y/jj (min (Int.toNat 32) IntKind.u64.bits))))/jj (min (Int.toNat 32) IntKind.u64.bits)))),V1.one (At.int IntKind.u64 (wr IntKind.u64 (x*y)))],[]):=by kernel_rfl
def isU (x:Int):Bool:=decide (0≤x)&&decide (x<18446744073709551616)
def isI (x:Int):Bool:=decide (-9223372036854775808≤x)&&decide (x<9223372036854775808)
theorem isU_iff {x:Int}:isU x=true↔0≤x∧x<18446744073709551616:=by simp [isU]
theorem isI_iff {x:Int}:isI x=true↔ -9223372036854775808≤x∧x<9223372036854775808:=by simp [isI]
def jgm:List LV→Option (LV×List (Bool×Bool))
 | [.v (.one (.int .u64 x)),.v (.one (.int .u64 y))]=>some (.tup [.one (.int .u64 (x*y/18446744073709551616)),.one (.int .u64 (x*y%18446744073709551616))],[(isU x,true),(isU y,true)])
 | _=>none
theorem jiI:SumOK Tryz.prog 89 (jp jgm):=by
 refine jM (z:=Zl) sound0 (jg sound0 Tryz.func89 (by kernel_rfl)) fun args v cs hF hc=> ?_
 unfold jgm at hF
 split at hF
 ·rename_i x y
  cases hF
  obtain ⟨hx0,hx1⟩:=isU_iff.1 (hc (isU x,true) (by simp))
  obtain ⟨hy0,hy1⟩:=isU_iff.1 (hc (isU y,true) (by simp))
  have h:=jiH x y
  simp only [Jo,Qk] at h
  have hm:0≤u64 (u64 (x/4294967296*Int.ofNat ((u64 y).toNat.land (u64 4294967295).toNat))+u64 (Int.ofNat ((u64 x).toNat.land (u64 4294967295).toNat)*Int.ofNat ((u64 y).toNat.land (u64 4294967295).toNat))/4294967296)∧
    u64 (u64 (x/4294967296*Int.ofNat ((u64 y).toNat.land (u64 4294967295).toNat))+u64 (Int.ofNat ((u64 x).toNat.land (u64 4294967295).toNat)*Int.ofNat ((u64 y).toNat.land (u64 4294967295).toNat))/4294967296)<18446744073709551616:=by
   generalize u64 (x/4294967296*Int.ofNat ((u64 y).toNat.land (u64 4294967295).toNat))+u64 (Int.ofNat ((u64 x).toNat.land (u64 4294967295).toNat)*Int.ofNat ((u64 y).toNat.land (u64 4294967295).toNat))/4294967296=t
   unfold u64;omega
  rw [ZO _ hm.1 hm.2,ZO x hx0 hx1,ZO y hy0 hy1,jya x y hx0 hx1 hy0 hy1] at h
  exact ⟨200,[],[],h,by simp⟩
 ·cases hF
def W1 (v:Int):V1:= .agg [.int .i64 (wHi v),.int .u64 (wLo v)]
def S4:FuncId→Option SumK:=more S0 89 (jp jgm)
theorem sound4:Sound Tryz.prog S4:=sound0.more jiI
end Go.Proofs.YtnlhpaidmiogbaaGreat

/- wide's helpers: abs64, signed, by their runs. -/
namespace Go.Proofs.YtnlhpaidmiogbaaGreat
open Go.Lr
theorem jqz (x y:Int):(jR Tryz.prog S4 Za 200 91 [.v (.agg [.int .u64 x,.int .u64 y]),B false] [] 0 []).map (fun r=>(r.1,r.2.2.2))=some (LV.tup [V1.agg [At.int IntKind.i64 (wr IntKind.i64 x),At.int IntKind.u64 y],V1.one (At.bool (x/jj (min (Int.toNat 63) IntKind.u64.bits)==0))],[]):=by kernel_rfl
theorem jqA (x y:Int):(jR Tryz.prog S4 Za 200 91 [.v (.agg [.int .u64 x,.int .u64 y]),B true] [] 0 [none]).map (fun r=>(r.1,r.2.2.2))=some (LV.tup [V1.agg [At.int IntKind.i64 (wr IntKind.i64 (wr IntKind.u64 (Int.ofNat ((u64 (-1)).toNat.xor (u64 x).toNat)+(Int.ofNat ((u64 (-1)).toNat.xor (u64 y).toNat)+1+0)/18446744073709551616))),At.int IntKind.u64 (u64 (Int.ofNat ((u64 (-1)).toNat.xor (u64 y).toNat)+1+0))],V1.one (At.bool (x==0&&(y==0&&true)))],[(decide (wr IntKind.i64 (wr IntKind.u64 (Int.ofNat ((u64 (-1)).toNat.xor (u64 x).toNat)+(Int.ofNat ((u64 (-1)).toNat.xor (u64 y).toNat)+1+0)/18446744073709551616))<0),false),(decide (wr IntKind.i64 (wr IntKind.u64 (Int.ofNat ((u64 (-1)).toNat.xor (u64 x).toNat)+(Int.ofNat ((u64 (-1)).toNat.xor (u64 y).toNat)+1+0)/18446744073709551616))<0),false),(decide (wr IntKind.i64 (wr IntKind.u64 (Int.ofNat ((u64 (-1)).toNat.xor (u64 x).toNat)+(Int.ofNat ((u64 (-1)).toNat.xor (u64 y).toNat)+1+0)/18446744073709551616))<0),false),(decide (wr IntKind.i64 (wr IntKind.u64 (Int.ofNat ((u64 (-1)).toNat.xor (u64 x).toNat)+(Int.ofNat ((u64 (-1)).toNat.xor (u64 y).toNat)+1+0)/18446744073709551616))<0),false),(decide (0≤Int.ofNat ((u64 (-1)).toNat.xor (u64 y).toNat))&&(decide (0≤1)&&(decide (0≤0)&&decide (0≤1))),true)]):=by kernel_rfl
theorem jqB (x y:Int):(jR Tryz.prog S4 Za 200 91 [.v (.agg [.int .u64 x,.int .u64 y]),B true] [] 0 [none,some true,some true,some true,some true,some true]).map (fun r=>(r.1,r.2.2.2))=some (LV.tup [V1.agg [At.int IntKind.i64 (wr IntKind.i64 (wr IntKind.u64 (Int.ofNat ((u64 (-1)).toNat.xor (u64 x).toNat)+(Int.ofNat ((u64 (-1)).toNat.xor (u64 y).toNat)+1+0)/18446744073709551616))),At.int IntKind.u64 (u64 (Int.ofNat ((u64 (-1)).toNat.xor (u64 y).toNat)+1+0))],V1.one (At.bool true)],[(decide (wr IntKind.i64 (wr IntKind.u64 (Int.ofNat ((u64 (-1)).toNat.xor (u64 x).toNat)+(Int.ofNat ((u64 (-1)).toNat.xor (u64 y).toNat)+1+0)/18446744073709551616))<0),true),(decide (wr IntKind.i64 (wr IntKind.u64 (Int.ofNat ((u64 (-1)).toNat.xor (u64 x).toNat)+(Int.ofNat ((u64 (-1)).toNat.xor (u64 y).toNat)+1+0)/18446744073709551616))<0),true),(decide (wr IntKind.i64 (wr IntKind.u64 (Int.ofNat ((u64 (-1)).toNat.xor (u64 x).toNat)+(Int.ofNat ((u64 (-1)).toNat.xor (u64 y).toNat)+1+0)/18446744073709551616))<0),true),(decide (wr IntKind.i64 (wr IntKind.u64 (Int.ofNat ((u64 (-1)).toNat.xor (u64 x).toNat)+(Int.ofNat ((u64 (-1)).toNat.xor (u64 y).toNat)+1+0)/18446744073709551616))<0),true),(decide (0≤Int.ofNat ((u64 (-1)).toNat.xor (u64 y).toNat))&&(decide (0≤1)&&(decide (0≤0)&&decide (0≤1))),true)]):=by kernel_rfl
theorem jqC (a:Int):(jR Tryz.prog S4 Zl 200 90 [I a] [] 0 [some true]).map (fun r=>(r.1,r.2.2.2))=some (LV.v (V1.one (At.int IntKind.u64 (wr IntKind.u64 (0 - wr IntKind.u64 a)))),[(decide (a<0),true)]):=by kernel_rfl
theorem jqD (a:Int):(jR Tryz.prog S4 Zl 200 90 [I a] [] 0 [some false]).map (fun r=>(r.1,r.2.2.2))=some (LV.v (V1.one (At.int IntKind.u64 (wr IntKind.u64 a))),[(decide (a<0),false)]):=by kernel_rfl
def jzi:List LV→Option (LV×List (Bool×Bool))
 | [.v (.one (.int .i64 a))]=>some (.v (.one (.int .u64 (jh a))),[(isI a,true)])
 | _=>none
theorem jiJ:SumOK Tryz.prog 90 (jp jzi):=by
 refine jM (z:=Zl) sound4 (jg sound4 Tryz.func90 (by kernel_rfl)) fun args v cs hF hc=> ?_
 unfold jzi at hF
 split at hF
 ·rename_i a
  cases hF
  obtain ⟨h0,h1⟩:=isI_iff.1 (hc (isI a,true) (by simp))
  by_cases ha:a<0
  ·rw [show jh a = -a from if_pos ha]
   have h:=jqC a
   rw [show wr .u64 (0 - wr .u64 a) = -a by simp only [Jo];unfold u64;omega] at h
   exact ⟨200,[some true],_,h,by simp [ha]⟩
  ·rw [show jh a=a from if_neg ha]
   have h:=jqD a
   rw [show wr .u64 a=a by simp only [Jo];unfold u64;omega] at h
   exact ⟨200,[some false],_,h,by simp;omega⟩
 ·cases hF
def isW (v:Int):Bool:=decide (-170141183460469231731687303715884105728≤v)&&decide (v<170141183460469231731687303715884105728)
def jbV:List LV→Option (LV×List (Bool×Bool))
 | [.v (.agg [.int .u64 x,.int .u64 y]),.v (.one (.bool neg))]=>
  some (.tup [.agg [.int .i64 (w64 (wHi (sgn neg (jb x y)))),.int .u64 (wLo (sgn neg (jb x y)))],.one (.bool (isW (sgn neg (jb x y))))],[(isU x,true),(isU y,true)])
 | _=>none
theorem sgL {a a' b b':Int} {c c':Bool} (cs:List (Bool×Bool)) (h1:a=a') (h2:b=b') (h3:c=c'):
  some (LV.tup [V1.agg [At.int .i64 a,At.int .u64 b],V1.one (At.bool c)],cs)=some (LV.tup [V1.agg [At.int .i64 a',At.int .u64 b'],V1.one (At.bool c')],cs):=by
 subst h1;subst h2;subst h3;rfl
theorem isW_iff {v:Int}:isW v=true↔ -170141183460469231731687303715884105728≤v∧v<170141183460469231731687303715884105728:=by simp [isW]
theorem jjR (x y:Int):
  u64 (18446744073709551615 - y+1+0)=wLo (-(jb x y)):=by unfold u64 wLo jb;omega
theorem jjS (x y:Int):
  w64 (u64 (18446744073709551615 - x+(18446744073709551615 - y+1+0)/18446744073709551616))=w64 (wHi (-(jb x y))):=by unfold w64 u64 wHi jb;omega
theorem jqE (x y:Int) (hx0:0≤x) (hx1:x<18446744073709551616) (h0:0≤y) (h1:y<18446744073709551616)
  (h:w64 (wHi (-(jb x y)))<0): -170141183460469231731687303715884105728≤ -(jb x y)∧ -(jb x y)<170141183460469231731687303715884105728:=by
 revert h;unfold w64 wHi jb;omega
theorem jqF (x y:Int) (hx0:0≤x) (hx1:x<18446744073709551616) (h0:0≤y) (h1:y<18446744073709551616)
  (h:¬w64 (wHi (-(jb x y)))<0):(-170141183460469231731687303715884105728≤ -(jb x y)∧ -(jb x y)<170141183460469231731687303715884105728)↔(x=0∧y=0):=by
 revert h;unfold w64 wHi jb;omega
theorem jqG (x y:Int) (hx0:0≤x) (hx1:x<18446744073709551616) (h0:0≤y) (h1:y<18446744073709551616):
  x/9223372036854775808=0↔(-170141183460469231731687303715884105728≤jb x y∧jb x y<170141183460469231731687303715884105728):=by
 unfold jb;omega
theorem jgn:SumOK Tryz.prog 91 (jp jbV):=by
 refine jM (z:=Za) sound4 (jg sound4 Tryz.func91 (by kernel_rfl)) fun args v cs hF hc=> ?_
 unfold jbV at hF
 split at hF
 ·rename_i x y neg
  cases hF
  obtain ⟨hx0,hx1⟩:=isU_iff.1 (hc (isU x,true) (by simp))
  obtain ⟨hy0,hy1⟩:=isU_iff.1 (hc (isU y,true) (by simp))
  cases neg with
  | false=>
   have h:=jqz x y
   refine ⟨200,[],[],h.trans (sgL [] ?_ ?_ ?_),by simp⟩
   ·show w64 x=w64 (wHi (jb x y));rw [jld x y hy0 hy1]
   ·show y=wLo (jb x y);rw [jle x y hy0 hy1]
   ·show (x/9223372036854775808==0)=isW (jb x y)
    rw [Bool.eq_iff_iff,isW_iff,beq_iff_eq]
    exact jqG x y hx0 hx1 hy0 hy1
  | true=>
   have hs:sgn true (jb x y) = -(jb x y):=rfl
   rw [hs]
   by_cases hn:w64 (wHi (-(jb x y)))<0
   ·have h:=jqB x y
    simp only [Jo,jlc,jjx x hx0 hx1,jjx y hy0 hy1,jjS x y,jjR x y] at h
    refine ⟨200,_,_,h.trans (sgL _ rfl rfl ?_), ?_⟩
    ·symm;exact isW_iff.2 (jqE x y hx0 hx1 hy0 hy1 hn)
    ·simp [hn];omega
   ·have h:=jqA x y
    simp only [Jo,jlc,jjx x hx0 hx1,jjx y hy0 hy1,jjS x y,jjR x y] at h
    refine ⟨200,_,_,h.trans (sgL _ rfl rfl ?_), ?_⟩
    ·show (x==0&&(y==0&&true))=isW (-(jb x y))
     rw [Bool.eq_iff_iff,isW_iff,jqF x y hx0 hx1 hy0 hy1 hn];simp
    ·simp [hn];omega
 ·cases hF
def S5:FuncId→Option SumK:=more (more S4 90 (jp jzi)) 91 (jp jbV)
theorem qY:Sound Tryz.prog S5:=(sound4.more jiJ).more jgn
end Go.Proofs.YtnlhpaidmiogbaaGreat

/- wide: the small functions, by every path of their runs (printed by contract.py). -/
namespace Go.Proofs.YtnlhpaidmiogbaaGreat
open Go.Lr
theorem jqH (x y:Int):(jR Tryz.prog S5 Zl 2000 136 [.v (.agg [.int .i64 x,.int .u64 y])] [] 0 [some true]).map (fun r=>(r.1,r.2.2.2))=some (LV.tup [V1.agg [At.int IntKind.u64 (wr IntKind.u64 x),At.int IntKind.u64 y],V1.one (At.bool false)],[(decide (x≥0),true)]):=by kernel_rfl
theorem jqI (x y:Int):(jR Tryz.prog S5 Zl 2000 136 [.v (.agg [.int .i64 x,.int .u64 y])] [] 0 [some false]).map (fun r=>(r.1,r.2.2.2))=some (LV.tup [V1.agg [At.int IntKind.u64 (wr IntKind.u64 (Int.ofNat ((u64 (-1)).toNat.xor (u64 (wr IntKind.u64 x)).toNat)+(Int.ofNat ((u64 (-1)).toNat.xor (u64 y).toNat)+1+0)/18446744073709551616)),At.int IntKind.u64 (u64 (Int.ofNat ((u64 (-1)).toNat.xor (u64 y).toNat)+1+0))],V1.one (At.bool true)],[(decide (0≤Int.ofNat ((u64 (-1)).toNat.xor (u64 y).toNat))&&(decide (0≤1)&&(decide (0≤0)&&decide (0≤1))),true),(decide (x≥0),false)]):=by kernel_rfl
def jqJ (x y:Int):Option (LV×List (Bool×Bool)):=
 bif (decide (x≥0)) then some (LV.tup [V1.agg [At.int IntKind.u64 (wr IntKind.u64 x),At.int IntKind.u64 y],V1.one (At.bool false)],[])
 else some (LV.tup [V1.agg [At.int IntKind.u64 (wr IntKind.u64 (Int.ofNat ((u64 (-1)).toNat.xor (u64 (wr IntKind.u64 x)).toNat)+(Int.ofNat ((u64 (-1)).toNat.xor (u64 y).toNat)+1+0)/18446744073709551616)),At.int IntKind.u64 (u64 (Int.ofNat ((u64 (-1)).toNat.xor (u64 y).toNat)+1+0))],V1.one (At.bool true)],[(decide (0≤Int.ofNat ((u64 (-1)).toNat.xor (u64 y).toNat))&&(decide (0≤1)&&(decide (0≤0)&&decide (0≤1))),true)])
def jqK:List LV→Option (LV×List (Bool×Bool))
 | [.v (.agg [.int .i64 x,.int .u64 y])]=>jqJ x y
 | _=>none
theorem sumwabs:SumOK Tryz.prog 136 (jp jqK):=by
 refine jM (z:=Zl) qY (jg qY Tryz.func136 (by kernel_rfl)) fun args v cs hF hc=> ?_
 unfold jqK at hF
 split at hF
 ·rename_i x y
  unfold jqJ at hF
  rcases ji (decide (x≥0)) with h0 | h0
  ·rw [jH h0] at hF
   cases hF
   exact ⟨2000,[some true],_,jqH x y,ja (h0) (jd)⟩
  ·rw [jB h0] at hF
   cases hF
   exact ⟨2000,[some false],_,jqI x y,ja (jx (hc)) (ja (h0) (jd))⟩
 ·cases hF
theorem jl8 (x y x' y':Int):(jR Tryz.prog S5 Zl 2000 138 [.v (.agg [.int .u64 x,.int .u64 y]),.v (.agg [.int .u64 x',.int .u64 y'])] [] 0 []).map (fun r=>(r.1,r.2.2.2))=some (LV.v (V1.agg [At.int IntKind.u64 (u64 (x+x'+(y+y'+0)/18446744073709551616)),At.int IntKind.u64 (u64 (y+y'+0))]),[(decide (0≤x)&&(decide (0≤x')&&(decide (0≤(y+y'+0)/18446744073709551616)&&decide ((y+y'+0)/18446744073709551616≤1))),true),(decide (0≤y)&&(decide (0≤y')&&(decide (0≤0)&&decide (0≤1))),true)]):=by kernel_rfl
def jjT (x y x' y':Int):Option (LV×List (Bool×Bool)):=some (LV.v (V1.agg [At.int IntKind.u64 (u64 (x+x'+(y+y'+0)/18446744073709551616)),At.int IntKind.u64 (u64 (y+y'+0))]),[(decide (0≤x)&&(decide (0≤x')&&(decide (0≤(y+y'+0)/18446744073709551616)&&decide ((y+y'+0)/18446744073709551616≤1))),true),(decide (0≤y)&&(decide (0≤y')&&(decide (0≤0)&&decide (0≤1))),true)])
def jjU:List LV→Option (LV×List (Bool×Bool))
 | [.v (.agg [.int .u64 x,.int .u64 y]),.v (.agg [.int .u64 x',.int .u64 y'])]=>jjT x y x' y'
 | _=>none
theorem sumwplus:SumOK Tryz.prog 138 (jp jjU):=by
 refine jM (z:=Zl) qY (jg qY Tryz.func138 (by kernel_rfl)) fun args v cs hF hc=> ?_
 unfold jjU at hF
 split at hF
 ·rename_i x y x' y'
  unfold jjT at hF
  cases hF
  exact ⟨2000,[],_,jl8 x y x' y',ja (jx (hc)) (ja (jx (jf (hc))) (jd))⟩
 ·cases hF
theorem jl9 (x y x' y':Int):(jR Tryz.prog S5 Zl 2000 227 [.v (.agg [.int .u64 x,.int .u64 y]),.v (.agg [.int .u64 x',.int .u64 y'])] [] 0 [some true,some true,some true,some true,some true,some true,none,none,none,none,none,some true,none,some true]).map (fun r=>(r.1,r.2.2.2))=some (LV.v (V1.one (At.bool true)),[(decide (x<x'),true),(decide (x<x'),true),(decide (x<x'),true),(decide (x<x'),true),(decide (x<x'),true),(decide (x<x'),true),(decide (x<x'),true),(decide (x<x'),true)]):=by kernel_rfl
theorem jma (x y x' y':Int):(jR Tryz.prog S5 Zl 2000 227 [.v (.agg [.int .u64 x,.int .u64 y]),.v (.agg [.int .u64 x',.int .u64 y'])] [] 0 [some false,some false,some false,some false,some false,some false,some true,some true,some true,some true,some true,some false,some true,some false]).map (fun r=>(r.1,r.2.2.2))=some (LV.v (V1.one (At.bool (decide (y<y')))),[(decide (x<x'),false),(decide (x<x'),false),(x==x',true),(x==x',true),(x==x',true),(x==x',true),(x==x',true),(x==x',true),(decide (x<x'),false),(decide (x<x'),false),(decide (x<x'),false),(decide (x<x'),false),(decide (x<x'),false),(decide (x<x'),false)]):=by kernel_rfl
theorem jmb (x y x' y':Int):(jR Tryz.prog S5 Zl 2000 227 [.v (.agg [.int .u64 x,.int .u64 y]),.v (.agg [.int .u64 x',.int .u64 y'])] [] 0 [some false,some false,some false,some false,some false,some false,some false,some false,some false,some false,some false,some false,some false,some false]).map (fun r=>(r.1,r.2.2.2))=some (LV.v (V1.one (At.bool false)),[(decide (x<x'),false),(decide (x<x'),false),(x==x',false),(x==x',false),(x==x',false),(x==x',false),(x==x',false),(x==x',false),(decide (x<x'),false),(decide (x<x'),false),(decide (x<x'),false),(decide (x<x'),false),(decide (x<x'),false),(decide (x<x'),false)]):=by kernel_rfl
def jjV (x y x' y':Int):Option (LV×List (Bool×Bool)):=
 bif (decide (x<x')) then some (LV.v (V1.one (At.bool true)),[])
 else
  bif (x==x') then some (LV.v (V1.one (At.bool (decide (y<y')))),[])
  else some (LV.v (V1.one (At.bool false)),[])
def jjW:List LV→Option (LV×List (Bool×Bool))
 | [.v (.agg [.int .u64 x,.int .u64 y]),.v (.agg [.int .u64 x',.int .u64 y'])]=>jjV x y x' y'
 | _=>none
theorem sumwless:SumOK Tryz.prog 227 (jp jjW):=by
 refine jM (z:=Zl) qY (jg qY Tryz.func227 (by kernel_rfl)) fun args v cs hF hc=> ?_
 unfold jjW at hF
 split at hF
 ·rename_i x y x' y'
  unfold jjV at hF
  rcases ji (decide (x<x')) with h0 | h0
  ·rw [jH h0] at hF
   cases hF
   exact ⟨2000,[some true,some true,some true,some true,some true,some true,none,none,none,none,none,some true,none,some true],_,jl9 x y x' y',ja (h0) (ja (h0) (ja (h0) (ja (h0) (ja (h0) (ja (h0) (ja (h0) (ja (h0) (jd))))))))⟩
  ·rw [jB h0] at hF
   rcases ji (x==x') with h1 | h1
   ·rw [jH h1] at hF
    cases hF
    exact ⟨2000,[some false,some false,some false,some false,some false,some false,some true,some true,some true,some true,some true,some false,some true,some false],_,jma x y x' y',ja (h0) (ja (h0) (ja (h1) (ja (h1) (ja (h1) (ja (h1) (ja (h1) (ja (h1) (ja (h0) (ja (h0) (ja (h0) (ja (h0) (ja (h0) (ja (h0) (jd))))))))))))))⟩
   ·rw [jB h1] at hF
    cases hF
    exact ⟨2000,[some false,some false,some false,some false,some false,some false,some false,some false,some false,some false,some false,some false,some false,some false],_,jmb x y x' y',ja (h0) (ja (h0) (ja (h1) (ja (h1) (ja (h1) (ja (h1) (ja (h1) (ja (h1) (ja (h0) (ja (h0) (ja (h0) (ja (h0) (ja (h0) (ja (h0) (jd))))))))))))))⟩
 ·cases hF
theorem jqL (x y:Int) (n:Bool):(jR Tryz.prog S5 Zl 2000 139 [.v (.agg [.int .u64 x,.int .u64 y]),.v (.one (.bool n))] [] 0 [some true,some true]).map (fun r=>(r.1,r.2.2.2))=some (LV.tup [V1.one (At.int IntKind.i64 0),V1.one (At.bool false)],[(x != 0,true),(x != 0,true)]):=by kernel_rfl
theorem jqM (x y:Int) (n:Bool):(jR Tryz.prog S5 Zl 2000 139 [.v (.agg [.int .u64 x,.int .u64 y]),.v (.one (.bool n))] [] 0 [some false,some true,some true,some true,some true,some true,some true]).map (fun r=>(r.1,r.2.2.2))=some (LV.tup [V1.one (At.int IntKind.i64 0),V1.one (At.bool false)],[(decide (y>9223372036854775807),true),(decide (y>9223372036854775807),true),(!n,true),(!n,true),(!n,true),(!n,true),(x != 0,false)]):=by kernel_rfl
theorem jqN (x y:Int) (n:Bool):(jR Tryz.prog S5 Zl 2000 139 [.v (.agg [.int .u64 x,.int .u64 y]),.v (.one (.bool n))] [] 0 [some false,some true,some true,some true,some true,some false,some true,some true,some true,some true,some true]).map (fun r=>(r.1,r.2.2.2))=some (LV.tup [V1.one (At.int IntKind.i64 0),V1.one (At.bool false)],[(decide (y>9223372036854775808),true),(n,true),(n,true),(n,true),(n,true),(decide (y>9223372036854775807),false),(!n,true),(!n,true),(!n,true),(!n,true),(x != 0,false)]):=by kernel_rfl
theorem jqO (x y:Int) (n:Bool):(jR Tryz.prog S5 Zl 2000 139 [.v (.agg [.int .u64 x,.int .u64 y]),.v (.one (.bool n))] [] 0 [some false,some true,some true,some true,some true,some false,some true,some true,some true,some true,some false,some true]).map (fun r=>(r.1,r.2.2.2))=some (LV.tup [V1.one (At.int IntKind.i64 (wr IntKind.i64 (wr IntKind.u64 (0 - y)))),V1.one (At.bool true)],[(n,true),(decide (y>9223372036854775808),false),(n,true),(n,true),(n,true),(n,true),(decide (y>9223372036854775807),false),(!n,true),(!n,true),(!n,true),(!n,true),(x != 0,false)]):=by kernel_rfl
theorem jqP (x y:Int) (n:Bool):(jR Tryz.prog S5 Zl 2000 139 [.v (.agg [.int .u64 x,.int .u64 y]),.v (.one (.bool n))] [] 0 [some false,some true,some true,some true,some true,some false,some false,some false,some false,some false,none,some false]).map (fun r=>(r.1,r.2.2.2))=some (LV.tup [V1.one (At.int IntKind.i64 (wr IntKind.i64 y)),V1.one (At.bool true)],[(n,false),(n,false),(n,false),(n,false),(n,false),(decide (y>9223372036854775807),false),(!n,true),(!n,true),(!n,true),(!n,true),(x != 0,false)]):=by kernel_rfl
theorem jqQ (x y:Int) (n:Bool):(jR Tryz.prog S5 Zl 2000 139 [.v (.agg [.int .u64 x,.int .u64 y]),.v (.one (.bool n))] [] 0 [some false,some false,some false,some false,some false,none,some true,some true,some true,some true,some true]).map (fun r=>(r.1,r.2.2.2))=some (LV.tup [V1.one (At.int IntKind.i64 0),V1.one (At.bool false)],[(decide (y>9223372036854775808),true),(n,true),(n,true),(n,true),(n,true),(!n,false),(!n,false),(!n,false),(!n,false),(x != 0,false)]):=by kernel_rfl
theorem jqR (x y:Int) (n:Bool):(jR Tryz.prog S5 Zl 2000 139 [.v (.agg [.int .u64 x,.int .u64 y]),.v (.one (.bool n))] [] 0 [some false,some false,some false,some false,some false,none,some true,some true,some true,some true,some false,some true]).map (fun r=>(r.1,r.2.2.2))=some (LV.tup [V1.one (At.int IntKind.i64 (wr IntKind.i64 (wr IntKind.u64 (0 - y)))),V1.one (At.bool true)],[(n,true),(decide (y>9223372036854775808),false),(n,true),(n,true),(n,true),(n,true),(!n,false),(!n,false),(!n,false),(!n,false),(x != 0,false)]):=by kernel_rfl
theorem jqS (x y:Int) (n:Bool):(jR Tryz.prog S5 Zl 2000 139 [.v (.agg [.int .u64 x,.int .u64 y]),.v (.one (.bool n))] [] 0 [some false,some false,some false,some false,some false,none,some false,some false,some false,some false,none,some false]).map (fun r=>(r.1,r.2.2.2))=some (LV.tup [V1.one (At.int IntKind.i64 (wr IntKind.i64 y)),V1.one (At.bool true)],[(n,false),(n,false),(n,false),(n,false),(n,false),(!n,false),(!n,false),(!n,false),(!n,false),(x != 0,false)]):=by kernel_rfl
def jmc (x y:Int) (n:Bool):Option (LV×List (Bool×Bool)):=
 bif (x != 0) then some (LV.tup [V1.one (At.int IntKind.i64 0),V1.one (At.bool false)],[])
 else
  bif (!n) then
   bif (decide (y>9223372036854775807)) then some (LV.tup [V1.one (At.int IntKind.i64 0),V1.one (At.bool false)],[])
   else
    bif (n) then
     bif (decide (y>9223372036854775808)) then some (LV.tup [V1.one (At.int IntKind.i64 0),V1.one (At.bool false)],[])
     else some (LV.tup [V1.one (At.int IntKind.i64 (wr IntKind.i64 (wr IntKind.u64 (0 - y)))),V1.one (At.bool true)],[])
    else some (LV.tup [V1.one (At.int IntKind.i64 (wr IntKind.i64 y)),V1.one (At.bool true)],[])
  else
   bif (n) then
    bif (decide (y>9223372036854775808)) then some (LV.tup [V1.one (At.int IntKind.i64 0),V1.one (At.bool false)],[])
    else some (LV.tup [V1.one (At.int IntKind.i64 (wr IntKind.i64 (wr IntKind.u64 (0 - y)))),V1.one (At.bool true)],[])
   else some (LV.tup [V1.one (At.int IntKind.i64 (wr IntKind.i64 y)),V1.one (At.bool true)],[])
def jqT:List LV→Option (LV×List (Bool×Bool))
 | [.v (.agg [.int .u64 x,.int .u64 y]),.v (.one (.bool n))]=>jmc x y n
 | _=>none
theorem sumsg64:SumOK Tryz.prog 139 (jp jqT):=by
 refine jM (z:=Zl) qY (jg qY Tryz.func139 (by kernel_rfl)) fun args v cs hF hc=> ?_
 unfold jqT at hF
 split at hF
 ·rename_i x y n
  unfold jmc at hF
  rcases ji (x != 0) with h0 | h0
  ·rw [jH h0] at hF
   cases hF
   exact ⟨2000,[some true,some true],_,jqL x y n,ja (h0) (ja (h0) (jd))⟩
  ·rw [jB h0] at hF
   rcases ji (!n) with h1 | h1
   ·rw [jH h1] at hF
    rcases ji (decide (y>9223372036854775807)) with h2 | h2
    ·rw [jH h2] at hF
     cases hF
     exact ⟨2000,[some false,some true,some true,some true,some true,some true,some true],_,jqM x y n,ja (h2) (ja (h2) (ja (h1) (ja (h1) (ja (h1) (ja (h1) (ja (h0) (jd)))))))⟩
    ·rw [jB h2] at hF
     rcases ji (n) with h3 | h3
     ·rw [jH h3] at hF
      rcases ji (decide (y>9223372036854775808)) with h4 | h4
      ·rw [jH h4] at hF
       cases hF
       exact ⟨2000,[some false,some true,some true,some true,some true,some false,some true,some true,some true,some true,some true],_,jqN x y n,ja (h4) (ja (h3) (ja (h3) (ja (h3) (ja (h3) (ja (h2) (ja (h1) (ja (h1) (ja (h1) (ja (h1) (ja (h0) (jd)))))))))))⟩
      ·rw [jB h4] at hF
       cases hF
       exact ⟨2000,[some false,some true,some true,some true,some true,some false,some true,some true,some true,some true,some false,some true],_,jqO x y n,ja (h3) (ja (h4) (ja (h3) (ja (h3) (ja (h3) (ja (h3) (ja (h2) (ja (h1) (ja (h1) (ja (h1) (ja (h1) (ja (h0) (jd))))))))))))⟩
     ·rw [jB h3] at hF
      cases hF
      exact ⟨2000,[some false,some true,some true,some true,some true,some false,some false,some false,some false,some false,none,some false],_,jqP x y n,ja (h3) (ja (h3) (ja (h3) (ja (h3) (ja (h3) (ja (h2) (ja (h1) (ja (h1) (ja (h1) (ja (h1) (ja (h0) (jd)))))))))))⟩
   ·rw [jB h1] at hF
    rcases ji (n) with h2 | h2
    ·rw [jH h2] at hF
     rcases ji (decide (y>9223372036854775808)) with h3 | h3
     ·rw [jH h3] at hF
      cases hF
      exact ⟨2000,[some false,some false,some false,some false,some false,none,some true,some true,some true,some true,some true],_,jqQ x y n,ja (h3) (ja (h2) (ja (h2) (ja (h2) (ja (h2) (ja (h1) (ja (h1) (ja (h1) (ja (h1) (ja (h0) (jd))))))))))⟩
     ·rw [jB h3] at hF
      cases hF
      exact ⟨2000,[some false,some false,some false,some false,some false,none,some true,some true,some true,some true,some false,some true],_,jqR x y n,ja (h2) (ja (h3) (ja (h2) (ja (h2) (ja (h2) (ja (h2) (ja (h1) (ja (h1) (ja (h1) (ja (h1) (ja (h0) (jd)))))))))))⟩
    ·rw [jB h2] at hF
     cases hF
     exact ⟨2000,[some false,some false,some false,some false,some false,none,some false,some false,some false,some false,none,some false],_,jqS x y n,ja (h2) (ja (h2) (ja (h2) (ja (h2) (ja (h2) (ja (h1) (ja (h1) (ja (h1) (ja (h1) (ja (h0) (jd))))))))))⟩
 ·cases hF
end Go.Proofs.YtnlhpaidmiogbaaGreat

/- wide: shl, shr, minus, Of, add, by every path of their runs (printed by contract.py). -/
namespace Go.Proofs.YtnlhpaidmiogbaaGreat
open Go.Lr
theorem jqU (x y s:Int):(jR Tryz.prog S5 Zl 2000 182 [.v (.agg [.int .u64 x,.int .u64 y]),.v (.one (.int .i64 s))] [] 0 [some true]).map (fun r=>(r.1,r.2.2.2))=some (LV.v (V1.agg [At.int IntKind.u64 (wr IntKind.u64 (y*jj (min (wr IntKind.i64 (s - 64)).toNat IntKind.u64.bits))),At.int IntKind.u64 0]),[(decide (wr IntKind.i64 (s - 64)<0),false),(decide (s≥64),true)]):=by kernel_rfl
theorem jqV (x y s:Int):(jR Tryz.prog S5 Zl 2000 182 [.v (.agg [.int .u64 x,.int .u64 y]),.v (.one (.int .i64 s))] [] 0 [some false]).map (fun r=>(r.1,r.2.2.2))=some (LV.v (V1.agg [At.int IntKind.u64 (Int.ofNat ((u64 (wr IntKind.u64 (x*jj (min s.toNat IntKind.u64.bits)))).toNat.lor (u64 (y/jj (min (wr IntKind.i64 (64 - s)).toNat IntKind.u64.bits))).toNat)),At.int IntKind.u64 (wr IntKind.u64 (y*jj (min s.toNat IntKind.u64.bits)))]),[(decide (s<0),false),(decide (wr IntKind.i64 (64 - s)<0),false),(decide (s<0),false),(decide (s≥64),false)]):=by kernel_rfl
def jqW (x y s:Int):Option (LV×List (Bool×Bool)):=
 bif (decide (s≥64)) then some (LV.v (V1.agg [At.int IntKind.u64 (wr IntKind.u64 (y*jj (min (wr IntKind.i64 (s - 64)).toNat IntKind.u64.bits))),At.int IntKind.u64 0]),[(decide (wr IntKind.i64 (s - 64)<0),false)])
 else some (LV.v (V1.agg [At.int IntKind.u64 (Int.ofNat ((u64 (wr IntKind.u64 (x*jj (min s.toNat IntKind.u64.bits)))).toNat.lor (u64 (y/jj (min (wr IntKind.i64 (64 - s)).toNat IntKind.u64.bits))).toNat)),At.int IntKind.u64 (wr IntKind.u64 (y*jj (min s.toNat IntKind.u64.bits)))]),[(decide (s<0),false),(decide (wr IntKind.i64 (64 - s)<0),false)])
def jqX:List LV→Option (LV×List (Bool×Bool))
 | [.v (.agg [.int .u64 x,.int .u64 y]),.v (.one (.int .i64 s))]=>jqW x y s
 | _=>none
theorem sumwshl:SumOK Tryz.prog 182 (jp jqX):=by
 refine jM (z:=Zl) qY (jg qY Tryz.func182 (by kernel_rfl)) fun args v cs hF hc=> ?_
 unfold jqX at hF
 split at hF
 ·rename_i x y s
  unfold jqW at hF
  rcases ji (decide (s≥64)) with h0 | h0
  ·rw [jH h0] at hF
   cases hF
   exact ⟨2000,[some true],_,jqU x y s,ja (jx (hc)) (ja (h0) (jd))⟩
  ·rw [jB h0] at hF
   cases hF
   exact ⟨2000,[some false],_,jqV x y s,ja (jx (hc)) (ja (jx (jf (hc))) (ja (jx (hc)) (ja (h0) (jd))))⟩
 ·cases hF
theorem jqY (x y s:Int):(jR Tryz.prog S5 Zl 2000 183 [.v (.agg [.int .u64 x,.int .u64 y]),.v (.one (.int .i64 s))] [] 0 [some true]).map (fun r=>(r.1,r.2.2.2))=some (LV.v (V1.agg [At.int IntKind.u64 0,At.int IntKind.u64 (x/jj (min (wr IntKind.i64 (s - 64)).toNat IntKind.u64.bits))]),[(decide (wr IntKind.i64 (s - 64)<0),false),(decide (s≥64),true)]):=by kernel_rfl
theorem jqZ (x y s:Int):(jR Tryz.prog S5 Zl 2000 183 [.v (.agg [.int .u64 x,.int .u64 y]),.v (.one (.int .i64 s))] [] 0 [some false]).map (fun r=>(r.1,r.2.2.2))=some (LV.v (V1.agg [At.int IntKind.u64 (x/jj (min s.toNat IntKind.u64.bits)),At.int IntKind.u64 (Int.ofNat ((u64 (y/jj (min s.toNat IntKind.u64.bits))).toNat.lor (u64 (wr IntKind.u64 (x*jj (min (wr IntKind.i64 (64 - s)).toNat IntKind.u64.bits)))).toNat))]),[(decide (wr IntKind.i64 (64 - s)<0),false),(decide (s<0),false),(decide (s<0),false),(decide (s≥64),false)]):=by kernel_rfl
def jq0 (x y s:Int):Option (LV×List (Bool×Bool)):=
 bif (decide (s≥64)) then some (LV.v (V1.agg [At.int IntKind.u64 0,At.int IntKind.u64 (x/jj (min (wr IntKind.i64 (s - 64)).toNat IntKind.u64.bits))]),[(decide (wr IntKind.i64 (s - 64)<0),false)])
 else some (LV.v (V1.agg [At.int IntKind.u64 (x/jj (min s.toNat IntKind.u64.bits)),At.int IntKind.u64 (Int.ofNat ((u64 (y/jj (min s.toNat IntKind.u64.bits))).toNat.lor (u64 (wr IntKind.u64 (x*jj (min (wr IntKind.i64 (64 - s)).toNat IntKind.u64.bits)))).toNat))]),[(decide (wr IntKind.i64 (64 - s)<0),false),(decide (s<0),false)])
def jq1:List LV→Option (LV×List (Bool×Bool))
 | [.v (.agg [.int .u64 x,.int .u64 y]),.v (.one (.int .i64 s))]=>jq0 x y s
 | _=>none
theorem sumwshr:SumOK Tryz.prog 183 (jp jq1):=by
 refine jM (z:=Zl) qY (jg qY Tryz.func183 (by kernel_rfl)) fun args v cs hF hc=> ?_
 unfold jq1 at hF
 split at hF
 ·rename_i x y s
  unfold jq0 at hF
  rcases ji (decide (s≥64)) with h0 | h0
  ·rw [jH h0] at hF
   cases hF
   exact ⟨2000,[some true],_,jqY x y s,ja (jx (hc)) (ja (h0) (jd))⟩
  ·rw [jB h0] at hF
   cases hF
   exact ⟨2000,[some false],_,jqZ x y s,ja (jx (hc)) (ja (jx (jf (hc))) (ja (jx (jf (hc))) (ja (h0) (jd))))⟩
 ·cases hF
theorem jiK (x y x' y':Int):(jR Tryz.prog S5 Zl 2000 228 [.v (.agg [.int .u64 x,.int .u64 y]),.v (.agg [.int .u64 x',.int .u64 y'])] [] 0 []).map (fun r=>(r.1,r.2.2.2))=some (LV.v (V1.agg [At.int IntKind.u64 (u64 (x - x' - J0 y y' 0)),At.int IntKind.u64 (u64 (y - y' - 0))]),[(decide (0≤x)&&(decide (0≤x')&&(decide (x'<18446744073709551616)&&(decide (0≤J0 y y' 0)&&decide (J0 y y' 0≤1)))),true),(decide (0≤y)&&(decide (0≤y')&&(decide (y'<18446744073709551616)&&(decide (0≤0)&&decide (0≤1)))),true)]):=by kernel_rfl
def jgo (x y x' y':Int):Option (LV×List (Bool×Bool)):=some (LV.v (V1.agg [At.int IntKind.u64 (u64 (x - x' - J0 y y' 0)),At.int IntKind.u64 (u64 (y - y' - 0))]),[(decide (0≤x)&&(decide (0≤x')&&(decide (x'<18446744073709551616)&&(decide (0≤J0 y y' 0)&&decide (J0 y y' 0≤1)))),true),(decide (0≤y)&&(decide (0≤y')&&(decide (y'<18446744073709551616)&&(decide (0≤0)&&decide (0≤1)))),true)])
def jgp:List LV→Option (LV×List (Bool×Bool))
 | [.v (.agg [.int .u64 x,.int .u64 y]),.v (.agg [.int .u64 x',.int .u64 y'])]=>jgo x y x' y'
 | _=>none
theorem sumwminus:SumOK Tryz.prog 228 (jp jgp):=by
 refine jM (z:=Zl) qY (jg qY Tryz.func228 (by kernel_rfl)) fun args v cs hF hc=> ?_
 unfold jgp at hF
 split at hF
 ·rename_i x y x' y'
  unfold jgo at hF
  cases hF
  exact ⟨2000,[],_,jiK x y x' y',ja (jx (hc)) (ja (jx (jf (hc))) (jd))⟩
 ·cases hF
theorem jzj (a:Int):(jR Tryz.prog S5 Zl 2000 226 [.v (.one (.int .i64 a))] [] 0 []).map (fun r=>(r.1,r.2.2.2))=some (LV.v (V1.agg [At.int IntKind.i64 (a/jj (min (Int.toNat 63) IntKind.i64.bits)),At.int IntKind.u64 (wr IntKind.u64 a)]),[]):=by kernel_rfl
def jCf (a:Int):Option (LV×List (Bool×Bool)):=some (LV.v (V1.agg [At.int IntKind.i64 (a/jj (min (Int.toNat 63) IntKind.i64.bits)),At.int IntKind.u64 (wr IntKind.u64 a)]),[])
def jCg:List LV→Option (LV×List (Bool×Bool))
 | [.v (.one (.int .i64 a))]=>jCf a
 | _=>none
theorem sumwof:SumOK Tryz.prog 226 (jp jCg):=by
 refine jM (z:=Zl) qY (jg qY Tryz.func226 (by kernel_rfl)) fun args v cs hF hc=> ?_
 unfold jCg at hF
 split at hF
 ·rename_i a
  unfold jCf at hF
  cases hF
  exact ⟨2000,[],_,jzj a,jd⟩
 ·cases hF
theorem jq2 (x y x' y':Int):(jR Tryz.prog S5 Zl 2000 189 [.v (.agg [.int .i64 x,.int .u64 y]),.v (.agg [.int .i64 x',.int .u64 y'])] [] 0 [some true,some true,some true,some true,some true,some true,some true,some true]).map (fun r=>(r.1,r.2.2.2))=some (LV.tup [V1.agg [At.int IntKind.i64 (wr IntKind.i64 (u64 (wr IntKind.u64 x+wr IntKind.u64 x'+(y+y'+0)/18446744073709551616))),At.int IntKind.u64 (u64 (y+y'+0))],V1.one (At.bool true)],[(!decide (x<0)==decide (x'<0),true),(!decide (x<0)==decide (x'<0),true),(!decide (x<0)==decide (x'<0),true),(!decide (x<0)==decide (x'<0),true),(!decide (x<0)==decide (x'<0),true),(!decide (x<0)==decide (x'<0),true),(!decide (x<0)==decide (x'<0),true),(!decide (x<0)==decide (x'<0),true),(decide (0≤wr IntKind.u64 x)&&(decide (0≤wr IntKind.u64 x')&&(decide (0≤(y+y'+0)/18446744073709551616)&&decide ((y+y'+0)/18446744073709551616≤1))),true),(decide (0≤y)&&(decide (0≤y')&&(decide (0≤0)&&decide (0≤1))),true)]):=by kernel_rfl
theorem jq3 (x y x' y':Int):(jR Tryz.prog S5 Zl 2000 189 [.v (.agg [.int .i64 x,.int .u64 y]),.v (.agg [.int .i64 x',.int .u64 y'])] [] 0 [some false,some false,some false,some false,some false,some false,some false,some false]).map (fun r=>(r.1,r.2.2.2))=some (LV.tup [V1.agg [At.int IntKind.i64 (wr IntKind.i64 (u64 (wr IntKind.u64 x+wr IntKind.u64 x'+(y+y'+0)/18446744073709551616))),At.int IntKind.u64 (u64 (y+y'+0))],V1.one (At.bool (decide (wr IntKind.i64 (u64 (wr IntKind.u64 x+wr IntKind.u64 x'+(y+y'+0)/18446744073709551616))<0)==decide (x<0)))],[(!decide (x<0)==decide (x'<0),false),(!decide (x<0)==decide (x'<0),false),(!decide (x<0)==decide (x'<0),false),(!decide (x<0)==decide (x'<0),false),(!decide (x<0)==decide (x'<0),false),(!decide (x<0)==decide (x'<0),false),(!decide (x<0)==decide (x'<0),false),(!decide (x<0)==decide (x'<0),false),(decide (0≤wr IntKind.u64 x)&&(decide (0≤wr IntKind.u64 x')&&(decide (0≤(y+y'+0)/18446744073709551616)&&decide ((y+y'+0)/18446744073709551616≤1))),true),(decide (0≤y)&&(decide (0≤y')&&(decide (0≤0)&&decide (0≤1))),true)]):=by kernel_rfl
def jq4 (x y x' y':Int):Option (LV×List (Bool×Bool)):=
 bif (!decide (x<0)==decide (x'<0)) then some (LV.tup [V1.agg [At.int IntKind.i64 (wr IntKind.i64 (u64 (wr IntKind.u64 x+wr IntKind.u64 x'+(y+y'+0)/18446744073709551616))),At.int IntKind.u64 (u64 (y+y'+0))],V1.one (At.bool true)],[(decide (0≤wr IntKind.u64 x)&&(decide (0≤wr IntKind.u64 x')&&(decide (0≤(y+y'+0)/18446744073709551616)&&decide ((y+y'+0)/18446744073709551616≤1))),true),(decide (0≤y)&&(decide (0≤y')&&(decide (0≤0)&&decide (0≤1))),true)])
 else some (LV.tup [V1.agg [At.int IntKind.i64 (wr IntKind.i64 (u64 (wr IntKind.u64 x+wr IntKind.u64 x'+(y+y'+0)/18446744073709551616))),At.int IntKind.u64 (u64 (y+y'+0))],V1.one (At.bool (decide (wr IntKind.i64 (u64 (wr IntKind.u64 x+wr IntKind.u64 x'+(y+y'+0)/18446744073709551616))<0)==decide (x<0)))],[(decide (0≤wr IntKind.u64 x)&&(decide (0≤wr IntKind.u64 x')&&(decide (0≤(y+y'+0)/18446744073709551616)&&decide ((y+y'+0)/18446744073709551616≤1))),true),(decide (0≤y)&&(decide (0≤y')&&(decide (0≤0)&&decide (0≤1))),true)])
def jq5:List LV→Option (LV×List (Bool×Bool))
 | [.v (.agg [.int .i64 x,.int .u64 y]),.v (.agg [.int .i64 x',.int .u64 y'])]=>jq4 x y x' y'
 | _=>none
theorem sumwadd:SumOK Tryz.prog 189 (jp jq5):=by
 refine jM (z:=Zl) qY (jg qY Tryz.func189 (by kernel_rfl)) fun args v cs hF hc=> ?_
 unfold jq5 at hF
 split at hF
 ·rename_i x y x' y'
  unfold jq4 at hF
  rcases ji (!decide (x<0)==decide (x'<0)) with h0 | h0
  ·rw [jH h0] at hF
   cases hF
   exact ⟨2000,[some true,some true,some true,some true,some true,some true,some true,some true],_,jq2 x y x' y',ja (h0) (ja (h0) (ja (h0) (ja (h0) (ja (h0) (ja (h0) (ja (h0) (ja (h0) (ja (jx (hc)) (ja (jx (jf (hc))) (jd))))))))))⟩
  ·rw [jB h0] at hF
   cases hF
   exact ⟨2000,[some false,some false,some false,some false,some false,some false,some false,some false],_,jq3 x y x' y',ja (h0) (ja (h0) (ja (h0) (ja (h0) (ja (h0) (ja (h0) (ja (h0) (ja (h0) (ja (jx (hc)) (ja (jx (jf (hc))) (jd))))))))))⟩
 ·cases hF
end Go.Proofs.YtnlhpaidmiogbaaGreat

/- wide: what the small functions come to, in numbers. -/
namespace Go.Proofs.YtnlhpaidmiogbaaGreat
open Go.Lr
set_option linter.unusedVariables false
set_option linter.unusedSimpArgs false
def B1 (v:Int):V1:= .agg [.int .u64 (wHi v),.int .u64 (wLo v)]
theorem jjX {k k':IntKind} {a a' b b':Int} (cs:List (Bool×Bool)) (h1:a=a') (h2:b=b'):
  some (LV.v (V1.agg [At.int k a,At.int k' b]),cs)=some (LV.v (V1.agg [At.int k a',At.int k' b']),cs):=by subst h1;subst h2;rfl
theorem jgq {k k':IntKind} {a a' b b':Int} {c c':Bool} (cs:List (Bool×Bool)) (h1:a=a') (h2:b=b') (h3:c=c'):
  some (LV.tup [V1.agg [At.int k a,At.int k' b],V1.one (At.bool c)],cs)=some (LV.tup [V1.agg [At.int k a',At.int k' b'],V1.one (At.bool c')],cs):=by subst h1;subst h2;subst h3;rfl
theorem jgr {k:IntKind} {a a':Int} {c c':Bool} (cs:List (Bool×Bool)) (h1:a=a') (h3:c=c'):
  some (LV.tup [V1.one (At.int k a),V1.one (At.bool c)],cs)=some (LV.tup [V1.one (At.int k a'),V1.one (At.bool c')],cs):=by subst h1;subst h3;rfl
theorem jzk {c c':Bool} (cs:List (Bool×Bool)) (h3:c=c'):
  some (LV.v (V1.one (At.bool c)),cs)=some (LV.v (V1.one (At.bool c')),cs):=by subst h3;rfl
theorem Xz {s:Int} (h0:0≤s) (h1:s≤64):min s.toNat IntKind.u64.bits=s.toNat:=by
 have:IntKind.u64.bits=64:=rfl
 omega
theorem jgs {s:Int} (h0: -1000≤s) (h1:s≤1000):wr .i64 s=s:=xu (by omega) (by omega)
def jzl:List LV→Option (LV×List (Bool×Bool))
 | [.v (.agg [.int .u64 x,.int .u64 y]),.v (.one (.int .i64 s))]=>some (.v (B1 (jb x y*jj s.toNat%340282366920938463463374607431768211456)),[(isU x,true),(isU y,true),(decide (0≤s)&&decide (s<128),true)])
 | _=>none
theorem jq6:SumOK Tryz.prog 182 (jp jzl):=by
 refine sumwshl.pure_re fun args v cs hF hc=> ?_
 unfold jzl at hF
 split at hF
 ·rename_i x y s
  cases hF
  simp only [jZ,isU_iff,Bool.and_eq_true,decide_eq_true_eq] at hc
  obtain ⟨⟨hx0,hx1⟩,⟨hy0,hy1⟩,⟨hs0,hs1⟩,-⟩:=hc
  by_cases h:s≥64
  ·refine ⟨_,(jH (decide_eq_true h)).trans (jjX _ ?_ ?_), ?_⟩
   ·rw [jgs (by omega) (by omega),Xz (by omega) (by omega),Jo]
    have hs:s.toNat=(s - 64).toNat+64:=by omega
    rw [hs,xd,Jr]
    generalize jj (s - 64).toNat=p
    unfold wHi jb u64
    have e:(x*18446744073709551616+y)*(p*18446744073709551616)=x*p*340282366920938463463374607431768211456+(y*p)*18446744073709551616:=by grind
    rw [e];generalize x*p=a;generalize y*p=b;omega
   ·have hs:s.toNat=(s - 64).toNat+64:=by omega
    rw [hs,xd,Jr]
    generalize jj (s - 64).toNat=p
    unfold wLo jb
    have e:(x*18446744073709551616+y)*(p*18446744073709551616)=x*p*340282366920938463463374607431768211456+(y*p)*18446744073709551616:=by grind
    rw [e];generalize x*p=a;generalize y*p=b;omega
   ·rw [jgs (by omega) (by omega)];simp;omega
  ·have hpq:jj s.toNat*jj (64 - s).toNat=18446744073709551616:=by rw [←xd,←Jr];congr 1;omega
   obtain ⟨g1,g2,g3,g4,g5,g6,g7,g8⟩:=jjy x y (jj s.toNat) (jj (64 - s).toNat) (kg _) (kg _) hpq hy0 hy1
   refine ⟨_,(jB (decide_eq_false h)).trans (jjX _ ?_ ?_), ?_⟩
   ·rw [jgs (by omega) (by omega),Xz (s:=s) (by omega) (by omega),Xz (s:=64 - s) (by omega) (by omega),Jo,g1,g3]
    exact (ja8 _ _ _ g8 g5 g6 g7).1
   ·rw [Xz (s:=s) (by omega) (by omega),Jo,g2,g4]
   ·rw [jgs (by omega) (by omega)];simp;omega
 ·cases hF
def jzm:List LV→Option (LV×List (Bool×Bool))
 | [.v (.agg [.int .u64 x,.int .u64 y]),.v (.one (.int .i64 s))]=>some (.v (B1 (jb x y/jj s.toNat)),[(isU x,true),(isU y,true),(decide (0≤s)&&decide (s<128),true)])
 | _=>none
theorem jq7:SumOK Tryz.prog 183 (jp jzm):=by
 refine sumwshr.pure_re fun args v cs hF hc=> ?_
 unfold jzm at hF
 split at hF
 ·rename_i x y s
  cases hF
  simp only [jZ,isU_iff,Bool.and_eq_true,decide_eq_true_eq] at hc
  obtain ⟨⟨hx0,hx1⟩,⟨hy0,hy1⟩,⟨hs0,hs1⟩,-⟩:=hc
  by_cases h:s≥64
  ·have hs:s.toNat=64+(s - 64).toNat:=by omega
   have e:jb x y/jj s.toNat=x/jj (s - 64).toNat:=by
    rw [hs,xd,Jr,←Int.ediv_ediv_of_nonneg (by omega)]
    congr 1;unfold jb;omega
   have q0:0≤x/jj (s - 64).toNat:=Int.ediv_nonneg hx0 (Int.le_of_lt (kg _))
   have q1:x/jj (s - 64).toNat≤x:=Int.ediv_le_self _ hx0
   refine ⟨_,(jH (decide_eq_true h)).trans (jjX _ ?_ ?_), ?_⟩
   ·rw [e];unfold wHi;omega
   ·rw [jgs (by omega) (by omega),Xz (by omega) (by omega),e];unfold wLo;omega
   ·rw [jgs (by omega) (by omega)];simp;omega
  ·have hpq:jj s.toNat*jj (64 - s).toNat=18446744073709551616:=by rw [←xd,←Jr];congr 1;omega
   obtain ⟨g1,g2,g3,g5,g6,g7,g8⟩:=jp3 x y (jj s.toNat) (jj (64 - s).toNat) (kg _) (kg _) hpq hy0 hy1
   refine ⟨_,(jB (decide_eq_false h)).trans (jjX _ ?_ ?_), ?_⟩
   ·rw [Xz (s:=s) (by omega) (by omega),g1]
   ·rw [jgs (by omega) (by omega),Xz (s:=s) (by omega) (by omega),Xz (s:=64 - s) (by omega) (by omega),Jo,g2,g3]
    exact (ja8 _ _ _ g8 g5 g6 g7).2
   ·rw [jgs (by omega) (by omega)];simp;omega
 ·cases hF
def jmd:List LV→Option (LV×List (Bool×Bool))
 | [.v (.agg [.int .u64 x,.int .u64 y]),.v (.agg [.int .u64 x',.int .u64 y'])]=>some (.v (B1 ((jb x y+jb x' y')%340282366920938463463374607431768211456)),[(isU x,true),(isU y,true),(isU x',true),(isU y',true)])
 | _=>none
theorem jme:SumOK Tryz.prog 138 (jp jmd):=by
 refine sumwplus.pure_re fun args v cs hF hc=> ?_
 unfold jmd at hF
 split at hF
 ·rename_i x y x' y'
  cases hF
  simp only [jZ,isU_iff,Bool.and_eq_true,decide_eq_true_eq] at hc
  obtain ⟨⟨hx0,hx1⟩,⟨hy0,hy1⟩,⟨hx0',hx1'⟩,⟨hy0',hy1'⟩,-⟩:=hc
  refine ⟨_,jjX (a:=u64 _) _ ?_ ?_, ?_⟩
  ·unfold u64 wHi jb;omega
  ·unfold u64 wLo jb;omega
  ·simp;omega
 ·cases hF
def jgt:List LV→Option (LV×List (Bool×Bool))
 | [.v (.agg [.int .u64 x,.int .u64 y]),.v (.agg [.int .u64 x',.int .u64 y'])]=>some (.v (B1 ((jb x y - jb x' y')%340282366920938463463374607431768211456)),[(isU x,true),(isU y,true),(isU x',true),(isU y',true)])
 | _=>none
theorem jiL:SumOK Tryz.prog 228 (jp jgt):=by
 refine sumwminus.pure_re fun args v cs hF hc=> ?_
 unfold jgt at hF
 split at hF
 ·rename_i x y x' y'
  cases hF
  simp only [jZ,isU_iff,Bool.and_eq_true,decide_eq_true_eq] at hc
  obtain ⟨⟨hx0,hx1⟩,⟨hy0,hy1⟩,⟨hx0',hx1'⟩,⟨hy0',hy1'⟩,-⟩:=hc
  have hb:J0 y y' 0=if y<y' then 1 else 0:=by unfold J0;simp
  refine ⟨_,jjX (a:=u64 _) _ ?_ ?_, ?_⟩
  ·rw [hb];unfold u64 wHi jb;split <;> omega
  ·unfold u64 wLo jb;omega
  ·rw [hb];split <;> simp <;> omega
 ·cases hF
def jmf:List LV→Option (LV×List (Bool×Bool))
 | [.v (.agg [.int .u64 x,.int .u64 y]),.v (.agg [.int .u64 x',.int .u64 y'])]=>some (.v (.one (.bool (decide (jb x y<jb x' y')))),[(isU y,true),(isU y',true)])
 | _=>none
theorem jmg:SumOK Tryz.prog 227 (jp jmf):=by
 refine sumwless.pure_re fun args v cs hF hc=> ?_
 unfold jmf at hF
 split at hF
 ·rename_i x y x' y'
  cases hF
  simp only [jZ,isU_iff,Bool.and_eq_true,decide_eq_true_eq] at hc
  obtain ⟨⟨hy0,hy1⟩,⟨hy0',hy1'⟩,-⟩:=hc
  by_cases h1:x<x'
  ·refine ⟨_,(jH (decide_eq_true h1)).trans (jzk _ ?_),jd⟩
   symm;rw [decide_eq_true_eq];unfold jb;omega
  ·by_cases h2:x=x'
   ·refine ⟨_,(jB (decide_eq_false h1)).trans ((jH (by simpa using h2)).trans (jzk _ ?_)),jd⟩
    rw [decide_eq_decide];subst h2;unfold jb;omega
   ·refine ⟨_,(jB (decide_eq_false h1)).trans ((jB (by simpa using h2)).trans (jzk _ ?_)),jd⟩
    symm;rw [decide_eq_false_iff_not];unfold jb;omega
 ·cases hF
def jzn:List LV→Option (LV×List (Bool×Bool))
 | [.v (.agg [.int .i64 x,.int .u64 y])]=>some (.tup [B1 (jh (jb x y)),.one (.bool (decide (jb x y<0)))],[(isI x,true),(isU y,true)])
 | _=>none
theorem jq8:SumOK Tryz.prog 136 (jp jzn):=by
 refine sumwabs.pure_re fun args v cs hF hc=> ?_
 unfold jzn at hF
 split at hF
 ·rename_i x y
  cases hF
  simp only [jZ,isU_iff,isI_iff,Bool.and_eq_true,decide_eq_true_eq] at hc
  obtain ⟨⟨hx0,hx1⟩,⟨hy0,hy1⟩,-⟩:=hc
  by_cases h:x≥0
  ·have hn:¬jb x y<0:=by unfold jb;omega
   refine ⟨_,(jH (decide_eq_true h)).trans (jgq _ ?_ ?_ ?_),jd⟩
   ·rw [Jo];unfold jh;rw [if_neg hn];unfold u64 wHi jb;omega
   ·unfold jh;rw [if_neg hn];unfold wLo jb;omega
   ·simpa using hn
  ·have hn:jb x y<0:=by unfold jb;omega
   have hux:0≤u64 x∧u64 x<18446744073709551616:=by unfold u64;omega
   refine ⟨_,(jB (decide_eq_false h)).trans (jgq _ ?_ ?_ ?_), ?_⟩
   ·simp only [Jo];rw [jjx y hy0 hy1,jjx (u64 x) hux.1 hux.2];unfold jh;rw [if_pos hn];unfold u64 wHi jb;omega
   ·rw [jjx y hy0 hy1];unfold jh;rw [if_pos hn];unfold u64 wLo jb;omega
   ·simpa using hn
   ·rw [jjx y hy0 hy1];simp;omega
 ·cases hF
def jmh:List LV→Option (LV×List (Bool×Bool))
 | [.v (.agg [.int .u64 x,.int .u64 y]),.v (.one (.bool neg))]=>some (.tup [.one (.int .i64 (if isI (sgn neg (jb x y))=true then sgn neg (jb x y) else 0)),.one (.bool (isI (sgn neg (jb x y))))],[(isU x,true),(isU y,true)])
 | _=>none
theorem jmi:SumOK Tryz.prog 139 (jp jmh):=by
 refine sumsg64.pure_re fun args v cs hF hc=> ?_
 unfold jmh at hF
 split at hF
 ·rename_i x y n
  cases hF
  simp only [jZ,isU_iff,Bool.and_eq_true,decide_eq_true_eq] at hc
  obtain ⟨⟨hx0,hx1⟩,⟨hy0,hy1⟩,-⟩:=hc
  show ∃cs',jmc x y n=_∧_
  have hm:wr .i64 (wr .u64 (0 - y))=w64 (-y):=by rw [Jo,jlc];unfold w64 u64;omega
  by_cases h1:x=0
  ·subst h1
   have hv:jb 0 y=y:=by unfold jb;omega
   rw [hv]
   cases n with
   | false=>
    have hs:sgn false y=y:=rfl
    rw [hs]
    by_cases h2:y>9223372036854775807
    ·have hi:isI y=false:=by unfold isI;simp;omega
     refine ⟨[],(jB rfl).trans ((jH rfl).trans ((jH (decide_eq_true h2)).trans (jgr _ ?_ hi.symm))),jd⟩
     rw [hi];rfl
    ·have hi:isI y=true:=isI_iff.2 (by omega)
     refine ⟨[],(jB rfl).trans ((jH rfl).trans ((jB (decide_eq_false h2)).trans ((jB rfl).trans (jgr _ ?_ hi.symm)))),jd⟩
     rw [hi,if_pos rfl,jlc];unfold w64;omega
   | true=>
    have hs:sgn true y = -y:=rfl
    rw [hs]
    by_cases h2:y>9223372036854775808
    ·have hi:isI (-y)=false:=by unfold isI;simp;omega
     refine ⟨[],(jB rfl).trans ((jB rfl).trans ((jH rfl).trans ((jH (decide_eq_true h2)).trans (jgr _ ?_ hi.symm)))),jd⟩
     rw [hi];rfl
    ·have hi:isI (-y)=true:=isI_iff.2 (by omega)
     refine ⟨[],(jB rfl).trans ((jB rfl).trans ((jH rfl).trans ((jB (decide_eq_false h2)).trans (jgr _ ?_ hi.symm)))),jd⟩
     rw [hi,if_pos rfl,hm];unfold w64;omega
  ·have hi:isI (sgn n (jb x y))=false:=by
    rw [←Bool.not_eq_true,isI_iff]
    cases n <;> unfold sgn jb <;> simp <;> omega
   refine ⟨[],(jH (by simpa using h1)).trans (jgr _ ?_ hi.symm),jd⟩
   rw [hi];rfl
 ·cases hF
def ofS:List LV→Option (LV×List (Bool×Bool))
 | [.v (.one (.int .i64 a))]=>some (.v (W1 a),[(isI a,true)])
 | _=>none
theorem jzo:SumOK Tryz.prog 226 (jp ofS):=by
 refine sumwof.pure_re fun args v cs hF hc=> ?_
 unfold ofS at hF
 split at hF
 ·rename_i a
  cases hF
  simp only [jZ,isU_iff,isI_iff,Bool.and_eq_true,decide_eq_true_eq] at hc
  obtain ⟨⟨hx0,hx1⟩,-⟩:=hc
  refine ⟨_,jjX (a:=a/_) _ ?_ ?_,jd⟩
  ·rw [jhV];unfold wHi;omega
  ·rfl
 ·cases hF
def jzp:List LV→Option (LV×List (Bool×Bool))
 | [.v (.agg [.int .i64 x,.int .u64 y]),.v (.agg [.int .i64 x',.int .u64 y'])]=>
  some (.tup [.agg [.int .i64 (w64 (wHi (jb x y+jb x' y'))),.int .u64 (wLo (jb x y+jb x' y'))],.one (.bool (isW (jb x y+jb x' y')))],[(isI x,true),(isU y,true),(isI x',true),(isU y',true)])
 | _=>none
theorem jmj:SumOK Tryz.prog 189 (jp jzp):=by
 refine sumwadd.pure_re fun args v cs hF hc=> ?_
 unfold jzp at hF
 split at hF
 ·rename_i x y x' y'
  cases hF
  simp only [jZ,isU_iff,isI_iff,Bool.and_eq_true,decide_eq_true_eq] at hc
  obtain ⟨⟨hx0,hx1⟩,⟨hy0,hy1⟩,⟨hx0',hx1'⟩,⟨hy0',hy1'⟩,-⟩:=hc
  have e1:w64 (u64 (u64 x+u64 x'+(y+y'+0)/18446744073709551616))=w64 (wHi (jb x y+jb x' y')):=by unfold w64 u64 wHi jb;omega
  have e2:u64 (y+y'+0)=wLo (jb x y+jb x' y'):=by unfold u64 wLo jb;omega
  have e3:0≤u64 x∧0≤u64 x':=by unfold u64;omega
  by_cases h:(!decide (x<0)==decide (x'<0))=true
  ·have h':¬(x<0↔x'<0):=by
    by_cases a:x<0 <;> by_cases b:x'<0 <;> simp [a,b] at h ⊢
   refine ⟨_,(jH h).trans (jgq _ e1 e2 ?_), ?_⟩
   ·symm;rw [isW_iff];unfold jb;omega
   ·refine ja ?_ (ja ?_ jd) <;> simp only [Bool.and_eq_true,decide_eq_true_eq] <;> (try simp only [Jo]) <;> omega
  ·have h':(x<0↔x'<0):=by
    by_cases a:x<0 <;> by_cases b:x'<0 <;> simp [a,b] at h ⊢
   refine ⟨_,(jB (by simpa using h)).trans (jgq _ e1 e2 ?_), ?_⟩
   ·rw [Bool.eq_iff_iff,isW_iff,beq_iff_eq,decide_eq_decide]
    show (w64 (u64 (u64 x+u64 x'+(y+y'+0)/18446744073709551616))<0↔_)↔_
    rw [e1]
    unfold w64 wHi jb;omega
   ·refine ja ?_ (ja ?_ jd) <;> simp only [Bool.and_eq_true,decide_eq_true_eq] <;> (try simp only [Jo]) <;> omega
 ·cases hF
def S6:FuncId→Option SumK:=more (more (more (more (more (more (more (more (more (S5) 182 (jp jzl)) 183 (jp jzm)) 138 (jp jmd)) 228 (jp jgt)) 227 (jp jmf)) 136 (jp jzn)) 139 (jp jmh)) 226 (jp ofS)) 189 (jp jzp)
theorem sound6:Sound Tryz.prog S6:=(((((((((qY).more jq6).more jq7).more jme).more jiL).more jmg).more jq8).more jmi).more jzo).more jmj
end Go.Proofs.YtnlhpaidmiogbaaGreat

/- wide: Mul, Round, Shift, by every path of their runs (printed by contract.py). -/
namespace Go.Proofs.YtnlhpaidmiogbaaGreat
open Go.Lr
theorem jq9 (a b:Int):(jR Tryz.prog S6 Zl 2000 42 [.v (.one (.int .i64 a)),.v (.one (.int .i64 b))] [] 0 []).map (fun r=>(r.1,r.2.2.2))=some (LV.v (V1.agg [At.int IntKind.i64 (w64 (wHi (sgn (!decide (a<0)==decide (b<0)) (jb (jh a*jh b/18446744073709551616) (jh a*jh b%18446744073709551616))))),At.int IntKind.u64 (wLo (sgn (!decide (a<0)==decide (b<0)) (jb (jh a*jh b/18446744073709551616) (jh a*jh b%18446744073709551616))))]),[(isU (jh a*jh b/18446744073709551616),true),(isU (jh a*jh b%18446744073709551616),true),(isU (jh a),true),(isU (jh b),true),(isI b,true),(isI a,true)]):=by kernel_rfl
def jra (a b:Int):Option (LV×List (Bool×Bool)):=some (LV.v (V1.agg [At.int IntKind.i64 (w64 (wHi (sgn (!decide (a<0)==decide (b<0)) (jb (jh a*jh b/18446744073709551616) (jh a*jh b%18446744073709551616))))),At.int IntKind.u64 (wLo (sgn (!decide (a<0)==decide (b<0)) (jb (jh a*jh b/18446744073709551616) (jh a*jh b%18446744073709551616))))]),[(isU (jh a*jh b/18446744073709551616),true),(isU (jh a*jh b%18446744073709551616),true),(isU (jh a),true),(isU (jh b),true),(isI b,true),(isI a,true)])
def jrb:List LV→Option (LV×List (Bool×Bool))
 | [.v (.one (.int .i64 a)),.v (.one (.int .i64 b))]=>jra a b
 | _=>none
theorem sumwmul:SumOK Tryz.prog 42 (jp jrb):=by
 refine jM (z:=Zl) sound6 (jg sound6 Tryz.func42 (by kernel_rfl)) fun args v cs hF hc=> ?_
 unfold jrb at hF
 split at hF
 ·rename_i a b
  unfold jra at hF
  cases hF
  exact ⟨2000,[],_,jq9 a b,ja (jx (hc)) (ja (jx (jf (hc))) (ja (jx (jf (jf (hc)))) (ja (jx (jf (jf (jf (hc))))) (ja (jx (jf (jf (jf (jf (hc)))))) (ja (jx (jf (jf (jf (jf (jf (hc))))))) (jd))))))⟩
 ·cases hF
theorem jiM (x y s:Int):(jR Tryz.prog S6 Zl 2000 180 [.v (.agg [.int .i64 x,.int .u64 y]),.v (.one (.int .i64 s))] [] 0 [some true,some true,some true,none]).map (fun r=>(r.1,r.2.2.2))=some (LV.tup [V1.one (At.int IntKind.i64 0),V1.one (At.bool false)],[(decide (s<0),true),(decide (s<0),true),(decide (s<0),true)]):=by kernel_rfl
theorem jiN (x y s:Int):(jR Tryz.prog S6 Zl 2000 180 [.v (.agg [.int .i64 x,.int .u64 y]),.v (.one (.int .i64 s))] [] 0 [some false,some false,some false,some true]).map (fun r=>(r.1,r.2.2.2))=some (LV.tup [V1.one (At.int IntKind.i64 0),V1.one (At.bool false)],[(decide (s>126),true),(decide (s<0),false),(decide (s<0),false),(decide (s<0),false)]):=by kernel_rfl
theorem jiO (x y s:Int):(jR Tryz.prog S6 Zl 2000 180 [.v (.agg [.int .i64 x,.int .u64 y]),.v (.one (.int .i64 s))] [] 0 [some false,some false,some false,some false,some true]).map (fun r=>(r.1,r.2.2.2))=some (LV.tup [V1.one (At.int IntKind.i64 (if isI (sgn (decide (jb x y<0)) (jb (wHi (jb (wHi ((jb (wHi (jh (jb x y))) (wLo (jh (jb x y)))+jb (wHi (jb 0 1*jj (wr IntKind.i64 (s - 1)).toNat%340282366920938463463374607431768211456)) (wLo (jb 0 1*jj (wr IntKind.i64 (s - 1)).toNat%340282366920938463463374607431768211456)))%340282366920938463463374607431768211456)) (wLo ((jb (wHi (jh (jb x y))) (wLo (jh (jb x y)))+jb (wHi (jb 0 1*jj (wr IntKind.i64 (s - 1)).toNat%340282366920938463463374607431768211456)) (wLo (jb 0 1*jj (wr IntKind.i64 (s - 1)).toNat%340282366920938463463374607431768211456)))%340282366920938463463374607431768211456))/jj s.toNat)) (wLo (jb (wHi ((jb (wHi (jh (jb x y))) (wLo (jh (jb x y)))+jb (wHi (jb 0 1*jj (wr IntKind.i64 (s - 1)).toNat%340282366920938463463374607431768211456)) (wLo (jb 0 1*jj (wr IntKind.i64 (s - 1)).toNat%340282366920938463463374607431768211456)))%340282366920938463463374607431768211456)) (wLo ((jb (wHi (jh (jb x y))) (wLo (jh (jb x y)))+jb (wHi (jb 0 1*jj (wr IntKind.i64 (s - 1)).toNat%340282366920938463463374607431768211456)) (wLo (jb 0 1*jj (wr IntKind.i64 (s - 1)).toNat%340282366920938463463374607431768211456)))%340282366920938463463374607431768211456))/jj s.toNat))))=true then sgn (decide (jb x y<0)) (jb (wHi (jb (wHi ((jb (wHi (jh (jb x y))) (wLo (jh (jb x y)))+jb (wHi (jb 0 1*jj (wr IntKind.i64 (s - 1)).toNat%340282366920938463463374607431768211456)) (wLo (jb 0 1*jj (wr IntKind.i64 (s - 1)).toNat%340282366920938463463374607431768211456)))%340282366920938463463374607431768211456)) (wLo ((jb (wHi (jh (jb x y))) (wLo (jh (jb x y)))+jb (wHi (jb 0 1*jj (wr IntKind.i64 (s - 1)).toNat%340282366920938463463374607431768211456)) (wLo (jb 0 1*jj (wr IntKind.i64 (s - 1)).toNat%340282366920938463463374607431768211456)))%340282366920938463463374607431768211456))/jj s.toNat)) (wLo (jb (wHi ((jb (wHi (jh (jb x y))) (wLo (jh (jb x y)))+jb (wHi (jb 0 1*jj (wr IntKind.i64 (s - 1)).toNat%340282366920938463463374607431768211456)) (wLo (jb 0 1*jj (wr IntKind.i64 (s - 1)).toNat%340282366920938463463374607431768211456)))%340282366920938463463374607431768211456)) (wLo ((jb (wHi (jh (jb x y))) (wLo (jh (jb x y)))+jb (wHi (jb 0 1*jj (wr IntKind.i64 (s - 1)).toNat%340282366920938463463374607431768211456)) (wLo (jb 0 1*jj (wr IntKind.i64 (s - 1)).toNat%340282366920938463463374607431768211456)))%340282366920938463463374607431768211456))/jj s.toNat))) else 0)),V1.one (At.bool (isI (sgn (decide (jb x y<0)) (jb (wHi (jb (wHi ((jb (wHi (jh (jb x y))) (wLo (jh (jb x y)))+jb (wHi (jb 0 1*jj (wr IntKind.i64 (s - 1)).toNat%340282366920938463463374607431768211456)) (wLo (jb 0 1*jj (wr IntKind.i64 (s - 1)).toNat%340282366920938463463374607431768211456)))%340282366920938463463374607431768211456)) (wLo ((jb (wHi (jh (jb x y))) (wLo (jh (jb x y)))+jb (wHi (jb 0 1*jj (wr IntKind.i64 (s - 1)).toNat%340282366920938463463374607431768211456)) (wLo (jb 0 1*jj (wr IntKind.i64 (s - 1)).toNat%340282366920938463463374607431768211456)))%340282366920938463463374607431768211456))/jj s.toNat)) (wLo (jb (wHi ((jb (wHi (jh (jb x y))) (wLo (jh (jb x y)))+jb (wHi (jb 0 1*jj (wr IntKind.i64 (s - 1)).toNat%340282366920938463463374607431768211456)) (wLo (jb 0 1*jj (wr IntKind.i64 (s - 1)).toNat%340282366920938463463374607431768211456)))%340282366920938463463374607431768211456)) (wLo ((jb (wHi (jh (jb x y))) (wLo (jh (jb x y)))+jb (wHi (jb 0 1*jj (wr IntKind.i64 (s - 1)).toNat%340282366920938463463374607431768211456)) (wLo (jb 0 1*jj (wr IntKind.i64 (s - 1)).toNat%340282366920938463463374607431768211456)))%340282366920938463463374607431768211456))/jj s.toNat))))))],[(isU (wHi (jb (wHi ((jb (wHi (jh (jb x y))) (wLo (jh (jb x y)))+jb (wHi (jb 0 1*jj (wr IntKind.i64 (s - 1)).toNat%340282366920938463463374607431768211456)) (wLo (jb 0 1*jj (wr IntKind.i64 (s - 1)).toNat%340282366920938463463374607431768211456)))%340282366920938463463374607431768211456)) (wLo ((jb (wHi (jh (jb x y))) (wLo (jh (jb x y)))+jb (wHi (jb 0 1*jj (wr IntKind.i64 (s - 1)).toNat%340282366920938463463374607431768211456)) (wLo (jb 0 1*jj (wr IntKind.i64 (s - 1)).toNat%340282366920938463463374607431768211456)))%340282366920938463463374607431768211456))/jj s.toNat)),true),(isU (wLo (jb (wHi ((jb (wHi (jh (jb x y))) (wLo (jh (jb x y)))+jb (wHi (jb 0 1*jj (wr IntKind.i64 (s - 1)).toNat%340282366920938463463374607431768211456)) (wLo (jb 0 1*jj (wr IntKind.i64 (s - 1)).toNat%340282366920938463463374607431768211456)))%340282366920938463463374607431768211456)) (wLo ((jb (wHi (jh (jb x y))) (wLo (jh (jb x y)))+jb (wHi (jb 0 1*jj (wr IntKind.i64 (s - 1)).toNat%340282366920938463463374607431768211456)) (wLo (jb 0 1*jj (wr IntKind.i64 (s - 1)).toNat%340282366920938463463374607431768211456)))%340282366920938463463374607431768211456))/jj s.toNat)),true),(isU (wHi ((jb (wHi (jh (jb x y))) (wLo (jh (jb x y)))+jb (wHi (jb 0 1*jj (wr IntKind.i64 (s - 1)).toNat%340282366920938463463374607431768211456)) (wLo (jb 0 1*jj (wr IntKind.i64 (s - 1)).toNat%340282366920938463463374607431768211456)))%340282366920938463463374607431768211456)),true),(isU (wLo ((jb (wHi (jh (jb x y))) (wLo (jh (jb x y)))+jb (wHi (jb 0 1*jj (wr IntKind.i64 (s - 1)).toNat%340282366920938463463374607431768211456)) (wLo (jb 0 1*jj (wr IntKind.i64 (s - 1)).toNat%340282366920938463463374607431768211456)))%340282366920938463463374607431768211456)),true),(decide (0≤s)&&decide (s<128),true),(isU (wHi (jh (jb x y))),true),(isU (wLo (jh (jb x y))),true),(isU (wHi (jb 0 1*jj (wr IntKind.i64 (s - 1)).toNat%340282366920938463463374607431768211456)),true),(isU (wLo (jb 0 1*jj (wr IntKind.i64 (s - 1)).toNat%340282366920938463463374607431768211456)),true),(isU 0,true),(isU 1,true),(decide (0≤wr IntKind.i64 (s - 1))&&decide (wr IntKind.i64 (s - 1)<128),true),(decide (s>0),true),(isI x,true),(isU y,true),(decide (s>126),false),(decide (s<0),false),(decide (s<0),false),(decide (s<0),false)]):=by kernel_rfl
theorem jiP (x y s:Int):(jR Tryz.prog S6 Zl 2000 180 [.v (.agg [.int .i64 x,.int .u64 y]),.v (.one (.int .i64 s))] [] 0 [some false,some false,some false,some false,some false]).map (fun r=>(r.1,r.2.2.2))=some (LV.tup [V1.one (At.int IntKind.i64 (if isI (sgn (decide (jb x y<0)) (jb (wHi (jb (wHi (jh (jb x y))) (wLo (jh (jb x y)))/jj s.toNat)) (wLo (jb (wHi (jh (jb x y))) (wLo (jh (jb x y)))/jj s.toNat))))=true then sgn (decide (jb x y<0)) (jb (wHi (jb (wHi (jh (jb x y))) (wLo (jh (jb x y)))/jj s.toNat)) (wLo (jb (wHi (jh (jb x y))) (wLo (jh (jb x y)))/jj s.toNat))) else 0)),V1.one (At.bool (isI (sgn (decide (jb x y<0)) (jb (wHi (jb (wHi (jh (jb x y))) (wLo (jh (jb x y)))/jj s.toNat)) (wLo (jb (wHi (jh (jb x y))) (wLo (jh (jb x y)))/jj s.toNat))))))],[(isU (wHi (jb (wHi (jh (jb x y))) (wLo (jh (jb x y)))/jj s.toNat)),true),(isU (wLo (jb (wHi (jh (jb x y))) (wLo (jh (jb x y)))/jj s.toNat)),true),(isU (wHi (jh (jb x y))),true),(isU (wLo (jh (jb x y))),true),(decide (0≤s)&&decide (s<128),true),(decide (s>0),false),(isI x,true),(isU y,true),(decide (s>126),false),(decide (s<0),false),(decide (s<0),false),(decide (s<0),false)]):=by kernel_rfl
def Zg (x y s:Int):Option (LV×List (Bool×Bool)):=
 bif (decide (s<0)) then some (LV.tup [V1.one (At.int IntKind.i64 0),V1.one (At.bool false)],[])
 else
  bif (decide (s>126)) then some (LV.tup [V1.one (At.int IntKind.i64 0),V1.one (At.bool false)],[])
  else
   bif (decide (s>0)) then some (LV.tup [V1.one (At.int IntKind.i64 (if isI (sgn (decide (jb x y<0)) (jb (wHi (jb (wHi ((jb (wHi (jh (jb x y))) (wLo (jh (jb x y)))+jb (wHi (jb 0 1*jj (wr IntKind.i64 (s - 1)).toNat%340282366920938463463374607431768211456)) (wLo (jb 0 1*jj (wr IntKind.i64 (s - 1)).toNat%340282366920938463463374607431768211456)))%340282366920938463463374607431768211456)) (wLo ((jb (wHi (jh (jb x y))) (wLo (jh (jb x y)))+jb (wHi (jb 0 1*jj (wr IntKind.i64 (s - 1)).toNat%340282366920938463463374607431768211456)) (wLo (jb 0 1*jj (wr IntKind.i64 (s - 1)).toNat%340282366920938463463374607431768211456)))%340282366920938463463374607431768211456))/jj s.toNat)) (wLo (jb (wHi ((jb (wHi (jh (jb x y))) (wLo (jh (jb x y)))+jb (wHi (jb 0 1*jj (wr IntKind.i64 (s - 1)).toNat%340282366920938463463374607431768211456)) (wLo (jb 0 1*jj (wr IntKind.i64 (s - 1)).toNat%340282366920938463463374607431768211456)))%340282366920938463463374607431768211456)) (wLo ((jb (wHi (jh (jb x y))) (wLo (jh (jb x y)))+jb (wHi (jb 0 1*jj (wr IntKind.i64 (s - 1)).toNat%340282366920938463463374607431768211456)) (wLo (jb 0 1*jj (wr IntKind.i64 (s - 1)).toNat%340282366920938463463374607431768211456)))%340282366920938463463374607431768211456))/jj s.toNat))))=true then sgn (decide (jb x y<0)) (jb (wHi (jb (wHi ((jb (wHi (jh (jb x y))) (wLo (jh (jb x y)))+jb (wHi (jb 0 1*jj (wr IntKind.i64 (s - 1)).toNat%340282366920938463463374607431768211456)) (wLo (jb 0 1*jj (wr IntKind.i64 (s - 1)).toNat%340282366920938463463374607431768211456)))%340282366920938463463374607431768211456)) (wLo ((jb (wHi (jh (jb x y))) (wLo (jh (jb x y)))+jb (wHi (jb 0 1*jj (wr IntKind.i64 (s - 1)).toNat%340282366920938463463374607431768211456)) (wLo (jb 0 1*jj (wr IntKind.i64 (s - 1)).toNat%340282366920938463463374607431768211456)))%340282366920938463463374607431768211456))/jj s.toNat)) (wLo (jb (wHi ((jb (wHi (jh (jb x y))) (wLo (jh (jb x y)))+jb (wHi (jb 0 1*jj (wr IntKind.i64 (s - 1)).toNat%340282366920938463463374607431768211456)) (wLo (jb 0 1*jj (wr IntKind.i64 (s - 1)).toNat%340282366920938463463374607431768211456)))%340282366920938463463374607431768211456)) (wLo ((jb (wHi (jh (jb x y))) (wLo (jh (jb x y)))+jb (wHi (jb 0 1*jj (wr IntKind.i64 (s - 1)).toNat%340282366920938463463374607431768211456)) (wLo (jb 0 1*jj (wr IntKind.i64 (s - 1)).toNat%340282366920938463463374607431768211456)))%340282366920938463463374607431768211456))/jj s.toNat))) else 0)),V1.one (At.bool (isI (sgn (decide (jb x y<0)) (jb (wHi (jb (wHi ((jb (wHi (jh (jb x y))) (wLo (jh (jb x y)))+jb (wHi (jb 0 1*jj (wr IntKind.i64 (s - 1)).toNat%340282366920938463463374607431768211456)) (wLo (jb 0 1*jj (wr IntKind.i64 (s - 1)).toNat%340282366920938463463374607431768211456)))%340282366920938463463374607431768211456)) (wLo ((jb (wHi (jh (jb x y))) (wLo (jh (jb x y)))+jb (wHi (jb 0 1*jj (wr IntKind.i64 (s - 1)).toNat%340282366920938463463374607431768211456)) (wLo (jb 0 1*jj (wr IntKind.i64 (s - 1)).toNat%340282366920938463463374607431768211456)))%340282366920938463463374607431768211456))/jj s.toNat)) (wLo (jb (wHi ((jb (wHi (jh (jb x y))) (wLo (jh (jb x y)))+jb (wHi (jb 0 1*jj (wr IntKind.i64 (s - 1)).toNat%340282366920938463463374607431768211456)) (wLo (jb 0 1*jj (wr IntKind.i64 (s - 1)).toNat%340282366920938463463374607431768211456)))%340282366920938463463374607431768211456)) (wLo ((jb (wHi (jh (jb x y))) (wLo (jh (jb x y)))+jb (wHi (jb 0 1*jj (wr IntKind.i64 (s - 1)).toNat%340282366920938463463374607431768211456)) (wLo (jb 0 1*jj (wr IntKind.i64 (s - 1)).toNat%340282366920938463463374607431768211456)))%340282366920938463463374607431768211456))/jj s.toNat))))))],[(isU (wHi (jb (wHi ((jb (wHi (jh (jb x y))) (wLo (jh (jb x y)))+jb (wHi (jb 0 1*jj (wr IntKind.i64 (s - 1)).toNat%340282366920938463463374607431768211456)) (wLo (jb 0 1*jj (wr IntKind.i64 (s - 1)).toNat%340282366920938463463374607431768211456)))%340282366920938463463374607431768211456)) (wLo ((jb (wHi (jh (jb x y))) (wLo (jh (jb x y)))+jb (wHi (jb 0 1*jj (wr IntKind.i64 (s - 1)).toNat%340282366920938463463374607431768211456)) (wLo (jb 0 1*jj (wr IntKind.i64 (s - 1)).toNat%340282366920938463463374607431768211456)))%340282366920938463463374607431768211456))/jj s.toNat)),true),(isU (wLo (jb (wHi ((jb (wHi (jh (jb x y))) (wLo (jh (jb x y)))+jb (wHi (jb 0 1*jj (wr IntKind.i64 (s - 1)).toNat%340282366920938463463374607431768211456)) (wLo (jb 0 1*jj (wr IntKind.i64 (s - 1)).toNat%340282366920938463463374607431768211456)))%340282366920938463463374607431768211456)) (wLo ((jb (wHi (jh (jb x y))) (wLo (jh (jb x y)))+jb (wHi (jb 0 1*jj (wr IntKind.i64 (s - 1)).toNat%340282366920938463463374607431768211456)) (wLo (jb 0 1*jj (wr IntKind.i64 (s - 1)).toNat%340282366920938463463374607431768211456)))%340282366920938463463374607431768211456))/jj s.toNat)),true),(isU (wHi ((jb (wHi (jh (jb x y))) (wLo (jh (jb x y)))+jb (wHi (jb 0 1*jj (wr IntKind.i64 (s - 1)).toNat%340282366920938463463374607431768211456)) (wLo (jb 0 1*jj (wr IntKind.i64 (s - 1)).toNat%340282366920938463463374607431768211456)))%340282366920938463463374607431768211456)),true),(isU (wLo ((jb (wHi (jh (jb x y))) (wLo (jh (jb x y)))+jb (wHi (jb 0 1*jj (wr IntKind.i64 (s - 1)).toNat%340282366920938463463374607431768211456)) (wLo (jb 0 1*jj (wr IntKind.i64 (s - 1)).toNat%340282366920938463463374607431768211456)))%340282366920938463463374607431768211456)),true),(decide (0≤s)&&decide (s<128),true),(isU (wHi (jh (jb x y))),true),(isU (wLo (jh (jb x y))),true),(isU (wHi (jb 0 1*jj (wr IntKind.i64 (s - 1)).toNat%340282366920938463463374607431768211456)),true),(isU (wLo (jb 0 1*jj (wr IntKind.i64 (s - 1)).toNat%340282366920938463463374607431768211456)),true),(isU 0,true),(isU 1,true),(decide (0≤wr IntKind.i64 (s - 1))&&decide (wr IntKind.i64 (s - 1)<128),true),(isI x,true),(isU y,true)])
   else some (LV.tup [V1.one (At.int IntKind.i64 (if isI (sgn (decide (jb x y<0)) (jb (wHi (jb (wHi (jh (jb x y))) (wLo (jh (jb x y)))/jj s.toNat)) (wLo (jb (wHi (jh (jb x y))) (wLo (jh (jb x y)))/jj s.toNat))))=true then sgn (decide (jb x y<0)) (jb (wHi (jb (wHi (jh (jb x y))) (wLo (jh (jb x y)))/jj s.toNat)) (wLo (jb (wHi (jh (jb x y))) (wLo (jh (jb x y)))/jj s.toNat))) else 0)),V1.one (At.bool (isI (sgn (decide (jb x y<0)) (jb (wHi (jb (wHi (jh (jb x y))) (wLo (jh (jb x y)))/jj s.toNat)) (wLo (jb (wHi (jh (jb x y))) (wLo (jh (jb x y)))/jj s.toNat))))))],[(isU (wHi (jb (wHi (jh (jb x y))) (wLo (jh (jb x y)))/jj s.toNat)),true),(isU (wLo (jb (wHi (jh (jb x y))) (wLo (jh (jb x y)))/jj s.toNat)),true),(isU (wHi (jh (jb x y))),true),(isU (wLo (jh (jb x y))),true),(decide (0≤s)&&decide (s<128),true),(isI x,true),(isU y,true)])
def jgu:List LV→Option (LV×List (Bool×Bool))
 | [.v (.agg [.int .i64 x,.int .u64 y]),.v (.one (.int .i64 s))]=>Zg x y s
 | _=>none
theorem sumwround:SumOK Tryz.prog 180 (jp jgu):=by
 refine jM (z:=Zl) sound6 (jg sound6 Tryz.func180 (by kernel_rfl)) fun args v cs hF hc=> ?_
 unfold jgu at hF
 split at hF
 ·rename_i x y s
  unfold Zg at hF
  rcases ji (decide (s<0)) with h0 | h0
  ·rw [jH h0] at hF
   cases hF
   exact ⟨2000,[some true,some true,some true,none],_,jiM x y s,ja (h0) (ja (h0) (ja (h0) (jd)))⟩
  ·rw [jB h0] at hF
   rcases ji (decide (s>126)) with h1 | h1
   ·rw [jH h1] at hF
    cases hF
    exact ⟨2000,[some false,some false,some false,some true],_,jiN x y s,ja (h1) (ja (h0) (ja (h0) (ja (h0) (jd))))⟩
   ·rw [jB h1] at hF
    rcases ji (decide (s>0)) with h2 | h2
    ·rw [jH h2] at hF
     cases hF
     exact ⟨2000,[some false,some false,some false,some false,some true],_,jiO x y s,ja (jx (hc)) (ja (jx (jf (hc))) (ja (jx (jf (jf (hc)))) (ja (jx (jf (jf (jf (hc))))) (ja (jx (jf (jf (jf (jf (hc)))))) (ja (jx (jf (jf (jf (jf (jf (hc))))))) (ja (jx (jf (jf (jf (jf (jf (jf (hc)))))))) (ja (jx (jf (jf (jf (jf (jf (jf (jf (hc))))))))) (ja (jx (jf (jf (jf (jf (jf (jf (jf (jf (hc)))))))))) (ja (jx (jf (jf (jf (jf (jf (jf (jf (jf (jf (hc))))))))))) (ja (jx (jf (jf (jf (jf (jf (jf (jf (jf (jf (jf (hc)))))))))))) (ja (jx (jf (jf (jf (jf (jf (jf (jf (jf (jf (jf (jf (hc))))))))))))) (ja (h2) (ja (jx (jf (jf (jf (jf (jf (jf (jf (jf (jf (jf (jf (jf (hc)))))))))))))) (ja (jx (jf (jf (jf (jf (jf (jf (jf (jf (jf (jf (jf (jf (jf (hc))))))))))))))) (ja (h1) (ja (h0) (ja (h0) (ja (h0) (jd)))))))))))))))))))⟩
    ·rw [jB h2] at hF
     cases hF
     exact ⟨2000,[some false,some false,some false,some false,some false],_,jiP x y s,ja (jx (hc)) (ja (jx (jf (hc))) (ja (jx (jf (jf (hc)))) (ja (jx (jf (jf (jf (hc))))) (ja (jx (jf (jf (jf (jf (hc)))))) (ja (h2) (ja (jx (jf (jf (jf (jf (jf (hc))))))) (ja (jx (jf (jf (jf (jf (jf (jf (hc)))))))) (ja (h1) (ja (h0) (ja (h0) (ja (h0) (jd))))))))))))⟩
 ·cases hF
theorem jiQ (a s:Int):(jR Tryz.prog S6 Zl 2000 113 [.v (.one (.int .i64 a)),.v (.one (.int .i64 s))] [] 0 [some true,some true,some true,none]).map (fun r=>(r.1,r.2.2.2))=some (LV.tup [V1.agg [At.int IntKind.i64 0,At.int IntKind.u64 0],V1.one (At.bool false)],[(decide (s<0),true),(decide (s<0),true),(decide (s<0),true)]):=by kernel_rfl
theorem jiR (a s:Int):(jR Tryz.prog S6 Zl 2000 113 [.v (.one (.int .i64 a)),.v (.one (.int .i64 s))] [] 0 [some false,some false,some false,some true]).map (fun r=>(r.1,r.2.2.2))=some (LV.tup [V1.agg [At.int IntKind.i64 0,At.int IntKind.u64 0],V1.one (At.bool false)],[(decide (s>127),true),(decide (s<0),false),(decide (s<0),false),(decide (s<0),false)]):=by kernel_rfl
theorem jiS (a s:Int):(jR Tryz.prog S6 Zl 2000 113 [.v (.one (.int .i64 a)),.v (.one (.int .i64 s))] [] 0 [some false,some false,some false,some false,some true]).map (fun r=>(r.1,r.2.2.2))=some (LV.tup [V1.agg [At.int IntKind.i64 0,At.int IntKind.u64 0],V1.one (At.bool false)],[(!(wHi (jb (wHi (jb 0 (jh a)*jj s.toNat%340282366920938463463374607431768211456)) (wLo (jb 0 (jh a)*jj s.toNat%340282366920938463463374607431768211456))/jj s.toNat)==0&&(wLo (jb (wHi (jb 0 (jh a)*jj s.toNat%340282366920938463463374607431768211456)) (wLo (jb 0 (jh a)*jj s.toNat%340282366920938463463374607431768211456))/jj s.toNat)==jh a&&true)),true),(isU (wHi (jb 0 (jh a)*jj s.toNat%340282366920938463463374607431768211456)),true),(isU (wLo (jb 0 (jh a)*jj s.toNat%340282366920938463463374607431768211456)),true),(decide (0≤s)&&decide (s<128),true),(isU 0,true),(isU (jh a),true),(decide (0≤s)&&decide (s<128),true),(isI a,true),(decide (s>127),false),(decide (s<0),false),(decide (s<0),false),(decide (s<0),false)]):=by kernel_rfl
theorem jiT (a s:Int):(jR Tryz.prog S6 Zl 2000 113 [.v (.one (.int .i64 a)),.v (.one (.int .i64 s))] [] 0 [some false,some false,some false,some false,some false,some true]).map (fun r=>(r.1,r.2.2.2))=some (LV.tup [V1.agg [At.int IntKind.i64 0,At.int IntKind.u64 0],V1.one (At.bool false)],[(!isW (sgn (decide (a<0)) (jb (wHi (jb 0 (jh a)*jj s.toNat%340282366920938463463374607431768211456)) (wLo (jb 0 (jh a)*jj s.toNat%340282366920938463463374607431768211456)))),true),(isU (wHi (jb 0 (jh a)*jj s.toNat%340282366920938463463374607431768211456)),true),(isU (wLo (jb 0 (jh a)*jj s.toNat%340282366920938463463374607431768211456)),true),(!(wHi (jb (wHi (jb 0 (jh a)*jj s.toNat%340282366920938463463374607431768211456)) (wLo (jb 0 (jh a)*jj s.toNat%340282366920938463463374607431768211456))/jj s.toNat)==0&&(wLo (jb (wHi (jb 0 (jh a)*jj s.toNat%340282366920938463463374607431768211456)) (wLo (jb 0 (jh a)*jj s.toNat%340282366920938463463374607431768211456))/jj s.toNat)==jh a&&true)),false),(isU (wHi (jb 0 (jh a)*jj s.toNat%340282366920938463463374607431768211456)),true),(isU (wLo (jb 0 (jh a)*jj s.toNat%340282366920938463463374607431768211456)),true),(decide (0≤s)&&decide (s<128),true),(isU 0,true),(isU (jh a),true),(decide (0≤s)&&decide (s<128),true),(isI a,true),(decide (s>127),false),(decide (s<0),false),(decide (s<0),false),(decide (s<0),false)]):=by kernel_rfl
theorem jiU (a s:Int):(jR Tryz.prog S6 Zl 2000 113 [.v (.one (.int .i64 a)),.v (.one (.int .i64 s))] [] 0 [some false,some false,some false,some false,some false,some false]).map (fun r=>(r.1,r.2.2.2))=some (LV.tup [V1.agg [At.int IntKind.i64 (w64 (wHi (sgn (decide (a<0)) (jb (wHi (jb 0 (jh a)*jj s.toNat%340282366920938463463374607431768211456)) (wLo (jb 0 (jh a)*jj s.toNat%340282366920938463463374607431768211456)))))),At.int IntKind.u64 (wLo (sgn (decide (a<0)) (jb (wHi (jb 0 (jh a)*jj s.toNat%340282366920938463463374607431768211456)) (wLo (jb 0 (jh a)*jj s.toNat%340282366920938463463374607431768211456)))))],V1.one (At.bool true)],[(!isW (sgn (decide (a<0)) (jb (wHi (jb 0 (jh a)*jj s.toNat%340282366920938463463374607431768211456)) (wLo (jb 0 (jh a)*jj s.toNat%340282366920938463463374607431768211456)))),false),(isU (wHi (jb 0 (jh a)*jj s.toNat%340282366920938463463374607431768211456)),true),(isU (wLo (jb 0 (jh a)*jj s.toNat%340282366920938463463374607431768211456)),true),(!(wHi (jb (wHi (jb 0 (jh a)*jj s.toNat%340282366920938463463374607431768211456)) (wLo (jb 0 (jh a)*jj s.toNat%340282366920938463463374607431768211456))/jj s.toNat)==0&&(wLo (jb (wHi (jb 0 (jh a)*jj s.toNat%340282366920938463463374607431768211456)) (wLo (jb 0 (jh a)*jj s.toNat%340282366920938463463374607431768211456))/jj s.toNat)==jh a&&true)),false),(isU (wHi (jb 0 (jh a)*jj s.toNat%340282366920938463463374607431768211456)),true),(isU (wLo (jb 0 (jh a)*jj s.toNat%340282366920938463463374607431768211456)),true),(decide (0≤s)&&decide (s<128),true),(isU 0,true),(isU (jh a),true),(decide (0≤s)&&decide (s<128),true),(isI a,true),(decide (s>127),false),(decide (s<0),false),(decide (s<0),false),(decide (s<0),false)]):=by kernel_rfl
def Zh (a s:Int):Option (LV×List (Bool×Bool)):=
 bif (decide (s<0)) then some (LV.tup [V1.agg [At.int IntKind.i64 0,At.int IntKind.u64 0],V1.one (At.bool false)],[])
 else
  bif (decide (s>127)) then some (LV.tup [V1.agg [At.int IntKind.i64 0,At.int IntKind.u64 0],V1.one (At.bool false)],[])
  else
   bif (!(wHi (jb (wHi (jb 0 (jh a)*jj s.toNat%340282366920938463463374607431768211456)) (wLo (jb 0 (jh a)*jj s.toNat%340282366920938463463374607431768211456))/jj s.toNat)==0&&(wLo (jb (wHi (jb 0 (jh a)*jj s.toNat%340282366920938463463374607431768211456)) (wLo (jb 0 (jh a)*jj s.toNat%340282366920938463463374607431768211456))/jj s.toNat)==jh a&&true))) then some (LV.tup [V1.agg [At.int IntKind.i64 0,At.int IntKind.u64 0],V1.one (At.bool false)],[(isU (wHi (jb 0 (jh a)*jj s.toNat%340282366920938463463374607431768211456)),true),(isU (wLo (jb 0 (jh a)*jj s.toNat%340282366920938463463374607431768211456)),true),(decide (0≤s)&&decide (s<128),true),(isU 0,true),(isU (jh a),true),(isI a,true)])
   else
    bif (!isW (sgn (decide (a<0)) (jb (wHi (jb 0 (jh a)*jj s.toNat%340282366920938463463374607431768211456)) (wLo (jb 0 (jh a)*jj s.toNat%340282366920938463463374607431768211456))))) then some (LV.tup [V1.agg [At.int IntKind.i64 0,At.int IntKind.u64 0],V1.one (At.bool false)],[(isU (wHi (jb 0 (jh a)*jj s.toNat%340282366920938463463374607431768211456)),true),(isU (wLo (jb 0 (jh a)*jj s.toNat%340282366920938463463374607431768211456)),true),(decide (0≤s)&&decide (s<128),true),(isU 0,true),(isU (jh a),true),(isI a,true)])
    else some (LV.tup [V1.agg [At.int IntKind.i64 (w64 (wHi (sgn (decide (a<0)) (jb (wHi (jb 0 (jh a)*jj s.toNat%340282366920938463463374607431768211456)) (wLo (jb 0 (jh a)*jj s.toNat%340282366920938463463374607431768211456)))))),At.int IntKind.u64 (wLo (sgn (decide (a<0)) (jb (wHi (jb 0 (jh a)*jj s.toNat%340282366920938463463374607431768211456)) (wLo (jb 0 (jh a)*jj s.toNat%340282366920938463463374607431768211456)))))],V1.one (At.bool true)],[(isU (wHi (jb 0 (jh a)*jj s.toNat%340282366920938463463374607431768211456)),true),(isU (wLo (jb 0 (jh a)*jj s.toNat%340282366920938463463374607431768211456)),true),(decide (0≤s)&&decide (s<128),true),(isU 0,true),(isU (jh a),true),(isI a,true)])
def jgv:List LV→Option (LV×List (Bool×Bool))
 | [.v (.one (.int .i64 a)),.v (.one (.int .i64 s))]=>Zh a s
 | _=>none
theorem sumwshift:SumOK Tryz.prog 113 (jp jgv):=by
 refine jM (z:=Zl) sound6 (jg sound6 Tryz.func113 (by kernel_rfl)) fun args v cs hF hc=> ?_
 unfold jgv at hF
 split at hF
 ·rename_i a s
  unfold Zh at hF
  rcases ji (decide (s<0)) with h0 | h0
  ·rw [jH h0] at hF
   cases hF
   exact ⟨2000,[some true,some true,some true,none],_,jiQ a s,ja (h0) (ja (h0) (ja (h0) (jd)))⟩
  ·rw [jB h0] at hF
   rcases ji (decide (s>127)) with h1 | h1
   ·rw [jH h1] at hF
    cases hF
    exact ⟨2000,[some false,some false,some false,some true],_,jiR a s,ja (h1) (ja (h0) (ja (h0) (ja (h0) (jd))))⟩
   ·rw [jB h1] at hF
    rcases ji (!(wHi (jb (wHi (jb 0 (jh a)*jj s.toNat%340282366920938463463374607431768211456)) (wLo (jb 0 (jh a)*jj s.toNat%340282366920938463463374607431768211456))/jj s.toNat)==0&&(wLo (jb (wHi (jb 0 (jh a)*jj s.toNat%340282366920938463463374607431768211456)) (wLo (jb 0 (jh a)*jj s.toNat%340282366920938463463374607431768211456))/jj s.toNat)==jh a&&true))) with h2 | h2
    ·rw [jH h2] at hF
     cases hF
     exact ⟨2000,[some false,some false,some false,some false,some true],_,jiS a s,ja (h2) (ja (jx (hc)) (ja (jx (jf (hc))) (ja (jx (jf (jf (hc)))) (ja (jx (jf (jf (jf (hc))))) (ja (jx (jf (jf (jf (jf (hc)))))) (ja (jx (jf (jf (hc)))) (ja (jx (jf (jf (jf (jf (jf (hc))))))) (ja (h1) (ja (h0) (ja (h0) (ja (h0) (jd))))))))))))⟩
    ·rw [jB h2] at hF
     rcases ji (!isW (sgn (decide (a<0)) (jb (wHi (jb 0 (jh a)*jj s.toNat%340282366920938463463374607431768211456)) (wLo (jb 0 (jh a)*jj s.toNat%340282366920938463463374607431768211456))))) with h3 | h3
     ·rw [jH h3] at hF
      cases hF
      exact ⟨2000,[some false,some false,some false,some false,some false,some true],_,jiT a s,ja (h3) (ja (jx (hc)) (ja (jx (jf (hc))) (ja (h2) (ja (jx (hc)) (ja (jx (jf (hc))) (ja (jx (jf (jf (hc)))) (ja (jx (jf (jf (jf (hc))))) (ja (jx (jf (jf (jf (jf (hc)))))) (ja (jx (jf (jf (hc)))) (ja (jx (jf (jf (jf (jf (jf (hc))))))) (ja (h1) (ja (h0) (ja (h0) (ja (h0) (jd)))))))))))))))⟩
     ·rw [jB h3] at hF
      cases hF
      exact ⟨2000,[some false,some false,some false,some false,some false,some false],_,jiU a s,ja (h3) (ja (jx (hc)) (ja (jx (jf (hc))) (ja (h2) (ja (jx (hc)) (ja (jx (jf (hc))) (ja (jx (jf (jf (hc)))) (ja (jx (jf (jf (jf (hc))))) (ja (jx (jf (jf (jf (jf (hc)))))) (ja (jx (jf (jf (hc)))) (ja (jx (jf (jf (jf (jf (jf (hc))))))) (ja (h1) (ja (h0) (ja (h0) (ja (h0) (jd)))))))))))))))⟩
 ·cases hF
end Go.Proofs.YtnlhpaidmiogbaaGreat

/- wide: what Mul, Round, Shift come to, in numbers. -/
namespace Go.Proofs.YtnlhpaidmiogbaaGreat
open Go.Lr
set_option linter.unusedVariables false
set_option linter.unusedSimpArgs false
theorem jvF {a:Int} (h0: -9223372036854775808≤a) (h1:a<9223372036854775808):jh a≤9223372036854775808:=by unfold jh;split <;> omega
theorem Yg (v:Int):isU (wLo v)=true:=isU_iff.2 (qG v)
theorem jgw {v:Int} (h0: -170141183460469231731687303715884105728≤v) (h1:v<170141183460469231731687303715884105728):w64 (wHi v)=wHi v:=xu (qa v h0 h1).1 (qa v h0 h1).2
def jzq:List LV→Option (LV×List (Bool×Bool))
 | [.v (.one (.int .i64 a)),.v (.one (.int .i64 b))]=>some (.v (W1 (a*b)),[(isI a,true),(isI b,true)])
 | _=>none
theorem jrc:SumOK Tryz.prog 42 (jp jzq):=by
 refine sumwmul.pure_re fun args v cs hF hc=> ?_
 unfold jzq at hF
 split at hF
 ·rename_i a b
  cases hF
  simp only [jZ,isI_iff] at hc
  obtain ⟨⟨ha0,ha1⟩,⟨hb0,hb1⟩,-⟩:=hc
  have pa:=jvF ha0 ha1
  have pb:=jvF hb0 hb1
  obtain ⟨q0,q1⟩:=yH pa pb
  have na:=qC a
  have nb:=qC b
  have n0:=Int.mul_nonneg na nb
  have n1:jh a*jh b≤9223372036854775808*9223372036854775808:=Int.mul_le_mul pa pb nb (by omega)
  have e:jb (jh a*jh b/18446744073709551616) (jh a*jh b%18446744073709551616)=jh a*jh b:=jW _
  refine ⟨_,jjX (a:=w64 _) _ ?_ ?_, ?_⟩
  ·rw [e,jfn,jgw (by omega) (by omega)]
  ·rw [e,jfn]
  ·simp only [jZ,isU_iff,isI_iff]
   refine ⟨⟨?_, ?_⟩,⟨?_, ?_⟩,⟨?_, ?_⟩,⟨?_, ?_⟩,⟨?_, ?_⟩,⟨?_, ?_⟩,jd⟩ <;> omega
 ·cases hF
theorem Zi (s:Nat):0≤yW s∧yW s≤jj s:=by
 cases s with
 | zero=>exact ⟨by decide,by decide⟩
 | succ n=>have:=kg n;have:=zk n;exact ⟨by show 0≤jj n;omega,by show jj n≤jj (n+1);omega⟩
def jgx:List LV→Option (LV×List (Bool×Bool))
 | [.v (.agg [.int .i64 x,.int .u64 y]),.v (.one (.int .i64 s))]=>
  some (.tup [.one (.int .i64 (if isI (kB (jb x y) s.toNat)=true then kB (jb x y) s.toNat else 0)),.one (.bool (isI (kB (jb x y) s.toNat)))],[(isI x,true),(isU y,true),(decide (0≤s)&&decide (s≤126),true)])
 | _=>none
theorem jiV:SumOK Tryz.prog 180 (jp jgx):=by
 refine sumwround.pure_re fun args v cs hF hc=> ?_
 unfold jgx at hF
 split at hF
 ·rename_i x y s
  cases hF
  simp only [jZ,isI_iff,isU_iff,Bool.and_eq_true,decide_eq_true_eq] at hc
  obtain ⟨⟨hx0,hx1⟩,⟨hy0,hy1⟩,⟨hs0,hs1⟩,-⟩:=hc
  show ∃cs',Zg x y s=_∧_
  have hv0: -170141183460469231731687303715884105728≤jb x y:=by unfold jb;omega
  have hv1:jb x y<170141183460469231731687303715884105728:=by unfold jb;omega
  generalize hv:jb x y=v at *
  have va:jh v≤170141183460469231731687303715884105728:=by unfold jh;split <;> omega
  have va0:=qC v
  unfold Zg
  rw [jB (decide_eq_false (by omega)),jB (decide_eq_false (by omega))]
  simp only [jW,hv]
  have e01:jb 0 1=1:=rfl
  have hp:=kg s.toNat
  by_cases h:s>0
  ·have hw:wr .i64 (s - 1)=s - 1:=jgs (by omega) (by omega)
   have hn:s.toNat=(s - 1).toNat+1:=by omega
   have hp1:=kg (s - 1).toNat
   have hp2:jj (s - 1).toNat≤85070591730234615865843651857942052864:=ja7 (n:=126) _ (by omega) (by decide)
   have e1:1*jj (s - 1).toNat%340282366920938463463374607431768211456=jj (s - 1).toNat:=by rw [Int.one_mul];omega
   have e2:(jh v+jj (s - 1).toNat)%340282366920938463463374607431768211456=jh v+jj (s - 1).toNat:=by omega
   have q0:0≤(jh v+jj (s - 1).toNat)/jj s.toNat:=Int.ediv_nonneg (by omega) (by omega)
   have q1:(jh v+jj (s - 1).toNat)/jj s.toNat≤jh v+jj (s - 1).toNat:=Int.ediv_le_self _ (by omega)
   have er:kB v s.toNat=sgn (decide (v<0)) ((jh v+jj (s - 1).toNat)/jj s.toNat):=by
    unfold kB;congr 2;rw [hn];rfl
   rw [jH (decide_eq_true h)]
   simp only [hw,e01,e1,e2,←er]
   refine ⟨_,rfl, ?_⟩
   simp only [jZ,isU_iff,isI_iff,Bool.and_eq_true,decide_eq_true_eq]
   repeat' apply And.intro
   all_goals first | exact jd | (unfold wHi;omega) | (unfold wLo;omega) | omega
  ·have hs:s=0:=by omega
   subst hs
   have e1:jj (Int.toNat 0)=1:=rfl
   have er:kB v (Int.toNat 0)=sgn (decide (v<0)) (jh v/jj (Int.toNat 0)):=by
    unfold kB;congr 2;show jh v+0=_;omega
   rw [jB (decide_eq_false h)]
   simp only [←er]
   refine ⟨_,rfl, ?_⟩
   simp only [jZ,isU_iff,isI_iff,Bool.and_eq_true,decide_eq_true_eq,e1,Int.ediv_one]
   repeat' apply And.intro
   all_goals first | exact jd | (unfold wHi;omega) | (unfold wLo;omega) | omega
 ·cases hF
def jgy:List LV→Option (LV×List (Bool×Bool))
 | [.v (.one (.int .i64 a)),.v (.one (.int .i64 s))]=>
  some (.tup [W1 (a*jj s.toNat),.one (.bool true)],[(isI a,true),(decide (0≤s)&&decide (s≤127),true),(decide (jh a*jj s.toNat<170141183460469231731687303715884105728),true)])
 | _=>none
theorem jiW:SumOK Tryz.prog 113 (jp jgy):=by
 refine sumwshift.pure_re fun args v cs hF hc=> ?_
 unfold jgy at hF
 split at hF
 ·rename_i a s
  cases hF
  simp only [jZ,isI_iff,isU_iff,Bool.and_eq_true,decide_eq_true_eq] at hc
  obtain ⟨⟨ha0,ha1⟩,⟨hs0,hs1⟩,hb,-⟩:=hc
  show ∃cs',Zh a s=_∧_
  have pa:=jvF ha0 ha1
  have na:=qC a
  have hp:=kg s.toNat
  have n0:0≤jh a*jj s.toNat:=Int.mul_nonneg na (by omega)
  have e0:jb 0 (jh a)=jh a:=by unfold jb;omega
  have e1:jh a*jj s.toNat%340282366920938463463374607431768211456=jh a*jj s.toNat:=by omega
  have e2:jh a*jj s.toNat/jj s.toNat=jh a:=Int.mul_ediv_cancel _ (by omega)
  have e3:sgn (decide (a<0)) (jh a*jj s.toNat)=a*jj s.toNat:=by
   by_cases h:a<0
   ·unfold sgn jh;simp [h]
    grind
   ·unfold sgn jh;simp [h]
  have e4:wHi (jh a)=0:=by unfold wHi;omega
  have e5:wLo (jh a)=jh a:=by unfold wLo;omega
  have hR: -170141183460469231731687303715884105728≤a*jj s.toNat∧a*jj s.toNat<170141183460469231731687303715884105728:=by
   have h4:jh (a*jj s.toNat)=jh a*jj s.toNat:=by rw [YH,yG (a:=jj s.toNat) (by omega)]
   have h5:jh (a*jj s.toNat)<170141183460469231731687303715884105728:=by rw [h4];exact hb
   generalize a*jj s.toNat=t at h5 ⊢
   unfold jh at h5
   split at h5 <;> omega
  unfold Zh
  rw [jB (decide_eq_false (by omega)),jB (decide_eq_false (by omega))]
  simp only [jW,e0,e1,e2,e3,e4,e5]
  rw [jB (by simp),jB (by rw [isW_iff.2 ⟨hR.1,hR.2⟩];rfl)]
  refine ⟨_,jgq _ (jgw hR.1 hR.2) rfl rfl, ?_⟩
  simp only [jZ,isU_iff,isI_iff,Bool.and_eq_true,decide_eq_true_eq]
  repeat' apply And.intro
  all_goals first | exact jd | (unfold wHi;omega) | (unfold wLo;omega) | omega
 ·cases hF
end Go.Proofs.YtnlhpaidmiogbaaGreat

/- math/bits.Len64 and LeadingZeros64: what they come to. -/
namespace Go.Proofs.YtnlhpaidmiogbaaGreat
open Go.Lr
theorem Jl:∀(f x:Nat),0<x→x<2 ^ f→1≤Lib.bitLenAux f x∧Lib.bitLenAux f x≤f∧2 ^ (Lib.bitLenAux f x - 1)≤x∧x<2 ^ Lib.bitLenAux f x
 | 0,x,h0,h1=>by simp at h1;omega
 | f+1,x,h0,h1=>by
  simp only [Lib.bitLenAux]
  rw [if_neg (by omega)]
  by_cases h:x/2=0
  ·have:x=1:=by omega
   subst this
   have:Lib.bitLenAux f (1/2)=0:=by cases f <;> simp [Lib.bitLenAux]
   rw [this]
   exact ⟨by omega,by omega,by decide,by decide⟩
  ·obtain ⟨a,b,c,d⟩:=Jl f (x/2) (by omega) (by rw [Nat.pow_succ] at h1;omega)
   generalize Lib.bitLenAux f (x/2)=n at *
   refine ⟨by omega,by omega, ?_, ?_⟩
   ·have e:1+n - 1=(n - 1)+1:=by omega
    rw [e,Nat.pow_succ];omega
   ·have e:1+n=n+1:=by omega
    rw [e,Nat.pow_succ];omega
theorem ja6 (x:Nat) (h0:0<x) (h1:x<2 ^ 64):1≤Lib.bitLen x∧Lib.bitLen x≤64∧2 ^ (Lib.bitLen x - 1)≤x∧x<2 ^ Lib.bitLen x:=Jl 64 x h0 h1
def je9:List LV→Option (LV×List (Bool×Bool))
 | [.v (.one (.int .u64 x))]=>some (.v (.one (.int .i64 (Lib.bitLen x.toNat))),[(isU x,true)])
 | _=>none
theorem jhU:SumOK Tryz.prog 231 (jp je9):=by
 refine xD fun args v cs hF hc w=> ?_
 unfold je9 at hF
 split at hF
 ·rename_i x
  cases hF
  obtain ⟨h0,h1⟩:=isU_iff.1 (hc (isU x,true) (by simp))
  refine qb (jg sound0 Tryz.func231 (by kernel_rfl)) ((jla x w h0 (by omega)).mono fun e w' he=>⟨he.1, ?_⟩)
  rw [he.2];exact .refl _ _
 ·cases hF
def S7:FuncId→Option SumK:=more (more (more (more S6 231 (jp je9)) 42 (jp jzq)) 180 (jp jgx)) 113 (jp jgy)
theorem sound7:Sound Tryz.prog S7:=(((sound6.more jhU).more jrc).more jiV).more jiW
def lzV (x:Int):Int:=64 - (Lib.bitLen x.toNat:Int)
def lzS:List LV→Option (LV×List (Bool×Bool))
 | [.v (.one (.int .u64 x))]=>some (.v (.one (.int .i64 (lzV x))),[(isU x,true),(decide (0<x),true)])
 | _=>none
theorem jx5 (x:Int):(jR Tryz.prog S7 Zl 200 190 [.v (.one (.int .u64 x))] [] 0 []).map (fun r=>(r.1,r.2.2.2))=some (.v (.one (.int .i64 (wr .i64 (64 - (Lib.bitLen x.toNat:Int))))),[(isU x,true)]):=by kernel_rfl
theorem jcr {x:Int} (h0:0<x) (h1:x<18446744073709551616):0≤lzV x∧lzV x≤63∧9223372036854775808≤x*jj (lzV x).toNat∧x*jj (lzV x).toNat<18446744073709551616:=by
 obtain ⟨a,b,c,d⟩:=ja6 x.toNat (by omega) (by omega)
 unfold lzV
 generalize Lib.bitLen x.toNat=n at *
 have e:(64 - (n:Int)).toNat=64 - n:=by omega
 rw [e]
 refine ⟨by omega,by omega, ?_, ?_⟩
 ·have h2:jj (n - 1)*jj (64 - n)=9223372036854775808:=by
   rw [←xd,show n - 1+(64 - n)=63 by omega];decide
  have h3:jj (n - 1)≤x:=by
   have:((2 ^ (n - 1):Nat):Int)≤(x.toNat:Int):=Int.ofNat_le.2 c
   have e2:jj (n - 1)=((2 ^ (n - 1):Nat):Int):=rfl
   omega
  calc (9223372036854775808:Int)=jj (n - 1)*jj (64 - n):=h2.symm
   _≤x*jj (64 - n):=Int.mul_le_mul_of_nonneg_right h3 (Int.le_of_lt (kg _))
 ·have h2:jj n*jj (64 - n)=18446744073709551616:=by
   rw [←xd,show n+(64 - n)=64 by omega];decide
  have h3:x<jj n:=by
   have:(x.toNat:Int)<((2 ^ n:Nat):Int):=Int.ofNat_lt.2 d
   have e2:jj n=((2 ^ n:Nat):Int):=rfl
   omega
  calc x*jj (64 - n)<jj n*jj (64 - n):=Int.mul_lt_mul_of_pos_right h3 (kg _)
   _=18446744073709551616:=h2
theorem jx6:SumOK Tryz.prog 190 (jp lzS):=by
 refine jM (z:=Zl) sound7 (jg sound7 Tryz.func190 (by kernel_rfl)) fun args v cs hF hc=> ?_
 unfold lzS at hF
 split at hF
 ·rename_i x
  cases hF
  simp only [jZ,isU_iff,decide_eq_true_eq] at hc
  obtain ⟨⟨h0,h1⟩,h2,-⟩:=hc
  have h:=jx5 x
  obtain ⟨a,b,_,_⟩:=jcr h2 h1
  have e:wr .i64 (64 - (Lib.bitLen x.toNat:Int))=lzV x:=jgs (by unfold lzV at a;omega) (by unfold lzV at b;omega)
  rw [e] at h
  exact ⟨200,[],_,h,by simp only [jZ,isU_iff];exact ⟨⟨h0,h1⟩,jd⟩⟩
 ·cases hF
def S8:FuncId→Option SumK:=more S7 190 (jp lzS)
theorem sound8:Sound Tryz.prog S8:=sound7.more jx6
end Go.Proofs.YtnlhpaidmiogbaaGreat

/- wide.Root: its walk, round by round. -/
namespace Go.Proofs.YtnlhpaidmiogbaaGreat
open Go.Lr
set_option linter.unusedVariables false
set_option linter.unusedSimpArgs false
theorem jyf (dead:Nat→Value) (x y:Int):jI [4,5] [1,2] (xA Tryz.prog S8 Zl 200 (kV 3 (jk Tryz.prog 184)) (Kst.st ⟨kC 0 [.v (.agg [.int .i64 x,.int .u64 y])],[],0⟩ 51 dead [some false]))=some (Ex.normal,[LV.v (V1.one (At.ptr 1 0)),LV.v (V1.one (At.ptr 2 0))],[some { ty:=203,fr:=(0,0),es:=0,cells:=[At.int IntKind.u64 (wr IntKind.u64 x),At.int IntKind.u64 y] },some { ty:=203,fr:=(0,0),es:=0,cells:=[At.int IntKind.u64 0,At.int IntKind.u64 0] }],[(decide (x<0),false)]):=by kernel_rfl
theorem jql (dead:Nat→Value) (x y:Int):jI [2,3] [] (exec Tryz.prog S8 Zl 200 (.code (jk Tryz.prog 184)) (Kst.st ⟨kC 0 [.v (.agg [.int .i64 x,.int .u64 y])],[],0⟩ 51 dead [some true]))=some (Ex.ret,[LV.v (V1.one (At.int IntKind.i64 0)),LV.v (V1.one (At.bool false))],[],[(decide (x<0),true)]):=by kernel_rfl
theorem jyg (dead:Nat→Value) (p q x y:Int):jI [4,5,6] [1,2] (exec Tryz.prog S8 Zl 200 (.code (c1 (c1 (qE 3 (jk Tryz.prog 184))))) (Kst.st ⟨[(4,.v (.one (.ptr 1 0))),(5,.v (.one (.ptr 2 0)))],[(1,⟨203,(0,0),0,[.int .u64 p,.int .u64 q]⟩),(2,⟨203,(0,0),0,[.int .u64 x,.int .u64 y]⟩)],3⟩ 51 dead []))=some (Ex.normal,[LV.v (V1.one (At.ptr 1 0)),LV.v (V1.one (At.ptr 2 0)),LV.v (V1.one (At.int IntKind.i64 126))],[some { ty:=203,fr:=(0,0),es:=0,cells:=[At.int IntKind.u64 p,At.int IntKind.u64 q] },some { ty:=203,fr:=(0,0),es:=0,cells:=[At.int IntKind.u64 x,At.int IntKind.u64 y] }],[]):=by kernel_rfl
theorem jyh (dead:Nat→Value) (t p q x y:Int):jI [4,5] [1,2] (exec Tryz.prog S8 Zl 200 (.code (c1 (c1 (c2 (c1 (qE 3 (jk Tryz.prog 184))))))) (Kst.st ⟨[(4,.v (.one (.ptr 1 0))),(5,.v (.one (.ptr 2 0))),(6,.v (.one (.int .i64 t)))],[(1,⟨203,(0,0),0,[.int .u64 p,.int .u64 q]⟩),(2,⟨203,(0,0),0,[.int .u64 x,.int .u64 y]⟩)],3⟩ 51 dead [some false]))=some (Ex.exit 0,[LV.v (V1.one (At.ptr 1 0)),LV.v (V1.one (At.ptr 2 0))],[some { ty:=203,fr:=(0,0),es:=0,cells:=[At.int IntKind.u64 p,At.int IntKind.u64 q] },some { ty:=203,fr:=(0,0),es:=0,cells:=[At.int IntKind.u64 x,At.int IntKind.u64 y] }],[(decide (t≥0),false)]):=by kernel_rfl
theorem jyi (dead:Nat→Value) (t p q x y:Int):jI [4,5,6] [1,2] (exec Tryz.prog S8 Zl 200 (.code (c1 (c1 (c2 (c1 (qE 3 (jk Tryz.prog 184))))))) (Kst.st ⟨[(4,.v (.one (.ptr 1 0))),(5,.v (.one (.ptr 2 0))),(6,.v (.one (.int .i64 t)))],[(1,⟨203,(0,0),0,[.int .u64 p,.int .u64 q]⟩),(2,⟨203,(0,0),0,[.int .u64 x,.int .u64 y]⟩)],3⟩ 51 dead [some true,some true]))=some (Ex.normal,[LV.v (V1.one (At.ptr 1 0)),LV.v (V1.one (At.ptr 2 0)),LV.v (V1.one (At.int IntKind.i64 (wr IntKind.i64 (t - 2))))],[some { ty:=203,fr:=(0,0),es:=0,cells:=[At.int IntKind.u64 (wHi ((jb p q - jb (wHi ((jb x y+jb (wHi (jb 0 1*jj t.toNat%340282366920938463463374607431768211456)) (wLo (jb 0 1*jj t.toNat%340282366920938463463374607431768211456)))%340282366920938463463374607431768211456)) (wLo ((jb x y+jb (wHi (jb 0 1*jj t.toNat%340282366920938463463374607431768211456)) (wLo (jb 0 1*jj t.toNat%340282366920938463463374607431768211456)))%340282366920938463463374607431768211456)))%340282366920938463463374607431768211456)),At.int IntKind.u64 (wLo ((jb p q - jb (wHi ((jb x y+jb (wHi (jb 0 1*jj t.toNat%340282366920938463463374607431768211456)) (wLo (jb 0 1*jj t.toNat%340282366920938463463374607431768211456)))%340282366920938463463374607431768211456)) (wLo ((jb x y+jb (wHi (jb 0 1*jj t.toNat%340282366920938463463374607431768211456)) (wLo (jb 0 1*jj t.toNat%340282366920938463463374607431768211456)))%340282366920938463463374607431768211456)))%340282366920938463463374607431768211456))] },some { ty:=203,fr:=(0,0),es:=0,cells:=[At.int IntKind.u64 (wHi ((jb (wHi (jb x y/jj (Int.toNat 1))) (wLo (jb x y/jj (Int.toNat 1)))+jb (wHi (jb 0 1*jj t.toNat%340282366920938463463374607431768211456)) (wLo (jb 0 1*jj t.toNat%340282366920938463463374607431768211456)))%340282366920938463463374607431768211456)),At.int IntKind.u64 (wLo ((jb (wHi (jb x y/jj (Int.toNat 1))) (wLo (jb x y/jj (Int.toNat 1)))+jb (wHi (jb 0 1*jj t.toNat%340282366920938463463374607431768211456)) (wLo (jb 0 1*jj t.toNat%340282366920938463463374607431768211456)))%340282366920938463463374607431768211456))] }],[(isU (wHi (jb x y/jj (Int.toNat 1))),true),(isU (wLo (jb x y/jj (Int.toNat 1))),true),(isU (wHi (jb 0 1*jj t.toNat%340282366920938463463374607431768211456)),true),(isU (wLo (jb 0 1*jj t.toNat%340282366920938463463374607431768211456)),true),(isU p,true),(isU q,true),(isU (wHi ((jb x y+jb (wHi (jb 0 1*jj t.toNat%340282366920938463463374607431768211456)) (wLo (jb 0 1*jj t.toNat%340282366920938463463374607431768211456)))%340282366920938463463374607431768211456)),true),(isU (wLo ((jb x y+jb (wHi (jb 0 1*jj t.toNat%340282366920938463463374607431768211456)) (wLo (jb 0 1*jj t.toNat%340282366920938463463374607431768211456)))%340282366920938463463374607431768211456)),true),(!decide (jb p q<jb (wHi ((jb x y+jb (wHi (jb 0 1*jj t.toNat%340282366920938463463374607431768211456)) (wLo (jb 0 1*jj t.toNat%340282366920938463463374607431768211456)))%340282366920938463463374607431768211456)) (wLo ((jb x y+jb (wHi (jb 0 1*jj t.toNat%340282366920938463463374607431768211456)) (wLo (jb 0 1*jj t.toNat%340282366920938463463374607431768211456)))%340282366920938463463374607431768211456))),true),(isU q,true),(isU (wLo ((jb x y+jb (wHi (jb 0 1*jj t.toNat%340282366920938463463374607431768211456)) (wLo (jb 0 1*jj t.toNat%340282366920938463463374607431768211456)))%340282366920938463463374607431768211456)),true),(isU x,true),(isU y,true),(decide (0≤1)&&decide (1<128),true),(isU x,true),(isU y,true),(isU (wHi (jb 0 1*jj t.toNat%340282366920938463463374607431768211456)),true),(isU (wLo (jb 0 1*jj t.toNat%340282366920938463463374607431768211456)),true),(isU 0,true),(isU 1,true),(decide (0≤t)&&decide (t<128),true),(decide (t≥0),true)]):=by kernel_rfl
theorem jyj (dead:Nat→Value) (t p q x y:Int):jI [4,5,6] [1,2] (exec Tryz.prog S8 Zl 200 (.code (c1 (c1 (c2 (c1 (qE 3 (jk Tryz.prog 184))))))) (Kst.st ⟨[(4,.v (.one (.ptr 1 0))),(5,.v (.one (.ptr 2 0))),(6,.v (.one (.int .i64 t)))],[(1,⟨203,(0,0),0,[.int .u64 p,.int .u64 q]⟩),(2,⟨203,(0,0),0,[.int .u64 x,.int .u64 y]⟩)],3⟩ 51 dead [some true,some false]))=some (Ex.normal,[LV.v (V1.one (At.ptr 1 0)),LV.v (V1.one (At.ptr 2 0)),LV.v (V1.one (At.int IntKind.i64 (wr IntKind.i64 (t - 2))))],[some { ty:=203,fr:=(0,0),es:=0,cells:=[At.int IntKind.u64 p,At.int IntKind.u64 q] },some { ty:=203,fr:=(0,0),es:=0,cells:=[At.int IntKind.u64 (wHi (jb x y/jj (Int.toNat 1))),At.int IntKind.u64 (wLo (jb x y/jj (Int.toNat 1)))] }],[(!decide (jb p q<jb (wHi ((jb x y+jb (wHi (jb 0 1*jj t.toNat%340282366920938463463374607431768211456)) (wLo (jb 0 1*jj t.toNat%340282366920938463463374607431768211456)))%340282366920938463463374607431768211456)) (wLo ((jb x y+jb (wHi (jb 0 1*jj t.toNat%340282366920938463463374607431768211456)) (wLo (jb 0 1*jj t.toNat%340282366920938463463374607431768211456)))%340282366920938463463374607431768211456))),false),(isU q,true),(isU (wLo ((jb x y+jb (wHi (jb 0 1*jj t.toNat%340282366920938463463374607431768211456)) (wLo (jb 0 1*jj t.toNat%340282366920938463463374607431768211456)))%340282366920938463463374607431768211456)),true),(isU x,true),(isU y,true),(decide (0≤1)&&decide (1<128),true),(isU x,true),(isU y,true),(isU (wHi (jb 0 1*jj t.toNat%340282366920938463463374607431768211456)),true),(isU (wLo (jb 0 1*jj t.toNat%340282366920938463463374607431768211456)),true),(isU 0,true),(isU 1,true),(decide (0≤t)&&decide (t<128),true),(decide (t≥0),true)]):=by kernel_rfl
theorem jyk (dead:Nat→Value) (p q x y:Int):jI [2,3] [] (exec Tryz.prog S8 Zl 200 (.code (c2 (qE 3 (jk Tryz.prog 184)))) (Kst.st ⟨[(4,.v (.one (.ptr 1 0))),(5,.v (.one (.ptr 2 0)))],[(1,⟨203,(0,0),0,[.int .u64 p,.int .u64 q]⟩),(2,⟨203,(0,0),0,[.int .u64 x,.int .u64 y]⟩)],3⟩ 51 dead [some true]))=some (Ex.ret,[LV.v (V1.one (At.int IntKind.i64 (if isI (sgn false (jb (wHi ((jb x y+jb 0 1)%340282366920938463463374607431768211456)) (wLo ((jb x y+jb 0 1)%340282366920938463463374607431768211456))))=true then sgn false (jb (wHi ((jb x y+jb 0 1)%340282366920938463463374607431768211456)) (wLo ((jb x y+jb 0 1)%340282366920938463463374607431768211456))) else 0))),LV.v (V1.one (At.bool (isI (sgn false (jb (wHi ((jb x y+jb 0 1)%340282366920938463463374607431768211456)) (wLo ((jb x y+jb 0 1)%340282366920938463463374607431768211456)))))))],[],[(isU (wHi ((jb x y+jb 0 1)%340282366920938463463374607431768211456)),true),(isU (wLo ((jb x y+jb 0 1)%340282366920938463463374607431768211456)),true),(isU x,true),(isU y,true),(isU 0,true),(isU 1,true),(decide (jb x y<jb p q),true),(isU y,true),(isU q,true)]):=by kernel_rfl
theorem jyl (dead:Nat→Value) (p q x y:Int):jI [2,3] [] (exec Tryz.prog S8 Zl 200 (.code (c2 (qE 3 (jk Tryz.prog 184)))) (Kst.st ⟨[(4,.v (.one (.ptr 1 0))),(5,.v (.one (.ptr 2 0)))],[(1,⟨203,(0,0),0,[.int .u64 p,.int .u64 q]⟩),(2,⟨203,(0,0),0,[.int .u64 x,.int .u64 y]⟩)],3⟩ 51 dead [some false]))=some (Ex.ret,[LV.v (V1.one (At.int IntKind.i64 (if isI (sgn false (jb x y))=true then sgn false (jb x y) else 0))),LV.v (V1.one (At.bool (isI (sgn false (jb x y)))))],[],[(isU x,true),(isU y,true),(decide (jb x y<jb p q),false),(isU y,true),(isU q,true)]):=by kernel_rfl
noncomputable def YI:Code:=c2 (c1 (qE 3 (jk Tryz.prog 184)))
abbrev P1:LV:= .v (.one (.ptr 1 0))
abbrev P2:LV:= .v (.one (.ptr 2 0))
def jbg (v:Int):Blk:=⟨203,(0,0),0,[.int .u64 (wHi v),.int .u64 (wLo v)]⟩
def rtA (p r t:Int):Kst:=⟨[(4,P1),(5,P2),(6,.v (.one (.int .i64 t)))],[(1,jbg p),(2,jbg r)],3⟩
def rtB (p r:Int):Kst:=⟨[(4,P1),(5,P2)],[(1,jbg p),(2,jbg r)],3⟩
theorem jh4 (N:Int) (hN:N<170141183460469231731687303715884105728) (m:Nat) (hm:m≤63) (p r:Int) (h:RtInv N (m+1) p r):
  To Tryz.prog 51 (c1 (c1 YI)) (rtA p r (2*(m:Int))) .normal (rtA (if p<r+jj (2*m) then p else p - (r+jj (2*m))) (if p<r+jj (2*m) then r/2 else r/2+jj (2*m)) (2*(m:Int) - 2)):=by
 obtain ⟨b0,b1,b2,b3⟩:=h.bd
 have ht:(2*(m:Int)).toNat=2*m:=by omega
 have hb0:=kg (2*m)
 have hb1:jj (2*m)≤85070591730234615865843651857942052864:=ja7 (n:=126) _ (by omega) (by decide)
 have e0:jb 0 1=1:=rfl
 have e1:jj (Int.toNat 1)=2:=rfl
 have e2:1*jj (2*m)%340282366920938463463374607431768211456=jj (2*m):=by rw [Int.one_mul];omega
 have e3:(r+jj (2*m))%340282366920938463463374607431768211456=r+jj (2*m):=by omega
 have e5:(r/2+jj (2*m))%340282366920938463463374607431768211456=r/2+jj (2*m):=by omega
 have e6:wr .i64 (2*(m:Int) - 2)=2*(m:Int) - 2:=jgs (by omega) (by omega)
 by_cases hlt:p<r+jj (2*m)
 ·rw [if_pos hlt,if_pos hlt]
  refine To.run (z:=Zl) sound8 (slots:=[4,5,6]) (blks:=[1,2]) (vs:=[P1,P2,.v (.one (.int .i64 (2*(m:Int) - 2)))]) (bs:=[jbg p,jbg (r/2)]) (nbB:=3) (fun dead=>jyj dead (2*(m:Int)) (wHi p) (wLo p) (wHi r) (wLo r)) rfl (by rw [e6]) (by simp only [jW,e1];rfl) ?_ (jy (by rfl)) (Nat.le_refl _)
  ·simp only [jW,e0,e1,ht,e2,e3,jZ,ql,isU_iff,Bool.and_eq_true,decide_eq_true_eq]
   refine ⟨by simpa using hlt, ?_⟩
   repeat' apply And.intro
   all_goals first | exact jd | (unfold wHi;omega) | (unfold wLo;omega) | omega
 ·rw [if_neg hlt,if_neg hlt]
  have e4:(p - (r+jj (2*m)))%340282366920938463463374607431768211456=p - (r+jj (2*m)):=by omega
  refine To.run (z:=Zl) sound8 (slots:=[4,5,6]) (blks:=[1,2]) (vs:=[P1,P2,.v (.one (.int .i64 (2*(m:Int) - 2)))]) (bs:=[jbg (p - (r+jj (2*m))),jbg (r/2+jj (2*m))]) (nbB:=3) (fun dead=>jyi dead (2*(m:Int)) (wHi p) (wLo p) (wHi r) (wLo r)) rfl (by rw [e6]) (by simp only [jW,e0,e1,ht,e2,e3,e4,e5];rfl) ?_ (jy (by rfl)) (Nat.le_refl _)
  ·simp only [jW,e0,e1,ht,e2,e3,e4,e5,jZ,ql,isU_iff,Bool.and_eq_true,decide_eq_true_eq]
   repeat' apply And.intro
   all_goals first | exact jd | (unfold wHi;omega) | (unfold wLo;omega) | omega | (simp;omega)
theorem jlp (p r:Int):To Tryz.prog 51 (c1 (c1 YI)) (rtA p r (-2)) (.exit 0) (rtB p r):=
 To.exec (z:=Zl) sound8 (slots:=[4,5]) (blks:=[1,2]) (vs:=[P1,P2]) (bs:=[jbg p,jbg r]) (nbB:=3) (fun dead=>jyh dead (-2) (wHi p) (wLo p) (wHi r) (wLo r)) (by simp) (jy (by rfl)) (Nat.le_refl _)
theorem jfq (N:Int) (hN:N<170141183460469231731687303715884105728):∀(m:Nat),m≤64→∀p r,RtInv N m p r→Rd Tryz.prog 51 (c1 (c1 YI)) (m+1) (rtA p r (2*(m:Int) - 2)) (.exit 0) (rtB (rtL m p r).1 (rtL m p r).2)
 | 0,_,p,r,h=>Rd.last (by simp) (jlp p r)
 | m+1,hm,p,r,h=>by
  have hs:=jh4 N hN m (by omega) p r h
  have e:2*((m+1:Nat):Int) - 2=2*(m:Int):=by omega
  rw [e]
  refine Rd.next hs ?_
  simp only [rtL]
  by_cases hlt:p<r+jj (2*m)
  ·rw [if_pos hlt,if_pos hlt,decide_eq_true hlt]
   exact jfq N hN m (by omega) _ _ (h.half hlt)
  ·rw [if_neg hlt,if_neg hlt,decide_eq_false hlt]
   exact jfq N hN m (by omega) _ _ (h.take hlt)
def jh5:List LV→Option (LV×List (Bool×Bool))
 | [.v (.agg [.int .i64 x,.int .u64 y])]=>
  match decide (x<0) with
  | true=>some (.tup [.one (.int .i64 0),.one (.bool false)],[])
  | false=>some (.tup [.one (.int .i64 (if isI (kp (jb x y))=true then kp (jb x y) else 0)),.one (.bool (isI (kp (jb x y))))],[(isI x,true),(isU y,true)])
 | _=>none
theorem sumRoot:SumOK Tryz.prog 184 (jp jh5):=by
 refine xD fun args v cs hF hc w=> ?_
 unfold jh5 at hF
 split at hF
 ·rename_i x y
  refine qb (jg sound8 Tryz.func184 (by kernel_rfl)) ?_
  split at hF
  ·rename_i hx
   cases hF
   refine yy (c:=jk Tryz.prog 184) (e:= .ret) (B:=⟨[(2,.v (.one (.int .i64 0))),(3,.v (.one (.bool false)))],[],0⟩) Tryz.func184 (by kernel_rfl) (Nat.le_of_ble_eq_true (by kernel_rfl)) (Nat.le_of_ble_eq_true (by kernel_rfl)) rfl ?_ (.inr rfl) (fun dead=>by kernel_rfl) rfl w
   exact To.exec (z:=Zl) sound8 (slots:=[2,3]) (blks:=[]) (vs:=[_,_]) (bs:=[]) (nbB:=0) (fun dead=>jql dead x y) (by simpa using hx) (jy (by rfl)) (Nat.le_refl _)
  ·rename_i hx
   cases hF
   simp only [jZ,isU_iff,isI_iff] at hc
   obtain ⟨⟨hx0,hx1⟩,⟨hy0,hy1⟩,-⟩:=hc
   have hx':0≤x:=by simpa using hx
   have hN0:0≤jb x y:=by unfold jb;omega
   have hN1:jb x y<170141183460469231731687303715884105728:=by unfold jb;omega
   have hux:wr .u64 x=x:=kI hx' (by omega)
   have hhx:wHi (jb x y)=x:=jld x y hy0 hy1
   have hhy:wLo (jb x y)=y:=jle x y hy0 hy1
   generalize hN:jb x y=N at *
   have hI:=(RtInv.start hN0 (by omega)).run
   have hbd:=hI.bd
   have hrd:=jfq N hN1 64 (by omega) N 0 (RtInv.start hN0 (by omega))
   refine yy (c:=jk Tryz.prog 184) (e:= .ret) (B:=⟨[(2,.v (.one (.int .i64 (if isI (kp N)=true then kp N else 0)))),(3,.v (.one (.bool (isI (kp N)))))],[],3⟩) Tryz.func184 (by kernel_rfl) (Nat.le_of_ble_eq_true (by kernel_rfl)) (Nat.le_of_ble_eq_true (by kernel_rfl)) rfl ?_ (.inr rfl) (fun dead=>by kernel_rfl) rfl w
   refine To.spineR (z:=Zl) sound8 (k:=3) (slots:=[4,5]) (blks:=[1,2]) (vs:=[P1,P2]) (bs:=[jbg N,jbg 0]) (nbB:=3) (by kernel_rfl) (fun dead=>jyf dead x y) rfl rfl (by rw [hux];unfold jbg;rw [hhx,hhy];rfl) (by simpa using hx) (jy (by rfl)) (Nat.zero_le _) ?_
   ·refine To.seq (by kernel_rfl) (To.seq (by kernel_rfl) (To.exec (z:=Zl) sound8 (slots:=[4,5,6]) (blks:=[1,2]) (vs:=[P1,P2,.v (.one (.int .i64 126))]) (bs:=[jbg N,jbg 0]) (nbB:=3) (fun dead=>jyg dead (wHi N) (wLo N) (wHi 0) (wLo 0)) (by simp) (jy (by rfl)) (Nat.le_refl _))
     (To.block (id:=0) (by kernel_rfl) (To.loop (by kernel_rfl) hrd) (.inl rfl))) ?_
    unfold kp
    generalize rtL 64 N 0=q at *
    obtain ⟨p,r⟩:=q
    simp only at hbd ⊢
    obtain ⟨b0,b1,b2,b3⟩:=hbd
    have e0:jb 0 1=1:=rfl
    by_cases hlt:r<p
    ·rw [if_pos hlt]
     have e1:(r+1)%340282366920938463463374607431768211456=r+1:=by omega
     refine To.run (z:=Zl) sound8 (slots:=[2,3]) (blks:=[]) (vs:=[.v (.one (.int .i64 (if isI (r+1)=true then r+1 else 0))),.v (.one (.bool (isI (r+1))))]) (bs:=[]) (nbB:=3) (fun dead=>jyk dead (wHi p) (wLo p) (wHi r) (wLo r)) rfl (by simp only [jW,e0,e1];rfl) rfl ?_ (jy (by rfl)) (Nat.le_refl _)
     ·simp only [jW,e0,e1,jZ,ql,isU_iff,decide_eq_true_eq]
      repeat' apply And.intro
      all_goals first | exact jd | (unfold wHi;omega) | (unfold wLo;omega) | omega
    ·rw [if_neg hlt]
     refine To.run (z:=Zl) sound8 (slots:=[2,3]) (blks:=[]) (vs:=[.v (.one (.int .i64 (if isI r=true then r else 0))),.v (.one (.bool (isI r)))]) (bs:=[]) (nbB:=3) (fun dead=>jyl dead (wHi p) (wLo p) (wHi r) (wLo r)) rfl (by simp only [jW];rfl) rfl ?_ (jy (by rfl)) (Nat.le_refl _)
     ·simp only [jW,jZ,ql,isU_iff,decide_eq_false_iff_not]
      repeat' apply And.intro
      all_goals first | exact jd | (unfold wHi;omega) | (unfold wLo;omega) | omega
 ·cases hF
end Go.Proofs.YtnlhpaidmiogbaaGreat

/- math/bits.Div64: its pieces' runs (printed). -/
namespace Go.Proofs.YtnlhpaidmiogbaaGreat
open Go.Lr
set_option linter.unusedVariables false
def U (n:Int):LV:= .v (.one (.int .u64 n))
theorem dvA (dead:Nat→Value) (h l y:Int):jI [2,8,9,10,11,13,14,15,16] [] (xA Tryz.prog S8 Zl 200 (kV 14 (jk Tryz.prog 137)) (Kst.st ⟨kC 0 [.v (.one (.int .u64 h)),.v (.one (.int .u64 l)),.v (.one (.int .u64 y))],[],0⟩ 135 dead [some false,some false,some false]))=some (Ex.normal,[LV.v (V1.one (At.int IntKind.u64 (wr IntKind.u64 (y*jj (min (wr IntKind.u64 (lzV y)).toNat IntKind.u64.bits))))),LV.v (V1.one (At.int IntKind.u64 (wr IntKind.u64 (lzV y)))),LV.v (V1.one (At.int IntKind.u64 (wr IntKind.u64 (y*jj (min (wr IntKind.u64 (lzV y)).toNat IntKind.u64.bits))/jj (min (Int.toNat 32) IntKind.u64.bits)))),LV.v (V1.one (At.int IntKind.u64 (Int.ofNat ((u64 (wr IntKind.u64 (y*jj (min (wr IntKind.u64 (lzV y)).toNat IntKind.u64.bits)))).toNat.land (u64 4294967295).toNat)))),LV.v (V1.one (At.int IntKind.u64 (Int.ofNat ((u64 (wr IntKind.u64 (h*jj (min (wr IntKind.u64 (lzV y)).toNat IntKind.u64.bits)))).toNat.lor (u64 (l/jj (min (wr IntKind.u64 (64 - wr IntKind.u64 (lzV y))).toNat IntKind.u64.bits))).toNat)))),LV.v (V1.one (At.int IntKind.u64 (wr IntKind.u64 (l*jj (min (wr IntKind.u64 (lzV y)).toNat IntKind.u64.bits))/jj (min (Int.toNat 32) IntKind.u64.bits)))),LV.v (V1.one (At.int IntKind.u64 (Int.ofNat ((u64 (wr IntKind.u64 (l*jj (min (wr IntKind.u64 (lzV y)).toNat IntKind.u64.bits)))).toNat.land (u64 4294967295).toNat)))),LV.v (V1.one (At.int IntKind.u64 (wr IntKind.u64 ((Int.ofNat ((u64 (wr IntKind.u64 (h*jj (min (wr IntKind.u64 (lzV y)).toNat IntKind.u64.bits)))).toNat.lor (u64 (l/jj (min (wr IntKind.u64 (64 - wr IntKind.u64 (lzV y))).toNat IntKind.u64.bits))).toNat)).tdiv (wr IntKind.u64 (y*jj (min (wr IntKind.u64 (lzV y)).toNat IntKind.u64.bits))/jj (min (Int.toNat 32) IntKind.u64.bits)))))),LV.v (V1.one (At.int IntKind.u64 (wr IntKind.u64 (Int.ofNat ((u64 (wr IntKind.u64 (h*jj (min (wr IntKind.u64 (lzV y)).toNat IntKind.u64.bits)))).toNat.lor (u64 (l/jj (min (wr IntKind.u64 (64 - wr IntKind.u64 (lzV y))).toNat IntKind.u64.bits))).toNat) - wr IntKind.u64 (wr IntKind.u64 ((Int.ofNat ((u64 (wr IntKind.u64 (h*jj (min (wr IntKind.u64 (lzV y)).toNat IntKind.u64.bits)))).toNat.lor (u64 (l/jj (min (wr IntKind.u64 (64 - wr IntKind.u64 (lzV y))).toNat IntKind.u64.bits))).toNat)).tdiv (wr IntKind.u64 (y*jj (min (wr IntKind.u64 (lzV y)).toNat IntKind.u64.bits))/jj (min (Int.toNat 32) IntKind.u64.bits)))*(wr IntKind.u64 (y*jj (min (wr IntKind.u64 (lzV y)).toNat IntKind.u64.bits))/jj (min (Int.toNat 32) IntKind.u64.bits)))))))],[],[(decide (wr IntKind.u64 (y*jj (min (wr IntKind.u64 (lzV y)).toNat IntKind.u64.bits))/jj (min (Int.toNat 32) IntKind.u64.bits)=0),false),(decide (wr IntKind.u64 (lzV y)<0),false),(decide (wr IntKind.u64 (64 - wr IntKind.u64 (lzV y))<0),false),(decide (wr IntKind.u64 (lzV y)<0),false),(decide (wr IntKind.u64 (lzV y)<0),false),(isU y,true),(decide (0<y),true),(h==0,false),(decide (y≤h),false),(y==0,false)]):=by kernel_rfl
theorem dvZ (dead:Nat→Value) (h l y:Int):jI [6,7] [] (exec Tryz.prog S8 Zl 200 (.code (jk Tryz.prog 137)) (Kst.st ⟨kC 0 [.v (.one (.int .u64 h)),.v (.one (.int .u64 l)),.v (.one (.int .u64 y))],[],0⟩ 135 dead [some false,some false,some true]))=some (Ex.ret,[LV.v (V1.one (At.int IntKind.u64 (wr IntKind.u64 (l.tdiv y)))),LV.v (V1.one (At.int IntKind.u64 (l.tmod y)))],[],[(decide (y=0),false),(decide (y=0),false),(h==0,true),(decide (y≤h),false),(y==0,false)]):=by kernel_rfl
theorem dvM (dead:Nat→Value) (y s n1 n0 u32 u1 u0 q r:Int):jI [2,8,9,10,14,15,17,18,16] [] (xA Tryz.prog S8 Zl 200 (kV 3 (c2 (qE 14 (jk Tryz.prog 137)))) (Kst.st ⟨[(2,U y),(8,U s),(9,U n1),(10,U n0),(11,U u32),(13,U u1),(14,U u0),(15,U q),(16,U r)],[],0⟩ 135 dead []))=some (Ex.normal,[LV.v (V1.one (At.int IntKind.u64 y)),LV.v (V1.one (At.int IntKind.u64 s)),LV.v (V1.one (At.int IntKind.u64 n1)),LV.v (V1.one (At.int IntKind.u64 n0)),LV.v (V1.one (At.int IntKind.u64 u0)),LV.v (V1.one (At.int IntKind.u64 q)),LV.v (V1.one (At.int IntKind.u64 (wr IntKind.u64 (wr IntKind.u64 (wr IntKind.u64 (u32*4294967296)+u1) - wr IntKind.u64 (q*y))))),LV.v (V1.one (At.int IntKind.u64 (wr IntKind.u64 ((wr IntKind.u64 (wr IntKind.u64 (wr IntKind.u64 (u32*4294967296)+u1) - wr IntKind.u64 (q*y))).tdiv n1)))),LV.v (V1.one (At.int IntKind.u64 (wr IntKind.u64 (wr IntKind.u64 (wr IntKind.u64 (wr IntKind.u64 (u32*4294967296)+u1) - wr IntKind.u64 (q*y)) - wr IntKind.u64 (wr IntKind.u64 ((wr IntKind.u64 (wr IntKind.u64 (wr IntKind.u64 (u32*4294967296)+u1) - wr IntKind.u64 (q*y))).tdiv n1)*n1)))))],[],[(decide (n1=0),false)]):=by kernel_rfl
theorem dvE (dead:Nat→Value) (y s n1 n0 u0 q1 u21 q r:Int):jI [6,7] [] (exec Tryz.prog S8 Zl 200 (.code (c2 (qE 18 (jk Tryz.prog 137)))) (Kst.st ⟨[(2,U y),(8,U s),(9,U n1),(10,U n0),(14,U u0),(15,U q1),(17,U u21),(18,U q),(16,U r)],[],0⟩ 135 dead []))=some (Ex.ret,[LV.v (V1.one (At.int IntKind.u64 (wr IntKind.u64 (wr IntKind.u64 (q1*4294967296)+q)))),LV.v (V1.one (At.int IntKind.u64 (wr IntKind.u64 (wr IntKind.u64 (wr IntKind.u64 (u21*4294967296)+u0) - wr IntKind.u64 (q*y))/jj (min s.toNat IntKind.u64.bits))))],[],[(decide (s<0),false)]):=by kernel_rfl
theorem jDo (dead:Nat→Value) (y s n1 n0 u32 u1 u0 q r:Int):jI [2,8,9,10,11,13,14,15,16] [] (exec Tryz.prog S8 Zl 200 (.code (c1 (c1 (c1 (qE 14 (jk Tryz.prog 137)))))) (Kst.st ⟨[(2,U y),(8,U s),(9,U n1),(10,U n0),(11,U u32),(13,U u1),(14,U u0),(15,U q),(16,U r)],[],0⟩ 135 dead [some true,some true,some true,some true,some true,some true,some true,some true,some true,none,some true]))=some (Ex.exit 0,[LV.v (V1.one (At.int IntKind.u64 y)),LV.v (V1.one (At.int IntKind.u64 s)),LV.v (V1.one (At.int IntKind.u64 n1)),LV.v (V1.one (At.int IntKind.u64 n0)),LV.v (V1.one (At.int IntKind.u64 u32)),LV.v (V1.one (At.int IntKind.u64 u1)),LV.v (V1.one (At.int IntKind.u64 u0)),LV.v (V1.one (At.int IntKind.u64 (wr IntKind.u64 (q - 1)))),LV.v (V1.one (At.int IntKind.u64 (wr IntKind.u64 (r+n1))))],[],[(decide (wr IntKind.u64 (r+n1)≥4294967296),true),(decide (q≥4294967296),true),(decide (q≥4294967296),true),(decide (q≥4294967296),true),(decide (q≥4294967296),true),(decide (q≥4294967296),true),(decide (q≥4294967296),true),(decide (q≥4294967296),true),(decide (q≥4294967296),true),(decide (q≥4294967296),true)]):=by kernel_rfl
theorem jDp (dead:Nat→Value) (y s n1 n0 u32 u1 u0 q r:Int):jI [2,8,9,10,11,13,14,15,16] [] (exec Tryz.prog S8 Zl 200 (.code (c1 (c1 (c1 (qE 14 (jk Tryz.prog 137)))))) (Kst.st ⟨[(2,U y),(8,U s),(9,U n1),(10,U n0),(11,U u32),(13,U u1),(14,U u0),(15,U q),(16,U r)],[],0⟩ 135 dead [some true,some true,some true,some true,some true,some true,some true,some true,some true,none,some false]))=some (Ex.normal,[LV.v (V1.one (At.int IntKind.u64 y)),LV.v (V1.one (At.int IntKind.u64 s)),LV.v (V1.one (At.int IntKind.u64 n1)),LV.v (V1.one (At.int IntKind.u64 n0)),LV.v (V1.one (At.int IntKind.u64 u32)),LV.v (V1.one (At.int IntKind.u64 u1)),LV.v (V1.one (At.int IntKind.u64 u0)),LV.v (V1.one (At.int IntKind.u64 (wr IntKind.u64 (q - 1)))),LV.v (V1.one (At.int IntKind.u64 (wr IntKind.u64 (r+n1))))],[],[(decide (wr IntKind.u64 (r+n1)≥4294967296),false),(decide (q≥4294967296),true),(decide (q≥4294967296),true),(decide (q≥4294967296),true),(decide (q≥4294967296),true),(decide (q≥4294967296),true),(decide (q≥4294967296),true),(decide (q≥4294967296),true),(decide (q≥4294967296),true),(decide (q≥4294967296),true)]):=by kernel_rfl
theorem jDq (dead:Nat→Value) (y s n1 n0 u32 u1 u0 q r:Int):jI [2,8,9,10,11,13,14,15,16] [] (exec Tryz.prog S8 Zl 200 (.code (c1 (c1 (c1 (qE 14 (jk Tryz.prog 137)))))) (Kst.st ⟨[(2,U y),(8,U s),(9,U n1),(10,U n0),(11,U u32),(13,U u1),(14,U u0),(15,U q),(16,U r)],[],0⟩ 135 dead [some false,some false,some false,some false,some false,some false,some false,some false,some false,some true,some true]))=some (Ex.exit 0,[LV.v (V1.one (At.int IntKind.u64 y)),LV.v (V1.one (At.int IntKind.u64 s)),LV.v (V1.one (At.int IntKind.u64 n1)),LV.v (V1.one (At.int IntKind.u64 n0)),LV.v (V1.one (At.int IntKind.u64 u32)),LV.v (V1.one (At.int IntKind.u64 u1)),LV.v (V1.one (At.int IntKind.u64 u0)),LV.v (V1.one (At.int IntKind.u64 (wr IntKind.u64 (q - 1)))),LV.v (V1.one (At.int IntKind.u64 (wr IntKind.u64 (r+n1))))],[],[(decide (wr IntKind.u64 (r+n1)≥4294967296),true),(decide (wr IntKind.u64 (q*n0)>wr IntKind.u64 (wr IntKind.u64 (4294967296*r)+u1)),true),(decide (q≥4294967296),false),(decide (q≥4294967296),false),(decide (q≥4294967296),false),(decide (q≥4294967296),false),(decide (q≥4294967296),false),(decide (q≥4294967296),false),(decide (q≥4294967296),false),(decide (q≥4294967296),false),(decide (q≥4294967296),false)]):=by kernel_rfl
theorem jDr (dead:Nat→Value) (y s n1 n0 u32 u1 u0 q r:Int):jI [2,8,9,10,11,13,14,15,16] [] (exec Tryz.prog S8 Zl 200 (.code (c1 (c1 (c1 (qE 14 (jk Tryz.prog 137)))))) (Kst.st ⟨[(2,U y),(8,U s),(9,U n1),(10,U n0),(11,U u32),(13,U u1),(14,U u0),(15,U q),(16,U r)],[],0⟩ 135 dead [some false,some false,some false,some false,some false,some false,some false,some false,some false,some true,some false]))=some (Ex.normal,[LV.v (V1.one (At.int IntKind.u64 y)),LV.v (V1.one (At.int IntKind.u64 s)),LV.v (V1.one (At.int IntKind.u64 n1)),LV.v (V1.one (At.int IntKind.u64 n0)),LV.v (V1.one (At.int IntKind.u64 u32)),LV.v (V1.one (At.int IntKind.u64 u1)),LV.v (V1.one (At.int IntKind.u64 u0)),LV.v (V1.one (At.int IntKind.u64 (wr IntKind.u64 (q - 1)))),LV.v (V1.one (At.int IntKind.u64 (wr IntKind.u64 (r+n1))))],[],[(decide (wr IntKind.u64 (r+n1)≥4294967296),false),(decide (wr IntKind.u64 (q*n0)>wr IntKind.u64 (wr IntKind.u64 (4294967296*r)+u1)),true),(decide (q≥4294967296),false),(decide (q≥4294967296),false),(decide (q≥4294967296),false),(decide (q≥4294967296),false),(decide (q≥4294967296),false),(decide (q≥4294967296),false),(decide (q≥4294967296),false),(decide (q≥4294967296),false),(decide (q≥4294967296),false)]):=by kernel_rfl
theorem jDs (dead:Nat→Value) (y s n1 n0 u32 u1 u0 q r:Int):jI [2,8,9,10,11,13,14,15,16] [] (exec Tryz.prog S8 Zl 200 (.code (c1 (c1 (c1 (qE 14 (jk Tryz.prog 137)))))) (Kst.st ⟨[(2,U y),(8,U s),(9,U n1),(10,U n0),(11,U u32),(13,U u1),(14,U u0),(15,U q),(16,U r)],[],0⟩ 135 dead [some false,some false,some false,some false,some false,some false,some false,some false,some false,some false]))=some (Ex.exit 0,[LV.v (V1.one (At.int IntKind.u64 y)),LV.v (V1.one (At.int IntKind.u64 s)),LV.v (V1.one (At.int IntKind.u64 n1)),LV.v (V1.one (At.int IntKind.u64 n0)),LV.v (V1.one (At.int IntKind.u64 u32)),LV.v (V1.one (At.int IntKind.u64 u1)),LV.v (V1.one (At.int IntKind.u64 u0)),LV.v (V1.one (At.int IntKind.u64 q)),LV.v (V1.one (At.int IntKind.u64 r))],[],[(decide (wr IntKind.u64 (q*n0)>wr IntKind.u64 (wr IntKind.u64 (4294967296*r)+u1)),false),(decide (q≥4294967296),false),(decide (q≥4294967296),false),(decide (q≥4294967296),false),(decide (q≥4294967296),false),(decide (q≥4294967296),false),(decide (q≥4294967296),false),(decide (q≥4294967296),false),(decide (q≥4294967296),false),(decide (q≥4294967296),false)]):=by kernel_rfl
theorem jDt (dead:Nat→Value) (y s n1 n0 u0 q1 u21 q r:Int):jI [2,8,9,10,14,15,17,18,16] [] (exec Tryz.prog S8 Zl 200 (.code (c1 (c1 (c1 (qE 18 (jk Tryz.prog 137)))))) (Kst.st ⟨[(2,U y),(8,U s),(9,U n1),(10,U n0),(14,U u0),(15,U q1),(17,U u21),(18,U q),(16,U r)],[],0⟩ 135 dead [some true,some true,some true,some true,some true,some true,some true,some true,some true,none,some true]))=some (Ex.exit 2,[LV.v (V1.one (At.int IntKind.u64 y)),LV.v (V1.one (At.int IntKind.u64 s)),LV.v (V1.one (At.int IntKind.u64 n1)),LV.v (V1.one (At.int IntKind.u64 n0)),LV.v (V1.one (At.int IntKind.u64 u0)),LV.v (V1.one (At.int IntKind.u64 q1)),LV.v (V1.one (At.int IntKind.u64 u21)),LV.v (V1.one (At.int IntKind.u64 (wr IntKind.u64 (q - 1)))),LV.v (V1.one (At.int IntKind.u64 (wr IntKind.u64 (r+n1))))],[],[(decide (wr IntKind.u64 (r+n1)≥4294967296),true),(decide (q≥4294967296),true),(decide (q≥4294967296),true),(decide (q≥4294967296),true),(decide (q≥4294967296),true),(decide (q≥4294967296),true),(decide (q≥4294967296),true),(decide (q≥4294967296),true),(decide (q≥4294967296),true),(decide (q≥4294967296),true)]):=by kernel_rfl
theorem jDu (dead:Nat→Value) (y s n1 n0 u0 q1 u21 q r:Int):jI [2,8,9,10,14,15,17,18,16] [] (exec Tryz.prog S8 Zl 200 (.code (c1 (c1 (c1 (qE 18 (jk Tryz.prog 137)))))) (Kst.st ⟨[(2,U y),(8,U s),(9,U n1),(10,U n0),(14,U u0),(15,U q1),(17,U u21),(18,U q),(16,U r)],[],0⟩ 135 dead [some true,some true,some true,some true,some true,some true,some true,some true,some true,none,some false]))=some (Ex.normal,[LV.v (V1.one (At.int IntKind.u64 y)),LV.v (V1.one (At.int IntKind.u64 s)),LV.v (V1.one (At.int IntKind.u64 n1)),LV.v (V1.one (At.int IntKind.u64 n0)),LV.v (V1.one (At.int IntKind.u64 u0)),LV.v (V1.one (At.int IntKind.u64 q1)),LV.v (V1.one (At.int IntKind.u64 u21)),LV.v (V1.one (At.int IntKind.u64 (wr IntKind.u64 (q - 1)))),LV.v (V1.one (At.int IntKind.u64 (wr IntKind.u64 (r+n1))))],[],[(decide (wr IntKind.u64 (r+n1)≥4294967296),false),(decide (q≥4294967296),true),(decide (q≥4294967296),true),(decide (q≥4294967296),true),(decide (q≥4294967296),true),(decide (q≥4294967296),true),(decide (q≥4294967296),true),(decide (q≥4294967296),true),(decide (q≥4294967296),true),(decide (q≥4294967296),true)]):=by kernel_rfl
theorem jDv (dead:Nat→Value) (y s n1 n0 u0 q1 u21 q r:Int):jI [2,8,9,10,14,15,17,18,16] [] (exec Tryz.prog S8 Zl 200 (.code (c1 (c1 (c1 (qE 18 (jk Tryz.prog 137)))))) (Kst.st ⟨[(2,U y),(8,U s),(9,U n1),(10,U n0),(14,U u0),(15,U q1),(17,U u21),(18,U q),(16,U r)],[],0⟩ 135 dead [some false,some false,some false,some false,some false,some false,some false,some false,some false,some true,some true]))=some (Ex.exit 2,[LV.v (V1.one (At.int IntKind.u64 y)),LV.v (V1.one (At.int IntKind.u64 s)),LV.v (V1.one (At.int IntKind.u64 n1)),LV.v (V1.one (At.int IntKind.u64 n0)),LV.v (V1.one (At.int IntKind.u64 u0)),LV.v (V1.one (At.int IntKind.u64 q1)),LV.v (V1.one (At.int IntKind.u64 u21)),LV.v (V1.one (At.int IntKind.u64 (wr IntKind.u64 (q - 1)))),LV.v (V1.one (At.int IntKind.u64 (wr IntKind.u64 (r+n1))))],[],[(decide (wr IntKind.u64 (r+n1)≥4294967296),true),(decide (wr IntKind.u64 (q*n0)>wr IntKind.u64 (wr IntKind.u64 (4294967296*r)+u0)),true),(decide (q≥4294967296),false),(decide (q≥4294967296),false),(decide (q≥4294967296),false),(decide (q≥4294967296),false),(decide (q≥4294967296),false),(decide (q≥4294967296),false),(decide (q≥4294967296),false),(decide (q≥4294967296),false),(decide (q≥4294967296),false)]):=by kernel_rfl
theorem jDw (dead:Nat→Value) (y s n1 n0 u0 q1 u21 q r:Int):jI [2,8,9,10,14,15,17,18,16] [] (exec Tryz.prog S8 Zl 200 (.code (c1 (c1 (c1 (qE 18 (jk Tryz.prog 137)))))) (Kst.st ⟨[(2,U y),(8,U s),(9,U n1),(10,U n0),(14,U u0),(15,U q1),(17,U u21),(18,U q),(16,U r)],[],0⟩ 135 dead [some false,some false,some false,some false,some false,some false,some false,some false,some false,some true,some false]))=some (Ex.normal,[LV.v (V1.one (At.int IntKind.u64 y)),LV.v (V1.one (At.int IntKind.u64 s)),LV.v (V1.one (At.int IntKind.u64 n1)),LV.v (V1.one (At.int IntKind.u64 n0)),LV.v (V1.one (At.int IntKind.u64 u0)),LV.v (V1.one (At.int IntKind.u64 q1)),LV.v (V1.one (At.int IntKind.u64 u21)),LV.v (V1.one (At.int IntKind.u64 (wr IntKind.u64 (q - 1)))),LV.v (V1.one (At.int IntKind.u64 (wr IntKind.u64 (r+n1))))],[],[(decide (wr IntKind.u64 (r+n1)≥4294967296),false),(decide (wr IntKind.u64 (q*n0)>wr IntKind.u64 (wr IntKind.u64 (4294967296*r)+u0)),true),(decide (q≥4294967296),false),(decide (q≥4294967296),false),(decide (q≥4294967296),false),(decide (q≥4294967296),false),(decide (q≥4294967296),false),(decide (q≥4294967296),false),(decide (q≥4294967296),false),(decide (q≥4294967296),false),(decide (q≥4294967296),false)]):=by kernel_rfl
theorem jDx (dead:Nat→Value) (y s n1 n0 u0 q1 u21 q r:Int):jI [2,8,9,10,14,15,17,18,16] [] (exec Tryz.prog S8 Zl 200 (.code (c1 (c1 (c1 (qE 18 (jk Tryz.prog 137)))))) (Kst.st ⟨[(2,U y),(8,U s),(9,U n1),(10,U n0),(14,U u0),(15,U q1),(17,U u21),(18,U q),(16,U r)],[],0⟩ 135 dead [some false,some false,some false,some false,some false,some false,some false,some false,some false,some false]))=some (Ex.exit 2,[LV.v (V1.one (At.int IntKind.u64 y)),LV.v (V1.one (At.int IntKind.u64 s)),LV.v (V1.one (At.int IntKind.u64 n1)),LV.v (V1.one (At.int IntKind.u64 n0)),LV.v (V1.one (At.int IntKind.u64 u0)),LV.v (V1.one (At.int IntKind.u64 q1)),LV.v (V1.one (At.int IntKind.u64 u21)),LV.v (V1.one (At.int IntKind.u64 q)),LV.v (V1.one (At.int IntKind.u64 r))],[],[(decide (wr IntKind.u64 (q*n0)>wr IntKind.u64 (wr IntKind.u64 (4294967296*r)+u0)),false),(decide (q≥4294967296),false),(decide (q≥4294967296),false),(decide (q≥4294967296),false),(decide (q≥4294967296),false),(decide (q≥4294967296),false),(decide (q≥4294967296),false),(decide (q≥4294967296),false),(decide (q≥4294967296),false),(decide (q≥4294967296),false)]):=by kernel_rfl
end Go.Proofs.YtnlhpaidmiogbaaGreat

/- Long division by two digits: why the digits are right. Plain. -/
namespace Go.Lr
set_option linter.unusedVariables false
structure Dg (y n1 n0 u u1:Int):Prop where
 yd:y=n1*4294967296+n0
 n1a:2147483648≤n1
 n1b:n1<4294967296
 n0a:0≤n0
 n0b:n0<4294967296
 ua:0≤u
 ub:u<y
 u1a:0≤u1
 u1b:u1<4294967296
variable {y n1 n0 u u1:Int}
theorem Dg.ypos (h:Dg y n1 n0 u u1):0<y:=by have:=h.yd;have:=h.n1a;have:=h.n0a;omega
theorem Dg.nn (h:Dg y n1 n0 u u1):0≤(u*4294967296+u1)/y:=Int.ediv_nonneg (by have:=h.ua;have:=h.u1a;omega) (by have:=h.ypos;omega)
theorem Dg.lt (h:Dg y n1 n0 u u1):(u*4294967296+u1)/y<4294967296:=by
 refine Int.ediv_lt_of_lt_mul h.ypos ?_
 have:=h.ub;have:=h.u1b;have:=h.ypos;omega
theorem Dg.iff (h:Dg y n1 n0 u u1) {q r:Int} (hq:q*n1+r=u):q*n0>4294967296*r+u1↔(u*4294967296+u1)/y<q:=by
 rw [Int.ediv_lt_iff_lt_mul h.ypos,h.yd]
 have e1:q*(n1*4294967296+n0)=q*n1*4294967296+q*n0:=by grind
 rw [e1,←hq]
 generalize q*n1=a
 generalize q*n0=b
 omega
theorem Dg.brk (h:Dg y n1 n0 u u1) {q r:Int} (hq:q*n1+r=u) (hlt:(u*4294967296+u1)/y<q) (hb:r+n1≥4294967296):q - 1=(u*4294967296+u1)/y:=by
 have h0:=h.nn
 have hq':(q - 1)*n1+(r+n1)=u:=by rw [←hq];grind
 have hi:=h.iff hq'
 have e1:(q - 1)*n1<4294967296*n1:=by have:=h.ub;have:=h.yd;have:=h.n0b;omega
 have e2:q - 1<4294967296:=Int.lt_of_mul_lt_mul_right e1 (by have:=h.n1a;omega)
 have e3:(q - 1)*n0≤4294967295*4294967295:=Int.mul_le_mul (by omega) (by have:=h.n0b;omega) h.n0a (by omega)
 have hu:=h.u1a
 have:¬(u*4294967296+u1)/y<q - 1:=by rw [←hi];omega
 omega
theorem jc5 {V p y0 y u32 u1 u0:Int} (hp:0<p) (hy0:0<y0) (hy:y=y0*p) (hV:V*p=(u32*4294967296+u1)*4294967296+u0):
  (u32*4294967296+u1)/y*4294967296+((u32*4294967296+u1)%y*4294967296+u0)/y=V/y0∧((u32*4294967296+u1)%y*4294967296+u0)%y/p=V%y0:=by
 have hyp:0<y:=by rw [hy];exact Int.mul_pos hy0 hp
 have e1:=Int.emod_add_mul_ediv (u32*4294967296+u1) y
 generalize (u32*4294967296+u1)/y=q1 at *
 generalize (u32*4294967296+u1)%y=r1 at *
 have e2:=Int.emod_add_mul_ediv (r1*4294967296+u0) y
 have m0:=Int.emod_nonneg (r1*4294967296+u0) (show y≠0 by omega)
 have m1:=Int.emod_lt_of_pos (r1*4294967296+u0) hyp
 generalize (r1*4294967296+u0)/y=q0 at *
 generalize (r1*4294967296+u0)%y=r0 at *
 have e3:V*p=(q1*4294967296+q0)*y+r0:=by rw [hV,←e1];grind
 have e4:r0=(V - (q1*4294967296+q0)*y0)*p:=by rw [hy] at e3;grind
 generalize q1*4294967296+q0=Q at *
 have d0:0≤V - Q*y0:=by
  rw [e4] at m0
  exact Int.nonneg_of_mul_nonneg_left m0 hp
 have d1:V - Q*y0<y0:=by
  rw [e4,hy] at m1
  exact Int.lt_of_mul_lt_mul_right m1 (by omega)
 have e5:V=Q*y0+(V - Q*y0):=by omega
 refine ⟨(Js e5 d0 d1).symm, ?_⟩
 rw [e4,Int.mul_ediv_cancel _ (by omega)]
 exact (q8 e5 d0 d1).symm
end Go.Lr

/- math/bits.Div64: what it comes to. -/
namespace Go.Proofs.YtnlhpaidmiogbaaGreat
open Go.Lr
set_option linter.unusedVariables false
set_option linter.unusedSimpArgs false
noncomputable def jet:Code:=c1 (c1 (c1 (qE 14 (jk Tryz.prog 137))))
noncomputable def jeu:Code:=c1 (c1 (c1 (qE 18 (jk Tryz.prog 137))))
def jvh (y s n1 n0 u32 u1 u0 q r:Int):Kst:=⟨[(2,U y),(8,U s),(9,U n1),(10,U n0),(11,U u32),(13,U u1),(14,U u0),(15,U q),(16,U r)],[],0⟩
def jvi (y s n1 n0 u0 q1 u21 q r:Int):Kst:=⟨[(2,U y),(8,U s),(9,U n1),(10,U n0),(14,U u0),(15,U q1),(17,U u21),(18,U q),(16,U r)],[],0⟩
theorem joy {y s n1 n0 u32 u1 u0:Int} (h:Dg y n1 n0 u32 u1):∀(d:Nat) (q r:Int),q*n1+r=u32→0≤r→r<4294967296→q≤8589934592→q=(u32*4294967296+u1)/y+d→
  ∃m r',Rd Tryz.prog 135 jet m (jvh y s n1 n0 u32 u1 u0 q r) (.exit 0) (jvh y s n1 n0 u32 u1 u0 ((u32*4294967296+u1)/y) r')
 | 0,q,r,hq,hr0,hr1,hq1,hd=>by
  have n0a:=h.n0a
  have n0b:=h.n0b
  have u1a:=h.u1a
  have u1b:=h.u1b
  have nn:=h.nn
  have lt:=h.lt
  have hi:=h.iff hq
  have hd':q=(u32*4294967296+u1)/y:=by omega
  have p0:0≤q*n0:=Int.mul_nonneg (by omega) n0a
  have p1:q*n0≤4294967295*4294967295:=Int.mul_le_mul (by omega) (by omega) n0a (by omega)
  have c1':wr .u64 (q*n0)=q*n0:=kI p0 (by omega)
  have c2':wr .u64 (wr .u64 (4294967296*r)+u1)=4294967296*r+u1:=by rw [Jo,Jo];unfold u64;omega
  rw [←hd'] at hi ⊢
  refine ⟨1,r,Rd.last (by simp) ?_⟩
  refine To.weak (B:=⟨[2,8,9,10,11,13,14,15,16].zip [U y,U s,U n1,U n0,U u32,U u1,U u0,U q,U r],[],0⟩) ?_ (fun _ h=>h) rfl rfl (jy (by rfl))
  refine To.run (z:=Zl) sound8 (nbB:=0) (blks:=[]) (bs:=[]) (fun dead=>jDs dead y s n1 n0 u32 u1 u0 q r) rfl rfl rfl ?_ (jy (by rfl)) (Nat.le_refl _)
  have hq2:decide (q≥4294967296)=false:=by simp;omega
  simp only [hq2,c1',c2',ql,true_and,and_true,decide_eq_false_iff_not]
  exact ⟨by omega,jd⟩
 | d+1,q,r,hq,hr0,hr1,hq1,hd=>by
  have n0a:=h.n0a
  have n0b:=h.n0b
  have u1a:=h.u1a
  have u1b:=h.u1b
  have n1a:=h.n1a
  have n1b:=h.n1b
  have nn:=h.nn
  have lt:=h.lt
  have hi:=h.iff hq
  have hgt:(u32*4294967296+u1)/y<q:=by omega
  have f1:wr .u64 (q - 1)=q - 1:=kI (by omega) (by omega)
  have f2:wr .u64 (r+n1)=r+n1:=kI (by omega) (by omega)
  have hq':(q - 1)*n1+(r+n1)=u32:=by rw [←hq];grind
  have key:∀(e:Ex),(r+n1≥4294967296→e = .exit 0)→(¬r+n1≥4294967296→e = .normal)→To Tryz.prog 135 jet (jvh y s n1 n0 u32 u1 u0 q r) e (jvh y s n1 n0 u32 u1 u0 (q - 1) (r+n1)):=by
   intro e he1 he2
   refine To.weak (B:=⟨[2,8,9,10,11,13,14,15,16].zip [U y,U s,U n1,U n0,U u32,U u1,U u0,U (q - 1),U (r+n1)],[],0⟩) ?_ (fun _ h=>h) rfl rfl (jy (by rfl))
   by_cases hqb:q≥4294967296
   ·by_cases hb:r+n1≥4294967296
    ·rw [he1 hb]
     refine To.run (z:=Zl) sound8 (nbB:=0) (blks:=[]) (bs:=[]) (fun dead=>jDo dead y s n1 n0 u32 u1 u0 q r) rfl (by rw [f1,f2];rfl) rfl ?_ (jy (by rfl)) (Nat.le_refl _)
     simp only [f2,jZ,decide_eq_true_eq,hqb,hb,true_and]
     exact jd
    ·rw [he2 hb]
     refine To.run (z:=Zl) sound8 (nbB:=0) (blks:=[]) (bs:=[]) (fun dead=>jDp dead y s n1 n0 u32 u1 u0 q r) rfl (by rw [f1,f2];rfl) rfl ?_ (jy (by rfl)) (Nat.le_refl _)
     simp only [f2,jZ,ql,decide_eq_true_eq,decide_eq_false_iff_not,hqb,hb,true_and,not_false_eq_true]
     exact jd
   ·have p0:0≤q*n0:=Int.mul_nonneg (by omega) n0a
    have p1:q*n0≤4294967295*4294967295:=Int.mul_le_mul (by omega) (by omega) n0a (by omega)
    have c1':wr .u64 (q*n0)=q*n0:=kI p0 (by omega)
    have c2':wr .u64 (wr .u64 (4294967296*r)+u1)=4294967296*r+u1:=by rw [Jo,Jo];unfold u64;omega
    have hc:=hi.2 hgt
    by_cases hb:r+n1≥4294967296
    ·rw [he1 hb]
     refine To.run (z:=Zl) sound8 (nbB:=0) (blks:=[]) (bs:=[]) (fun dead=>jDq dead y s n1 n0 u32 u1 u0 q r) rfl (by rw [f1,f2];rfl) rfl ?_ (jy (by rfl)) (Nat.le_refl _)
     simp only [f2,c1',c2',jZ,ql,decide_eq_true_eq,decide_eq_false_iff_not,hqb,hb,hc,true_and,not_false_eq_true]
     exact jd
    ·rw [he2 hb]
     refine To.run (z:=Zl) sound8 (nbB:=0) (blks:=[]) (bs:=[]) (fun dead=>jDr dead y s n1 n0 u32 u1 u0 q r) rfl (by rw [f1,f2];rfl) rfl ?_ (jy (by rfl)) (Nat.le_refl _)
     simp only [f2,c1',c2',jZ,ql,decide_eq_true_eq,decide_eq_false_iff_not,hqb,hb,hc,true_and,not_false_eq_true]
     exact jd
  by_cases hb:r+n1≥4294967296
  ·have:=h.brk hq hgt hb
   refine ⟨1,r+n1,Rd.last (by simp) ?_⟩
   rw [←this]
   exact key _ (fun _=>rfl) (fun h=>absurd hb h)
  ·obtain ⟨m,r',hm⟩:=joy (s:=s) (u0:=u0) h d (q - 1) (r+n1) hq' (by omega) (by omega) (by omega) (by omega)
   exact ⟨m+1,r',Rd.next (key _ (fun h=>absurd h hb) (fun _=>rfl)) hm⟩
theorem joz {y s n1 n0 u21 u0 q1:Int} (h:Dg y n1 n0 u21 u0):∀(d:Nat) (q r:Int),q*n1+r=u21→0≤r→r<4294967296→q≤8589934592→q=(u21*4294967296+u0)/y+d→
  ∃m r',Rd Tryz.prog 135 jeu m (jvi y s n1 n0 u0 q1 u21 q r) (.exit 2) (jvi y s n1 n0 u0 q1 u21 ((u21*4294967296+u0)/y) r')
 | 0,q,r,hq,hr0,hr1,hq1,hd=>by
  have n0a:=h.n0a
  have n0b:=h.n0b
  have u1a:=h.u1a
  have u1b:=h.u1b
  have nn:=h.nn
  have lt:=h.lt
  have hi:=h.iff hq
  have hd':q=(u21*4294967296+u0)/y:=by omega
  have p0:0≤q*n0:=Int.mul_nonneg (by omega) n0a
  have p1:q*n0≤4294967295*4294967295:=Int.mul_le_mul (by omega) (by omega) n0a (by omega)
  have c1':wr .u64 (q*n0)=q*n0:=kI p0 (by omega)
  have c2':wr .u64 (wr .u64 (4294967296*r)+u0)=4294967296*r+u0:=by rw [Jo,Jo];unfold u64;omega
  rw [←hd'] at hi ⊢
  refine ⟨1,r,Rd.last (by simp) ?_⟩
  refine To.weak (B:=⟨[2,8,9,10,14,15,17,18,16].zip [U y,U s,U n1,U n0,U u0,U q1,U u21,U q,U r],[],0⟩) ?_ (fun _ h=>h) rfl rfl (jy (by rfl))
  refine To.run (z:=Zl) sound8 (nbB:=0) (blks:=[]) (bs:=[]) (fun dead=>jDx dead y s n1 n0 u0 q1 u21 q r) rfl rfl rfl ?_ (jy (by rfl)) (Nat.le_refl _)
  have hq2:decide (q≥4294967296)=false:=by simp;omega
  simp only [hq2,c1',c2',ql,true_and,and_true,decide_eq_false_iff_not]
  exact ⟨by omega,jd⟩
 | d+1,q,r,hq,hr0,hr1,hq1,hd=>by
  have n0a:=h.n0a
  have n0b:=h.n0b
  have u1a:=h.u1a
  have u1b:=h.u1b
  have n1a:=h.n1a
  have n1b:=h.n1b
  have nn:=h.nn
  have lt:=h.lt
  have hi:=h.iff hq
  have hgt:(u21*4294967296+u0)/y<q:=by omega
  have f1:wr .u64 (q - 1)=q - 1:=kI (by omega) (by omega)
  have f2:wr .u64 (r+n1)=r+n1:=kI (by omega) (by omega)
  have hq':(q - 1)*n1+(r+n1)=u21:=by rw [←hq];grind
  have key:∀(e:Ex),(r+n1≥4294967296→e = .exit 2)→(¬r+n1≥4294967296→e = .normal)→To Tryz.prog 135 jeu (jvi y s n1 n0 u0 q1 u21 q r) e (jvi y s n1 n0 u0 q1 u21 (q - 1) (r+n1)):=by
   intro e he1 he2
   refine To.weak (B:=⟨[2,8,9,10,14,15,17,18,16].zip [U y,U s,U n1,U n0,U u0,U q1,U u21,U (q - 1),U (r+n1)],[],0⟩) ?_ (fun _ h=>h) rfl rfl (jy (by rfl))
   by_cases hqb:q≥4294967296
   ·by_cases hb:r+n1≥4294967296
    ·rw [he1 hb]
     refine To.run (z:=Zl) sound8 (nbB:=0) (blks:=[]) (bs:=[]) (fun dead=>jDt dead y s n1 n0 u0 q1 u21 q r) rfl (by rw [f1,f2];rfl) rfl ?_ (jy (by rfl)) (Nat.le_refl _)
     simp only [f2,jZ,decide_eq_true_eq,hqb,hb,true_and]
     exact jd
    ·rw [he2 hb]
     refine To.run (z:=Zl) sound8 (nbB:=0) (blks:=[]) (bs:=[]) (fun dead=>jDu dead y s n1 n0 u0 q1 u21 q r) rfl (by rw [f1,f2];rfl) rfl ?_ (jy (by rfl)) (Nat.le_refl _)
     simp only [f2,jZ,ql,decide_eq_true_eq,decide_eq_false_iff_not,hqb,hb,true_and,not_false_eq_true]
     exact jd
   ·have p0:0≤q*n0:=Int.mul_nonneg (by omega) n0a
    have p1:q*n0≤4294967295*4294967295:=Int.mul_le_mul (by omega) (by omega) n0a (by omega)
    have c1':wr .u64 (q*n0)=q*n0:=kI p0 (by omega)
    have c2':wr .u64 (wr .u64 (4294967296*r)+u0)=4294967296*r+u0:=by rw [Jo,Jo];unfold u64;omega
    have hc:=hi.2 hgt
    by_cases hb:r+n1≥4294967296
    ·rw [he1 hb]
     refine To.run (z:=Zl) sound8 (nbB:=0) (blks:=[]) (bs:=[]) (fun dead=>jDv dead y s n1 n0 u0 q1 u21 q r) rfl (by rw [f1,f2];rfl) rfl ?_ (jy (by rfl)) (Nat.le_refl _)
     simp only [f2,c1',c2',jZ,ql,decide_eq_true_eq,decide_eq_false_iff_not,hqb,hb,hc,true_and,not_false_eq_true]
     exact jd
    ·rw [he2 hb]
     refine To.run (z:=Zl) sound8 (nbB:=0) (blks:=[]) (bs:=[]) (fun dead=>jDw dead y s n1 n0 u0 q1 u21 q r) rfl (by rw [f1,f2];rfl) rfl ?_ (jy (by rfl)) (Nat.le_refl _)
     simp only [f2,c1',c2',jZ,ql,decide_eq_true_eq,decide_eq_false_iff_not,hqb,hb,hc,true_and,not_false_eq_true]
     exact jd
  by_cases hb:r+n1≥4294967296
  ·have:=h.brk hq hgt hb
   refine ⟨1,r+n1,Rd.last (by simp) ?_⟩
   rw [←this]
   exact key _ (fun _=>rfl) (fun h=>absurd hb h)
  ·obtain ⟨m,r',hm⟩:=joz (s:=s) (q1:=q1) h d (q - 1) (r+n1) hq' (by omega) (by omega) (by omega) (by omega)
   exact ⟨m+1,r',Rd.next (key _ (fun h=>absurd h hb) (fun _=>rfl)) hm⟩
def jev:List LV→Option (LV×List (Bool×Bool))
 | [.v (.one (.int .u64 h)),.v (.one (.int .u64 l)),.v (.one (.int .u64 y))]=>some (.tup [.one (.int .u64 (jb h l/y)),.one (.int .u64 (jb h l%y))],[(isU h,true),(isU l,true),(isU y,true),(decide (h<y),true)])
 | _=>none
theorem Qg {a b:Int} (h:0≤a):a.tdiv b=a/b:=Int.tdiv_eq_ediv_of_nonneg h
theorem jca {a b:Int} (h:0≤a):a.tmod b=a%b:=Int.tmod_eq_emod_of_nonneg h
theorem jjk {y n1 n0 u u1:Int} (h:Dg y n1 n0 u u1) (hu:u<18446744073709551616):u/n1*n1+u%n1=u∧0≤u%n1∧u%n1<4294967296∧u/n1≤8589934592∧∃d:Nat,u/n1=(u*4294967296+u1)/y+d:=by
 have n1a:=h.n1a
 have n1b:=h.n1b
 have ua:=h.ua
 have e:=Int.emod_add_mul_ediv u n1
 have m0:=Int.emod_nonneg u (show n1≠0 by omega)
 have m1:=Int.emod_lt_of_pos u (show 0<n1 by omega)
 have e':u/n1*n1+u%n1=u:=by rw [Int.mul_comm];omega
 have hd:u/n1<8589934593:=Int.ediv_lt_of_lt_mul (by omega) (by omega)
 refine ⟨e',m0,by omega,by omega, ?_⟩
 have hi:=h.iff (q:=u/n1+1) (r:=u%n1 - n1) (by rw [Int.add_mul];omega)
 have hlt:(u*4294967296+u1)/y<u/n1+1:=by
  rw [←hi]
  have:0≤(u/n1+1)*n0:=Int.mul_nonneg (by have:=Int.ediv_nonneg ua (show 0≤n1 by omega);omega) h.n0a
  have:=h.u1b
  omega
 have nn:=h.nn
 exact ⟨(u/n1 - (u*4294967296+u1)/y).toNat,by omega⟩
theorem jhp:SumOK Tryz.prog 137 (jp jev):=by
 refine xD fun args v cs hF hc w=> ?_
 unfold jev at hF
 split at hF
 ·rename_i h l y0
  cases hF
  simp only [jZ,isU_iff,decide_eq_true_eq] at hc
  obtain ⟨⟨hh0,hh1⟩,⟨hl0,hl1⟩,⟨hy0,hy1⟩,hlt,-⟩:=hc
  have hypos:0<y0:=by omega
  have a1:(y0==0)=false:=by simp;omega
  have a2:decide (y0≤h)=false:=by simp;omega
  refine qb (jg sound8 Tryz.func137 (by kernel_rfl)) ?_
  by_cases hz:h=0
  ·subst hz
   have hv:jb 0 l=l:=by unfold jb;omega
   rw [hv]
   have q0:0≤l/y0:=Int.ediv_nonneg hl0 hy0
   have q1:l/y0≤l:=Int.ediv_le_self _ hl0
   refine yy (c:=jk Tryz.prog 137) (e:= .ret) (B:=⟨[(6,U (l/y0)),(7,U (l%y0))],[],0⟩) Tryz.func137 (by kernel_rfl) (Nat.le_of_ble_eq_true (by kernel_rfl)) (Nat.le_of_ble_eq_true (by kernel_rfl)) rfl ?_ (.inr rfl) (fun dead=>by kernel_rfl) rfl w
   refine To.weak (B:=⟨[6,7].zip [U (l/y0),U (l%y0)],[],0⟩) ?_ (fun _ h=>h) rfl rfl (jy (by rfl))
   refine To.run (z:=Zl) sound8 (nbB:=0) (blks:=[]) (bs:=[]) (fun dead=>dvZ dead 0 l y0) rfl (by rw [Qg hl0,jca hl0,Jo,kI q0 (by omega)];rfl) rfl ?_ (jy (by rfl)) (Nat.le_refl _)
   simp only [jZ,ql,a1,a2,decide_eq_false_iff_not,true_and,beq_self_eq_true]
   exact ⟨by omega,by omega,jd⟩
  ·obtain ⟨s0,s1,k0,k1⟩:=jcr hypos hy1
   have w1:wr .u64 (lzV y0)=lzV y0:=kI s0 (by omega)
   have w2:wr .u64 (64 - lzV y0)=64 - lzV y0:=kI (by omega) (by omega)
   have w3:min (lzV y0).toNat IntKind.u64.bits=(lzV y0).toNat:=Xz s0 (by omega)
   have w4:min (64 - lzV y0).toNat IntKind.u64.bits=(64 - lzV y0).toNat:=Xz (by omega) (by omega)
   have hpq:jj (lzV y0).toNat*jj (64 - lzV y0).toNat=18446744073709551616:=by rw [←xd,←Jr];congr 1;omega
   obtain ⟨g1,g2,g3,g4,g5,g6,g7,g8⟩:=jjy h l _ _ (kg _) (kg _) hpq hl0 hl1
   have hp:=kg (lzV y0).toNat
   have hq:=kg (64 - lzV y0).toNat
   have hior:=(ja8 _ _ _ g8 g5 g6 g7).1
   generalize hsv:lzV y0=s at *
   generalize hpv:jj s.toNat=p at *
   generalize hqv:jj (64 - s).toNat=q at *
   have w5:wr .u64 (y0*p)=y0*p:=kI (by omega) k1
   have hVlt:jb h l*p<340282366920938463463374607431768211456:=by
    have e:jb h l<y0*18446744073709551616:=by
     unfold jb
     have:(h+1)*18446744073709551616≤y0*18446744073709551616:=Int.mul_le_mul_of_nonneg_right (by omega) (by omega)
     omega
    have e2:jb h l*p≤y0*18446744073709551616*p:=Int.mul_le_mul_of_nonneg_right (by omega) (by omega)
    have e3:y0*18446744073709551616*p=y0*p*18446744073709551616:=by grind
    rw [e3] at e2
    omega
   have hV0:0≤jb h l*p:=Int.mul_nonneg (by unfold jb;omega) (by omega)
   have hVm:jb h l*p%340282366920938463463374607431768211456=jb h l*p:=by omega
   rw [hVm] at g1 g2
   generalize hX:jb h l*p=X at *
   have x32:Int.ofNat ((u64 (wr .u64 (h*p))).toNat.lor (u64 (l/q)).toNat)=wHi X:=by rw [Jo,g3,g1];exact hior
   have x10:wr .u64 (l*p)=wLo X:=by rw [Jo,g4,g2]
   have u32b:wHi X<y0*p:=by
    have e:X<y0*p*18446744073709551616:=by
     rw [←hX]
     have e0:jb h l<y0*18446744073709551616:=by
      unfold jb
      have:(h+1)*18446744073709551616≤y0*18446744073709551616:=Int.mul_le_mul_of_nonneg_right (by omega) (by omega)
      omega
     have e2:jb h l*p<y0*18446744073709551616*p:=Int.mul_lt_mul_of_pos_right e0 hp
     have e3:y0*18446744073709551616*p=y0*p*18446744073709551616:=by grind
     omega
    unfold wHi;omega
   have xlo:=qG X
   have u0a:0≤wHi X:=by unfold wHi;omega
   have jqg:Int.ofNat ((u64 (wLo X)).toNat.land (u64 4294967295).toNat)=wLo X%4294967296:=ZO _ xlo.1 xlo.2
   have hyv0:9223372036854775808≤y0*p:=k0
   have land2:Int.ofNat ((u64 (y0*p)).toNat.land (u64 4294967295).toNat)=y0*p%4294967296:=ZO _ (by omega) k1
   generalize hY:y0*p=y at *
   have hDg1:Dg y (y/4294967296) (y%4294967296) (wHi X) (wLo X/4294967296):=⟨by omega,by omega,by omega,by omega,by omega,u0a,u32b,by omega,by omega⟩
   have hXv:X=(wHi X*4294967296+wLo X/4294967296)*4294967296+wLo X%4294967296:=by unfold wHi wLo;omega
   obtain ⟨D1,D2⟩:=jc5 (V:=jb h l) (p:=p) (y0:=y0) (y:=y) hp hypos hY.symm (hX.trans hXv)
   generalize wHi X=u32 at *
   generalize hu1:wLo X/4294967296=u1 at *
   generalize hu0:wLo X%4294967296=u0 at *
   have hn1:y/jj (min (Int.toNat 32) IntKind.u64.bits)=y/4294967296:=by rw [Qk]
   have hu0a:0≤u0∧u0<4294967296:=by omega
   obtain ⟨E1,E2,E3,E4,d1,E5⟩:=jjk hDg1 (by omega)
   generalize hN1:y/4294967296=n1 at *
   generalize hN0:y%4294967296=n0 at *
   obtain ⟨m1,r1,hR1⟩:=joy (s:=s) (u0:=u0) hDg1 d1 _ _ E1 E2 E3 E4 E5
   have nn1:=hDg1.nn
   have lt1:=hDg1.lt
   have ypos:=hDg1.ypos
   have m0:=Int.emod_nonneg (u32*4294967296+u1) (show y≠0 by omega)
   have m1':=Int.emod_lt_of_pos (u32*4294967296+u1) ypos
   have emd:=Int.emod_add_mul_ediv (u32*4294967296+u1) y
   generalize hq1:(u32*4294967296+u1)/y=q1 at *
   generalize hu21:(u32*4294967296+u1)%y=u21 at *
   have hDg2:Dg y n1 n0 u21 u0:=⟨hDg1.yd,hDg1.n1a,hDg1.n1b,hDg1.n0a,hDg1.n0b,m0,m1',hu0a.1,hu0a.2⟩
   obtain ⟨F1,F2,F3,F4,d2,F5⟩:=jjk hDg2 (by omega)
   obtain ⟨m2,r2,hR2⟩:=joz (s:=s) (q1:=q1) hDg2 d2 _ _ F1 F2 F3 F4 F5
   have nn2:=hDg2.nn
   have lt2:=hDg2.lt
   have m2a:=Int.emod_nonneg (u21*4294967296+u0) (show y≠0 by omega)
   have m2b:=Int.emod_lt_of_pos (u21*4294967296+u0) ypos
   have emd2:=Int.emod_add_mul_ediv (u21*4294967296+u0) y
   have n1a:=hDg1.n1a
   have n1b:=hDg1.n1b
   have v1:wr .u64 (u32.tdiv n1)=u32/n1:=by rw [Qg u0a,Jo];exact kI (Int.ediv_nonneg u0a (by omega)) (by omega)
   have v2:wr .u64 (u32 - wr .u64 (u32/n1*n1))=u32%n1:=by
    simp only [Jo]
    generalize u32/n1*n1=t at *
    unfold u64;omega
   have v3:wr .u64 (wr .u64 (wr .u64 (u32*4294967296)+u1) - wr .u64 (q1*y))=u21:=by
    simp only [Jo]
    have e:y*q1=q1*y:=Int.mul_comm _ _
    rw [e] at emd
    generalize q1*y=t at *
    unfold u64;omega
   have v4:wr .u64 (u21.tdiv n1)=u21/n1:=by rw [Qg m0,Jo];exact kI (Int.ediv_nonneg m0 (by omega)) (by omega)
   have v5:wr .u64 (u21 - wr .u64 (u21/n1*n1))=u21%n1:=by
    simp only [Jo]
    generalize u21/n1*n1=t at *
    unfold u64;omega
   have v6:wr .u64 (wr .u64 (q1*4294967296)+(u21*4294967296+u0)/y)=jb h l/y0:=by
    rw [←D1]
    simp only [Jo]
    unfold u64;omega
   have v7:wr .u64 (wr .u64 (wr .u64 (u21*4294967296)+u0) - wr .u64 ((u21*4294967296+u0)/y*y))/p=jb h l%y0:=by
    rw [←D2]
    congr 1
    simp only [Jo]
    have e:y*((u21*4294967296+u0)/y)=(u21*4294967296+u0)/y*y:=Int.mul_comm _ _
    rw [e] at emd2
    generalize (u21*4294967296+u0)/y*y=t at *
    unfold u64;omega
   refine yy (c:=jk Tryz.prog 137) (e:= .ret) (B:=⟨[(6,U (jb h l/y0)),(7,U (jb h l%y0))],[],0⟩) Tryz.func137 (by kernel_rfl) (Nat.le_of_ble_eq_true (by kernel_rfl)) (Nat.le_of_ble_eq_true (by kernel_rfl)) rfl ?_ (.inr rfl) (fun dead=>by kernel_rfl) rfl w
   refine To.spineR (z:=Zl) sound8 (k:=14) (nbB:=0) (blks:=[]) (bs:=[]) (by kernel_rfl) (fun dead=>dvA dead h l y0) rfl
    (vs:=[U y,U s,U n1,U n0,U u32,U u1,U u0,U (u32/n1),U (u32%n1)]) ?_ rfl ?_ (jy (by rfl)) (Nat.le_refl _) ?_
   ·simp only [hsv,w1,w2,w3,w4,hpv,hqv,w5,hY,x32,x10,Qk,jqg,land2,hN1,hu1,hu0,hN0,v1,v2]
    rfl
   ·simp only [hsv,w1,w2,w3,w4,hpv,hqv,w5,hY,Qk,hN1,jZ,ql,isU_iff,decide_eq_true_eq,a1,a2,decide_eq_false_iff_not,true_and]
    refine ⟨by omega,by omega,by omega,by omega,by omega,⟨hy0,hy1⟩,hypos,by simpa using hz,jd⟩
   ·refine To.seq (by kernel_rfl) (To.block (id:=0) (by kernel_rfl) (To.loop (by kernel_rfl) hR1) (.inl rfl)) ?_
    refine To.spineR (z:=Zl) sound8 (k:=3) (nbB:=0) (blks:=[]) (bs:=[]) (by kernel_rfl) (fun dead=>dvM dead y s n1 n0 u32 u1 u0 q1 r1) rfl
     (vs:=[U y,U s,U n1,U n0,U u0,U q1,U u21,U (u21/n1),U (u21%n1)]) ?_ rfl ?_ (jy (by rfl)) (Nat.le_refl _) ?_
    ·simp only [v3,v4,v5];rfl
    ·simp only [ql,decide_eq_false_iff_not];exact ⟨by omega,jd⟩
    ·refine To.seq (by kernel_rfl) (To.block (id:=2) (by kernel_rfl) (To.loop (by kernel_rfl) hR2) (.inl rfl)) ?_
     refine To.weak (B:=⟨[6,7].zip [U (jb h l/y0),U (jb h l%y0)],[],0⟩) ?_ (fun _ h=>h) rfl rfl (jy (by rfl))
     refine To.run (z:=Zl) sound8 (nbB:=0) (blks:=[]) (bs:=[]) (fun dead=>dvE dead y s n1 n0 u0 q1 u21 _ r2) rfl ?_ rfl ?_ (jy (by rfl)) (Nat.le_refl _)
     ·simp only [w3,hpv,v6,v7];rfl
     ·simp only [ql,decide_eq_false_iff_not];exact ⟨by omega,jd⟩
 ·cases hF
def S9:FuncId→Option SumK:=more (more S8 184 (jp jh5)) 137 (jp jev)
theorem jjl:Sound Tryz.prog S9:=(sound8.more sumRoot).more jhp
end Go.Proofs.YtnlhpaidmiogbaaGreat

/- wide.Div: by every path of its run (printed), and what it comes to. -/
namespace Go.Proofs.YtnlhpaidmiogbaaGreat
open Go.Lr
set_option linter.unusedVariables false
set_option linter.unusedSimpArgs false
theorem jrd (x y d:Int):(jR Tryz.prog S9 Zl 2000 87 [.v (.agg [.int .i64 x,.int .u64 y]),.v (.one (.int .i64 d))] [] 0 [some true]).map (fun r=>(r.1,r.2.2.2))=some (LV.tup [V1.one (At.int IntKind.i64 0),V1.one (At.bool false)],[(d==0,true)]):=by kernel_rfl
theorem jre (x y d:Int):(jR Tryz.prog S9 Zl 2000 87 [.v (.agg [.int .i64 x,.int .u64 y]),.v (.one (.int .i64 d))] [] 0 [some false,some true]).map (fun r=>(r.1,r.2.2.2))=some (LV.tup [V1.one (At.int IntKind.i64 (if isI (sgn (!decide (jb x y<0)==decide (d<0)) (jb (wHi ((jb (wr IntKind.u64 ((wHi (jh (jb x y))).tdiv (jh d))) (jb ((wHi (jh (jb x y))).tmod (jh d)) (wLo (jh (jb x y)))/jh d)+jb 0 1)%340282366920938463463374607431768211456)) (wLo ((jb (wr IntKind.u64 ((wHi (jh (jb x y))).tdiv (jh d))) (jb ((wHi (jh (jb x y))).tmod (jh d)) (wLo (jh (jb x y)))/jh d)+jb 0 1)%340282366920938463463374607431768211456))))=true then sgn (!decide (jb x y<0)==decide (d<0)) (jb (wHi ((jb (wr IntKind.u64 ((wHi (jh (jb x y))).tdiv (jh d))) (jb ((wHi (jh (jb x y))).tmod (jh d)) (wLo (jh (jb x y)))/jh d)+jb 0 1)%340282366920938463463374607431768211456)) (wLo ((jb (wr IntKind.u64 ((wHi (jh (jb x y))).tdiv (jh d))) (jb ((wHi (jh (jb x y))).tmod (jh d)) (wLo (jh (jb x y)))/jh d)+jb 0 1)%340282366920938463463374607431768211456))) else 0)),V1.one (At.bool (isI (sgn (!decide (jb x y<0)==decide (d<0)) (jb (wHi ((jb (wr IntKind.u64 ((wHi (jh (jb x y))).tdiv (jh d))) (jb ((wHi (jh (jb x y))).tmod (jh d)) (wLo (jh (jb x y)))/jh d)+jb 0 1)%340282366920938463463374607431768211456)) (wLo ((jb (wr IntKind.u64 ((wHi (jh (jb x y))).tdiv (jh d))) (jb ((wHi (jh (jb x y))).tmod (jh d)) (wLo (jh (jb x y)))/jh d)+jb 0 1)%340282366920938463463374607431768211456))))))],[(isU (wHi ((jb (wr IntKind.u64 ((wHi (jh (jb x y))).tdiv (jh d))) (jb ((wHi (jh (jb x y))).tmod (jh d)) (wLo (jh (jb x y)))/jh d)+jb 0 1)%340282366920938463463374607431768211456)),true),(isU (wLo ((jb (wr IntKind.u64 ((wHi (jh (jb x y))).tdiv (jh d))) (jb ((wHi (jh (jb x y))).tmod (jh d)) (wLo (jh (jb x y)))/jh d)+jb 0 1)%340282366920938463463374607431768211456)),true),(isU (wr IntKind.u64 ((wHi (jh (jb x y))).tdiv (jh d))),true),(isU (jb ((wHi (jh (jb x y))).tmod (jh d)) (wLo (jh (jb x y)))/jh d),true),(isU 0,true),(isU 1,true),(decide (jb ((wHi (jh (jb x y))).tmod (jh d)) (wLo (jh (jb x y)))%jh d≥wr IntKind.u64 (jh d - jb ((wHi (jh (jb x y))).tmod (jh d)) (wLo (jh (jb x y)))%jh d)),true),(isU ((wHi (jh (jb x y))).tmod (jh d)),true),(isU (wLo (jh (jb x y))),true),(isU (jh d),true),(decide ((wHi (jh (jb x y))).tmod (jh d)<jh d),true),(decide (jh d=0),false),(decide (jh d=0),false),(isI d,true),(isI x,true),(isU y,true),(d==0,false)]):=by kernel_rfl
theorem jrf (x y d:Int):(jR Tryz.prog S9 Zl 2000 87 [.v (.agg [.int .i64 x,.int .u64 y]),.v (.one (.int .i64 d))] [] 0 [some false,some false]).map (fun r=>(r.1,r.2.2.2))=some (LV.tup [V1.one (At.int IntKind.i64 (if isI (sgn (!decide (jb x y<0)==decide (d<0)) (jb (wr IntKind.u64 ((wHi (jh (jb x y))).tdiv (jh d))) (jb ((wHi (jh (jb x y))).tmod (jh d)) (wLo (jh (jb x y)))/jh d)))=true then sgn (!decide (jb x y<0)==decide (d<0)) (jb (wr IntKind.u64 ((wHi (jh (jb x y))).tdiv (jh d))) (jb ((wHi (jh (jb x y))).tmod (jh d)) (wLo (jh (jb x y)))/jh d)) else 0)),V1.one (At.bool (isI (sgn (!decide (jb x y<0)==decide (d<0)) (jb (wr IntKind.u64 ((wHi (jh (jb x y))).tdiv (jh d))) (jb ((wHi (jh (jb x y))).tmod (jh d)) (wLo (jh (jb x y)))/jh d)))))],[(isU (wr IntKind.u64 ((wHi (jh (jb x y))).tdiv (jh d))),true),(isU (jb ((wHi (jh (jb x y))).tmod (jh d)) (wLo (jh (jb x y)))/jh d),true),(decide (jb ((wHi (jh (jb x y))).tmod (jh d)) (wLo (jh (jb x y)))%jh d≥wr IntKind.u64 (jh d - jb ((wHi (jh (jb x y))).tmod (jh d)) (wLo (jh (jb x y)))%jh d)),false),(isU ((wHi (jh (jb x y))).tmod (jh d)),true),(isU (wLo (jh (jb x y))),true),(isU (jh d),true),(decide ((wHi (jh (jb x y))).tmod (jh d)<jh d),true),(decide (jh d=0),false),(decide (jh d=0),false),(isI d,true),(isI x,true),(isU y,true),(d==0,false)]):=by kernel_rfl
def jiX (x y d:Int):Option (LV×List (Bool×Bool)):=
 bif (d==0) then some (LV.tup [V1.one (At.int IntKind.i64 0),V1.one (At.bool false)],[])
 else
  bif (decide (jb ((wHi (jh (jb x y))).tmod (jh d)) (wLo (jh (jb x y)))%jh d≥wr IntKind.u64 (jh d - jb ((wHi (jh (jb x y))).tmod (jh d)) (wLo (jh (jb x y)))%jh d))) then some (LV.tup [V1.one (At.int IntKind.i64 (if isI (sgn (!decide (jb x y<0)==decide (d<0)) (jb (wHi ((jb (wr IntKind.u64 ((wHi (jh (jb x y))).tdiv (jh d))) (jb ((wHi (jh (jb x y))).tmod (jh d)) (wLo (jh (jb x y)))/jh d)+jb 0 1)%340282366920938463463374607431768211456)) (wLo ((jb (wr IntKind.u64 ((wHi (jh (jb x y))).tdiv (jh d))) (jb ((wHi (jh (jb x y))).tmod (jh d)) (wLo (jh (jb x y)))/jh d)+jb 0 1)%340282366920938463463374607431768211456))))=true then sgn (!decide (jb x y<0)==decide (d<0)) (jb (wHi ((jb (wr IntKind.u64 ((wHi (jh (jb x y))).tdiv (jh d))) (jb ((wHi (jh (jb x y))).tmod (jh d)) (wLo (jh (jb x y)))/jh d)+jb 0 1)%340282366920938463463374607431768211456)) (wLo ((jb (wr IntKind.u64 ((wHi (jh (jb x y))).tdiv (jh d))) (jb ((wHi (jh (jb x y))).tmod (jh d)) (wLo (jh (jb x y)))/jh d)+jb 0 1)%340282366920938463463374607431768211456))) else 0)),V1.one (At.bool (isI (sgn (!decide (jb x y<0)==decide (d<0)) (jb (wHi ((jb (wr IntKind.u64 ((wHi (jh (jb x y))).tdiv (jh d))) (jb ((wHi (jh (jb x y))).tmod (jh d)) (wLo (jh (jb x y)))/jh d)+jb 0 1)%340282366920938463463374607431768211456)) (wLo ((jb (wr IntKind.u64 ((wHi (jh (jb x y))).tdiv (jh d))) (jb ((wHi (jh (jb x y))).tmod (jh d)) (wLo (jh (jb x y)))/jh d)+jb 0 1)%340282366920938463463374607431768211456))))))],[(isU (wHi ((jb (wr IntKind.u64 ((wHi (jh (jb x y))).tdiv (jh d))) (jb ((wHi (jh (jb x y))).tmod (jh d)) (wLo (jh (jb x y)))/jh d)+jb 0 1)%340282366920938463463374607431768211456)),true),(isU (wLo ((jb (wr IntKind.u64 ((wHi (jh (jb x y))).tdiv (jh d))) (jb ((wHi (jh (jb x y))).tmod (jh d)) (wLo (jh (jb x y)))/jh d)+jb 0 1)%340282366920938463463374607431768211456)),true),(isU (wr IntKind.u64 ((wHi (jh (jb x y))).tdiv (jh d))),true),(isU (jb ((wHi (jh (jb x y))).tmod (jh d)) (wLo (jh (jb x y)))/jh d),true),(isU 0,true),(isU 1,true),(isU ((wHi (jh (jb x y))).tmod (jh d)),true),(isU (wLo (jh (jb x y))),true),(isU (jh d),true),(decide ((wHi (jh (jb x y))).tmod (jh d)<jh d),true),(decide (jh d=0),false),(isI d,true),(isI x,true),(isU y,true)])
  else some (LV.tup [V1.one (At.int IntKind.i64 (if isI (sgn (!decide (jb x y<0)==decide (d<0)) (jb (wr IntKind.u64 ((wHi (jh (jb x y))).tdiv (jh d))) (jb ((wHi (jh (jb x y))).tmod (jh d)) (wLo (jh (jb x y)))/jh d)))=true then sgn (!decide (jb x y<0)==decide (d<0)) (jb (wr IntKind.u64 ((wHi (jh (jb x y))).tdiv (jh d))) (jb ((wHi (jh (jb x y))).tmod (jh d)) (wLo (jh (jb x y)))/jh d)) else 0)),V1.one (At.bool (isI (sgn (!decide (jb x y<0)==decide (d<0)) (jb (wr IntKind.u64 ((wHi (jh (jb x y))).tdiv (jh d))) (jb ((wHi (jh (jb x y))).tmod (jh d)) (wLo (jh (jb x y)))/jh d)))))],[(isU (wr IntKind.u64 ((wHi (jh (jb x y))).tdiv (jh d))),true),(isU (jb ((wHi (jh (jb x y))).tmod (jh d)) (wLo (jh (jb x y)))/jh d),true),(isU ((wHi (jh (jb x y))).tmod (jh d)),true),(isU (wLo (jh (jb x y))),true),(isU (jh d),true),(decide ((wHi (jh (jb x y))).tmod (jh d)<jh d),true),(decide (jh d=0),false),(isI d,true),(isI x,true),(isU y,true)])
def jrg:List LV→Option (LV×List (Bool×Bool))
 | [.v (.agg [.int .i64 x,.int .u64 y]),.v (.one (.int .i64 d))]=>jiX x y d
 | _=>none
theorem sumwdiv:SumOK Tryz.prog 87 (jp jrg):=by
 refine jM (z:=Zl) jjl (jg jjl Tryz.func87 (by kernel_rfl)) fun args v cs hF hc=> ?_
 unfold jrg at hF
 split at hF
 ·rename_i x y d
  unfold jiX at hF
  rcases ji (d==0) with h0 | h0
  ·rw [jH h0] at hF
   cases hF
   exact ⟨2000,[some true],_,jrd x y d,ja (h0) (jd)⟩
  ·rw [jB h0] at hF
   rcases ji (decide (jb ((wHi (jh (jb x y))).tmod (jh d)) (wLo (jh (jb x y)))%jh d≥wr IntKind.u64 (jh d - jb ((wHi (jh (jb x y))).tmod (jh d)) (wLo (jh (jb x y)))%jh d))) with h1 | h1
   ·rw [jH h1] at hF
    cases hF
    exact ⟨2000,[some false,some true],_,jre x y d,ja (jx (hc)) (ja (jx (jf (hc))) (ja (jx (jf (jf (hc)))) (ja (jx (jf (jf (jf (hc))))) (ja (jx (jf (jf (jf (jf (hc)))))) (ja (jx (jf (jf (jf (jf (jf (hc))))))) (ja (h1) (ja (jx (jf (jf (jf (jf (jf (jf (hc)))))))) (ja (jx (jf (jf (jf (jf (jf (jf (jf (hc))))))))) (ja (jx (jf (jf (jf (jf (jf (jf (jf (jf (hc)))))))))) (ja (jx (jf (jf (jf (jf (jf (jf (jf (jf (jf (hc))))))))))) (ja (jx (jf (jf (jf (jf (jf (jf (jf (jf (jf (jf (hc)))))))))))) (ja (jx (jf (jf (jf (jf (jf (jf (jf (jf (jf (jf (hc)))))))))))) (ja (jx (jf (jf (jf (jf (jf (jf (jf (jf (jf (jf (jf (hc))))))))))))) (ja (jx (jf (jf (jf (jf (jf (jf (jf (jf (jf (jf (jf (jf (hc)))))))))))))) (ja (jx (jf (jf (jf (jf (jf (jf (jf (jf (jf (jf (jf (jf (jf (hc))))))))))))))) (ja (h0) (jd)))))))))))))))))⟩
   ·rw [jB h1] at hF
    cases hF
    exact ⟨2000,[some false,some false],_,jrf x y d,ja (jx (hc)) (ja (jx (jf (hc))) (ja (h1) (ja (jx (jf (jf (hc)))) (ja (jx (jf (jf (jf (hc))))) (ja (jx (jf (jf (jf (jf (hc)))))) (ja (jx (jf (jf (jf (jf (jf (hc))))))) (ja (jx (jf (jf (jf (jf (jf (jf (hc)))))))) (ja (jx (jf (jf (jf (jf (jf (jf (hc)))))))) (ja (jx (jf (jf (jf (jf (jf (jf (jf (hc))))))))) (ja (jx (jf (jf (jf (jf (jf (jf (jf (jf (hc)))))))))) (ja (jx (jf (jf (jf (jf (jf (jf (jf (jf (jf (hc))))))))))) (ja (h0) (jd)))))))))))))⟩
 ·cases hF
theorem jiY {B b:Int} (hb:0<b):jb (wHi B/b) (jb (wHi B%b) (wLo B)/b)=B/b∧jb (wHi B%b) (wLo B)%b=B%b:=by
 have e1:=Int.emod_add_mul_ediv (wHi B) b
 have e2:=Int.emod_add_mul_ediv (jb (wHi B%b) (wLo B)) b
 have m0:=Int.emod_nonneg (jb (wHi B%b) (wLo B)) (show b≠0 by omega)
 have m1:=Int.emod_lt_of_pos (jb (wHi B%b) (wLo B)) hb
 have e3:=jW B
 generalize hq:wHi B/b=q at *
 generalize hr:wHi B%b=r at *
 generalize ht:jb r (wLo B)/b=t at *
 generalize hs:jb r (wLo B)%b=s at *
 have e4:B=jb q t*b+s:=by
  have:B=wHi B*18446744073709551616+wLo B:=by rw [←e3];simp only [jld _ _ (qG B).1 (qG B).2,jle _ _ (qG B).1 (qG B).2];rfl
  rw [this,←e1]
  have e5:jb r (wLo B)=r*18446744073709551616+wLo B:=rfl
  rw [e5] at e2
  unfold jb
  grind
 exact ⟨(Js e4 m0 m1).symm,(q8 e4 m0 m1).symm⟩
def jCh:List LV→Option (LV×List (Bool×Bool))
 | [.v (.agg [.int .i64 x,.int .u64 y]),.v (.one (.int .i64 d))]=>
  bif (d==0) then some (.tup [.one (.int .i64 0),.one (.bool false)],[])
  else some (.tup [.one (.int .i64 (if isI (xU (jb x y) d)=true then xU (jb x y) d else 0)),.one (.bool (isI (xU (jb x y) d)))],[(isI x,true),(isU y,true),(isI d,true)])
 | _=>none
theorem sumDiv:SumOK Tryz.prog 87 (jp jCh):=by
 refine sumwdiv.pure_re fun args v cs hF hc=> ?_
 unfold jCh at hF
 split at hF
 ·rename_i x y d
  rcases ji (d==0) with hd | hd
  ·rw [jH hd] at hF
   cases hF
   exact ⟨[],jH hd,jd⟩
  ·rw [jB hd] at hF
   cases hF
   simp only [jZ,isI_iff,isU_iff] at hc
   obtain ⟨⟨hx0,hx1⟩,⟨hy0,hy1⟩,⟨hd0,hd1⟩,-⟩:=hc
   show ∃cs',jiX x y d=_∧_
   have hdn:d≠0:=by simpa using hd
   have hv0: -170141183460469231731687303715884105728≤jb x y:=by unfold jb;omega
   have hv1:jb x y<170141183460469231731687303715884105728:=by unfold jb;omega
   have hB0:=qC (jb x y)
   have hB1:jh (jb x y)≤170141183460469231731687303715884105728:=by unfold jh;split <;> omega
   have hb0:0<jh d:=by unfold jh;split <;> omega
   have hb1:jh d≤9223372036854775808:=jvF hd0 hd1
   have hdef:xU (jb x y) d=sgn (!decide (jb x y<0)==decide (d<0)) (jcA (jh (jb x y)) (jh d)):=rfl
   rw [hdef]
   unfold jiX
   rw [jB hd]
   generalize jh (jb x y)=B at *
   generalize jh d=b at *
   have hh:=jp2 B hB0 (by omega)
   have hl:=qG B
   obtain ⟨L1,L2⟩:=jiY (B:=B) hb0
   have m0:=Int.emod_nonneg (wHi B) (show b≠0 by omega)
   have m1:=Int.emod_lt_of_pos (wHi B) hb0
   have t1:(wHi B).tmod b=wHi B%b:=jca hh.1
   have t2:(wHi B).tdiv b=wHi B/b:=Qg hh.1
   have d0:0≤wHi B/b:=Int.ediv_nonneg hh.1 (by omega)
   have d1:wHi B/b≤wHi B:=Int.ediv_le_self _ hh.1
   have t3:wr .u64 (wHi B/b)=wHi B/b:=kI d0 (by omega)
   have c0:0≤jb (wHi B%b) (wLo B):=by unfold jb;omega
   have q0:0≤jb (wHi B%b) (wLo B)/b:=Int.ediv_nonneg c0 (by omega)
   have q1:jb (wHi B%b) (wLo B)/b<18446744073709551616:=by
    refine Int.ediv_lt_of_lt_mul hb0 ?_
    have:(wHi B%b+1)*18446744073709551616≤b*18446744073709551616:=Int.mul_le_mul_of_nonneg_right (by omega) (by omega)
    unfold jb
    rw [Int.mul_comm 18446744073709551616 b]
    omega
   have r0:=Int.emod_nonneg B (show b≠0 by omega)
   have r1:=Int.emod_lt_of_pos B hb0
   have t4:wr .u64 (b - B%b)=b - B%b:=kI (by omega) (by omega)
   have Q0:0≤B/b:=Int.ediv_nonneg hB0 (by omega)
   have Q1:B/b≤B:=Int.ediv_le_self _ hB0
   have e01:jb 0 1=1:=rfl
   have t5:(B/b+1)%340282366920938463463374607431768211456=B/b+1:=by omega
   simp only [t1,t2,t3,L1,L2,t4,e01,t5,jW]
   by_cases hr:B%b≥b - B%b
   ·rw [jH (decide_eq_true hr)]
    have eq:jcA B b=B/b+1:=if_pos hr
    rw [eq]
    refine ⟨_,rfl, ?_⟩
    simp only [jZ,ql,isU_iff,isI_iff,decide_eq_true_eq,decide_eq_false_iff_not]
    repeat' apply And.intro
    all_goals first | exact jd | (unfold wHi;omega) | (unfold wLo;omega) | omega
   ·rw [jB (decide_eq_false hr)]
    have eq:jcA B b=B/b:=if_neg hr
    rw [eq]
    refine ⟨_,rfl, ?_⟩
    simp only [jZ,ql,isU_iff,isI_iff,decide_eq_true_eq,decide_eq_false_iff_not]
    repeat' apply And.intro
    all_goals first | exact jd | (unfold wHi;omega) | (unfold wLo;omega) | omega
 ·cases hF
end Go.Proofs.YtnlhpaidmiogbaaGreat

/- fx: the table of what is known so far. -/
namespace Go.Proofs.YtnlhpaidmiogbaaGreat
open Go.Lr
def jkz:List LV→Option (LV×List (Bool×Bool))
 | [.v (.agg [.int .i64 x,.int .u64 y]),.v (.one (.int .i64 d))]=>
  some (.tup [.one (.int .i64 (if isI (xU (jb x y) d)=true then xU (jb x y) d else 0)),.one (.bool (isI (xU (jb x y) d)))],[(d==0,false),(isI x,true),(isU y,true),(isI d,true)])
 | _=>none
theorem jkA:SumOK Tryz.prog 87 (jp jkz):=by
 refine sumDiv.pure_re fun args v cs hF hc=> ?_
 unfold jkz at hF
 split at hF
 ·cases hF
  exact ⟨_,jB (jx hc),jf hc⟩
 ·cases hF
def jeR:List LV→Option (LV×List (Bool×Bool))
 | [.v (.agg [.int .i64 x,.int .u64 y])]=>
  some (.tup [.one (.int .i64 (if isI (kp (jb x y))=true then kp (jb x y) else 0)),.one (.bool (isI (kp (jb x y))))],[(decide (x<0),false),(isI x,true),(isU y,true)])
 | _=>none
theorem jhu:SumOK Tryz.prog 184 (jp jeR):=by
 refine sumRoot.pure_re fun args v cs hF hc=> ?_
 unfold jeR at hF
 split at hF
 ·rename_i x y
  cases hF
  have h0:=jx hc
  refine ⟨[(isI x,true),(isU y,true)], ?_,jf hc⟩
  simp only [jh5,h0]
 ·cases hF
def S11:FuncId→Option SumK:=more (more (more (more S8 184 (jp jeR)) 87 (jp jkz)) 92 (jv 61 jce)) 43 (jv 61 jxn)
theorem sound11:Sound Tryz.prog S11:=(((sound8.more jhu).more jkA).more jcf).more joJ
end Go.Proofs.YtnlhpaidmiogbaaGreat

/- fx: end, Sub, Abs, by every path of their runs (printed), and what they come to. -/
namespace Go.Proofs.YtnlhpaidmiogbaaGreat
open Go.Lr
set_option linter.unusedVariables false
set_option linter.unusedSimpArgs false
theorem joK (a:Int) (ok neg:Bool) (hb:Bool):(jR Tryz.prog S11 Zl 2000 88 [A0,.v (.one (.int .i64 a)),.v (.one (.bool ok)),.v (.one (.bool neg))] [(0,flag 61 hb)] 1 [some true,some true]).map qn=some (LV.v (V1.one (At.int IntKind.i64 (-1152921504606846976))),some { ty:=61,fr:=(0,0),es:=0,cells:=[At.bool true] },[(neg,true),(!ok,true)]):=by kernel_rfl
theorem joL (a:Int) (ok neg:Bool) (hb:Bool):(jR Tryz.prog S11 Zl 2000 88 [A0,.v (.one (.int .i64 a)),.v (.one (.bool ok)),.v (.one (.bool neg))] [(0,flag 61 hb)] 1 [some true,some false]).map qn=some (LV.v (V1.one (At.int IntKind.i64 1152921504606846976)),some { ty:=61,fr:=(0,0),es:=0,cells:=[At.bool true] },[(neg,false),(!ok,true)]):=by kernel_rfl
theorem joM (a:Int) (ok neg:Bool) (hb:Bool):(jR Tryz.prog S11 Zl 2000 88 [A0,.v (.one (.int .i64 a)),.v (.one (.bool ok)),.v (.one (.bool neg))] [(0,flag 61 hb)] 1 [some false]).map qn=some (LV.v (V1.one (At.int IntKind.i64 (jc a))),some { ty:=61,fr:=(0,0),es:=0,cells:=[At.bool (hb||jV a)] },[(!ok,false)]):=by kernel_rfl
def jhv (a:Int) (ok neg:Bool) (hb:Bool):Option (LV×Bool×List (Bool×Bool)):=
 bif (!ok) then
  bif (neg) then some (LV.v (V1.one (At.int IntKind.i64 (-1152921504606846976))),(true),[])
  else some (LV.v (V1.one (At.int IntKind.i64 1152921504606846976)),(true),[])
 else some (LV.v (V1.one (At.int IntKind.i64 (jc a))),(hb||jV a),[])
def joN:List LV→Bool→Option (LV×Bool×List (Bool×Bool))
 | [.v (.one (.int .i64 a)),.v (.one (.bool ok)),.v (.one (.bool neg))],hb=>jhv a ok neg hb
 | _,_=>none
theorem sumxend:SumOK Tryz.prog 88 (jv 61 joN):=by
 refine jT (z:=Zl) sound11 (jg sound11 Tryz.func88 (by kernel_rfl)) fun args hb v h' cs hF hc=> ?_
 unfold joN at hF
 split at hF
 ·rename_i a ok neg
  unfold jhv at hF
  rcases ji (!ok) with h0 | h0
  ·rw [jH h0] at hF
   rcases ji (neg) with h1 | h1
   ·rw [jH h1] at hF
    cases hF
    exact ⟨rfl,2000,[some true,some true],_,joK a ok neg hb,ja (h1) (ja (h0) (jd))⟩
   ·rw [jB h1] at hF
    cases hF
    exact ⟨rfl,2000,[some true,some false],_,joL a ok neg hb,ja (h1) (ja (h0) (jd))⟩
  ·rw [jB h0] at hF
   cases hF
   exact ⟨rfl,2000,[some false],_,joM a ok neg hb,ja (h0) (jd)⟩
 ·cases hF
theorem joO (a b:Int) (hb:Bool):(jR Tryz.prog S11 Zl 2000 197 [A0,.v (.one (.int .i64 a)),.v (.one (.int .i64 b))] [(0,flag 61 hb)] 1 []).map qn=some (LV.v (V1.one (At.int IntKind.i64 (jc (wr IntKind.i64 (jc a - jc b))))),some { ty:=61,fr:=(0,0),es:=0,cells:=[At.bool (hb||jV a||jV b||jV (wr IntKind.i64 (jc a - jc b)))] },[]):=by kernel_rfl
def jhw (a b:Int) (hb:Bool):Option (LV×Bool×List (Bool×Bool)):=some (LV.v (V1.one (At.int IntKind.i64 (jc (wr IntKind.i64 (jc a - jc b))))),(hb||jV a||jV b||jV (wr IntKind.i64 (jc a - jc b))),[])
def joP:List LV→Bool→Option (LV×Bool×List (Bool×Bool))
 | [.v (.one (.int .i64 a)),.v (.one (.int .i64 b))],hb=>jhw a b hb
 | _,_=>none
theorem sumxsub:SumOK Tryz.prog 197 (jv 61 joP):=by
 refine jT (z:=Zl) sound11 (jg sound11 Tryz.func197 (by kernel_rfl)) fun args hb v h' cs hF hc=> ?_
 unfold joP at hF
 split at hF
 ·rename_i a b
  unfold jhw at hF
  cases hF
  exact ⟨rfl,2000,[],_,joO a b hb,jd⟩
 ·cases hF
theorem joQ (a:Int):(jR Tryz.prog S11 Zl 2000 110 [.v (.one (.int .i64 a))] [] 0 [some true,some true,some true,none]).map (fun r=>(r.1,r.2.2.2))=some (LV.v (V1.one (At.int IntKind.i64 1152921504606846976)),[(decide (a≥1152921504606846976),true),(decide (a≥1152921504606846976),true),(decide (a≥1152921504606846976),true)]):=by kernel_rfl
theorem joR (a:Int):(jR Tryz.prog S11 Zl 2000 110 [.v (.one (.int .i64 a))] [] 0 [some false,some false,some false,some true]).map (fun r=>(r.1,r.2.2.2))=some (LV.v (V1.one (At.int IntKind.i64 1152921504606846976)),[(decide (a≤ -1152921504606846976),true),(decide (a≥1152921504606846976),false),(decide (a≥1152921504606846976),false),(decide (a≥1152921504606846976),false)]):=by kernel_rfl
theorem joS (a:Int):(jR Tryz.prog S11 Zl 2000 110 [.v (.one (.int .i64 a))] [] 0 [some false,some false,some false,some false,some true]).map (fun r=>(r.1,r.2.2.2))=some (LV.v (V1.one (At.int IntKind.i64 (wr IntKind.i64 (0 - a)))),[(decide (a<0),true),(decide (a≤ -1152921504606846976),false),(decide (a≥1152921504606846976),false),(decide (a≥1152921504606846976),false),(decide (a≥1152921504606846976),false)]):=by kernel_rfl
theorem joT (a:Int):(jR Tryz.prog S11 Zl 2000 110 [.v (.one (.int .i64 a))] [] 0 [some false,some false,some false,some false,some false]).map (fun r=>(r.1,r.2.2.2))=some (LV.v (V1.one (At.int IntKind.i64 a)),[(decide (a<0),false),(decide (a≤ -1152921504606846976),false),(decide (a≥1152921504606846976),false),(decide (a≥1152921504606846976),false),(decide (a≥1152921504606846976),false)]):=by kernel_rfl
def jhx (a:Int):Option (LV×List (Bool×Bool)):=
 bif (decide (a≥1152921504606846976)) then some (LV.v (V1.one (At.int IntKind.i64 1152921504606846976)),[])
 else
  bif (decide (a≤ -1152921504606846976)) then some (LV.v (V1.one (At.int IntKind.i64 1152921504606846976)),[])
  else
   bif (decide (a<0)) then some (LV.v (V1.one (At.int IntKind.i64 (wr IntKind.i64 (0 - a)))),[])
   else some (LV.v (V1.one (At.int IntKind.i64 a)),[])
def joU:List LV→Option (LV×List (Bool×Bool))
 | [.v (.one (.int .i64 a))]=>jhx a
 | _=>none
theorem sumxabs:SumOK Tryz.prog 110 (jp joU):=by
 refine jM (z:=Zl) sound11 (jg sound11 Tryz.func110 (by kernel_rfl)) fun args v cs hF hc=> ?_
 unfold joU at hF
 split at hF
 ·rename_i a
  unfold jhx at hF
  rcases ji (decide (a≥1152921504606846976)) with h0 | h0
  ·rw [jH h0] at hF
   cases hF
   exact ⟨2000,[some true,some true,some true,none],_,joQ a,ja (h0) (ja (h0) (ja (h0) (jd)))⟩
  ·rw [jB h0] at hF
   rcases ji (decide (a≤ -1152921504606846976)) with h1 | h1
   ·rw [jH h1] at hF
    cases hF
    exact ⟨2000,[some false,some false,some false,some true],_,joR a,ja (h1) (ja (h0) (ja (h0) (ja (h0) (jd))))⟩
   ·rw [jB h1] at hF
    rcases ji (decide (a<0)) with h2 | h2
    ·rw [jH h2] at hF
     cases hF
     exact ⟨2000,[some false,some false,some false,some false,some true],_,joS a,ja (h2) (ja (h1) (ja (h0) (ja (h0) (ja (h0) (jd)))))⟩
    ·rw [jB h2] at hF
     cases hF
     exact ⟨2000,[some false,some false,some false,some false,some false],_,joT a,ja (h2) (ja (h1) (ja (h0) (ja (h0) (ja (h0) (jd)))))⟩
 ·cases hF
theorem yT (a:Int): -1152921504606846976≤jc a∧jc a≤1152921504606846976:=by
 unfold jc jw;(repeat' split) <;> omega
theorem jL {a:Int} (h0: -1152921504606846976≤a) (h1:a≤1152921504606846976):jc a=a:=by
 unfold jc jw;rw [if_neg (by omega),if_neg (by omega),if_neg (by omega)]
theorem xm {a:Int} (h0: -1152921504606846976≤a) (h1:a≤1152921504606846976):jV a=false:=by
 unfold jV jF;simp;omega
theorem Yv {a:Int} (h:a < -1152921504606846976∨1152921504606846976<a):jV a=true:=by
 unfold jV jF;simp;omega
theorem joV {a:Int} (h:a < -1152921504606846976):jc a = -1152921504606846976:=by
 unfold jc jw;rw [if_neg (by omega),if_pos (by omega)]
theorem jeS {a:Int} (h:1152921504606846976<a):jc a=1152921504606846976:=by
 unfold jc jw;rw [if_neg (by omega),if_neg (by omega),if_pos (by omega)]
def jea (a:Int) (ok neg:Bool):Int:=bif ok then jc a else bif neg then -1152921504606846976 else 1152921504606846976
def jhy (a:Int) (ok:Bool):Bool:=bif ok then jV a else true
def jxo:List LV→Bool→Option (LV×Bool×List (Bool×Bool))
 | [.v (.one (.int .i64 a)),.v (.one (.bool ok)),.v (.one (.bool neg))],hb=>some (I (jea a ok neg),hb||jhy a ok,[])
 | _,_=>none
theorem joW:SumOK Tryz.prog 88 (jv 61 jxo):=by
 refine sumxend.acc_re fun args hb v h' cs hF _=> ?_
 unfold jxo at hF
 split at hF
 ·rename_i a ok neg
  cases hF
  refine ⟨[], ?_,jd⟩
  show jhv a ok neg hb=_
  unfold jhv
  cases ok <;> cases neg <;> simp [jea,jhy,I]
 ·cases hF
def xW (a b:Int):Int:=jc (jc a - jc b)
def jha (a b:Int):Bool:=jV a||(jV b||jV (jc a - jc b))
def jxp:List LV→Bool→Option (LV×Bool×List (Bool×Bool))
 | [.v (.one (.int .i64 a)),.v (.one (.int .i64 b))],hb=>some (I (xW a b),hb||jha a b,[])
 | _,_=>none
theorem joX:SumOK Tryz.prog 197 (jv 61 jxp):=by
 refine sumxsub.acc_re fun args hb v h' cs hF _=> ?_
 unfold jxp at hF
 split at hF
 ·rename_i a b
  cases hF
  refine ⟨[], ?_,jd⟩
  show jhw a b hb=_
  have ha:=yT a
  have hb':=yT b
  have e:wr .i64 (jc a - jc b)=jc a - jc b:=xu (by omega) (by omega)
  unfold jhw
  rw [e]
  simp [xW,jha,I,Bool.or_assoc]
 ·cases hF
def jO (a:Int):Int:=if a≥1152921504606846976 then 1152921504606846976 else if a≤ -1152921504606846976 then 1152921504606846976 else if a<0 then -a else a
def jkB:List LV→Option (LV×List (Bool×Bool))
 | [.v (.one (.int .i64 a))]=>some (I (jO a),[])
 | _=>none
theorem jkC:SumOK Tryz.prog 110 (jp jkB):=by
 refine sumxabs.pure_re fun args v cs hF _=> ?_
 unfold jkB at hF
 split at hF
 ·rename_i a
  cases hF
  refine ⟨[], ?_,jd⟩
  show jhx a=_
  unfold jhx jO
  by_cases h1:a≥1152921504606846976
  ·rw [jH (decide_eq_true h1),if_pos h1];rfl
  ·rw [jB (decide_eq_false h1),if_neg h1]
   by_cases h2:a≤ -1152921504606846976
   ·rw [jH (decide_eq_true h2),if_pos h2];rfl
   ·rw [jB (decide_eq_false h2),if_neg h2]
    by_cases h3:a<0
    ·rw [jH (decide_eq_true h3),if_pos h3]
     have e:wr .i64 (0 - a) = -a:=by rw [jlc];unfold w64;omega
     rw [e];rfl
    ·rw [jB (decide_eq_false h3),if_neg h3];rfl
 ·cases hF
def S12:FuncId→Option SumK:=more (more (more S11 88 (jv 61 jxo)) 197 (jv 61 jxp)) 110 (jp jkB)
theorem sound12:Sound Tryz.prog S12:=((sound11.more joW).more joX).more jkC
end Go.Proofs.YtnlhpaidmiogbaaGreat

/- fx: round, by, by every path of their runs (printed), and what they come to. -/
namespace Go.Proofs.YtnlhpaidmiogbaaGreat
open Go.Lr
set_option linter.unusedVariables false
set_option linter.unusedSimpArgs false
theorem jhz (x y s:Int) (hb:Bool):(jR Tryz.prog S12 Zl 2000 109 [A0,.v (.agg [.int .i64 x,.int .u64 y]),.v (.one (.int .i64 s))] [(0,flag 61 hb)] 1 [some true,some true,some true,none]).map qn=some (LV.v (V1.one (At.int IntKind.i64 0)),some { ty:=61,fr:=(0,0),es:=0,cells:=[At.bool true] },[(decide (s<0),true),(decide (s<0),true),(decide (s<0),true)]):=by kernel_rfl
theorem jhA (x y s:Int) (hb:Bool):(jR Tryz.prog S12 Zl 2000 109 [A0,.v (.agg [.int .i64 x,.int .u64 y]),.v (.one (.int .i64 s))] [(0,flag 61 hb)] 1 [some false,some false,some false,some true]).map qn=some (LV.v (V1.one (At.int IntKind.i64 0)),some { ty:=61,fr:=(0,0),es:=0,cells:=[At.bool true] },[(decide (s>120),true),(decide (s<0),false),(decide (s<0),false),(decide (s<0),false)]):=by kernel_rfl
theorem jhB (x y s:Int) (hb:Bool):(jR Tryz.prog S12 Zl 2000 109 [A0,.v (.agg [.int .i64 x,.int .u64 y]),.v (.one (.int .i64 s))] [(0,flag 61 hb)] 1 [some false,some false,some false,some false]).map qn=some (LV.v (V1.one (At.int IntKind.i64 (jea (if isI (kB (jb x y) s.toNat)=true then kB (jb x y) s.toNat else 0) (isI (kB (jb x y) s.toNat)) (decide (x<0))))),some { ty:=61,fr:=(0,0),es:=0,cells:=[At.bool (hb||jhy (if isI (kB (jb x y) s.toNat)=true then kB (jb x y) s.toNat else 0) (isI (kB (jb x y) s.toNat)))] },[(isI x,true),(isU y,true),(decide (0≤s)&&decide (s≤126),true),(decide (s>120),false),(decide (s<0),false),(decide (s<0),false),(decide (s<0),false)]):=by kernel_rfl
def Yw (x y s:Int) (hb:Bool):Option (LV×Bool×List (Bool×Bool)):=
 bif (decide (s<0)) then some (LV.v (V1.one (At.int IntKind.i64 0)),(true),[])
 else
  bif (decide (s>120)) then some (LV.v (V1.one (At.int IntKind.i64 0)),(true),[])
  else some (LV.v (V1.one (At.int IntKind.i64 (jea (if isI (kB (jb x y) s.toNat)=true then kB (jb x y) s.toNat else 0) (isI (kB (jb x y) s.toNat)) (decide (x<0))))),(hb||jhy (if isI (kB (jb x y) s.toNat)=true then kB (jb x y) s.toNat else 0) (isI (kB (jb x y) s.toNat))),[(isI x,true),(isU y,true),(decide (0≤s)&&decide (s≤126),true)])
def jeT:List LV→Bool→Option (LV×Bool×List (Bool×Bool))
 | [.v (.agg [.int .i64 x,.int .u64 y]),.v (.one (.int .i64 s))],hb=>Yw x y s hb
 | _,_=>none
theorem sumxround:SumOK Tryz.prog 109 (jv 61 jeT):=by
 refine jT (z:=Zl) sound12 (jg sound12 Tryz.func109 (by kernel_rfl)) fun args hb v h' cs hF hc=> ?_
 unfold jeT at hF
 split at hF
 ·rename_i x y s
  unfold Yw at hF
  rcases ji (decide (s<0)) with h0 | h0
  ·rw [jH h0] at hF
   cases hF
   exact ⟨rfl,2000,[some true,some true,some true,none],_,jhz x y s hb,ja (h0) (ja (h0) (ja (h0) (jd)))⟩
  ·rw [jB h0] at hF
   rcases ji (decide (s>120)) with h1 | h1
   ·rw [jH h1] at hF
    cases hF
    exact ⟨rfl,2000,[some false,some false,some false,some true],_,jhA x y s hb,ja (h1) (ja (h0) (ja (h0) (ja (h0) (jd))))⟩
   ·rw [jB h1] at hF
    cases hF
    exact ⟨rfl,2000,[some false,some false,some false,some false],_,jhB x y s hb,ja (jx (hc)) (ja (jx (jf (hc))) (ja (jx (jf (jf (hc)))) (ja (h1) (ja (h0) (ja (h0) (ja (h0) (jd)))))))⟩
 ·cases hF
theorem jxq (x y d:Int) (hb:Bool):(jR Tryz.prog S12 Zl 2000 41 [A0,.v (.agg [.int .i64 x,.int .u64 y]),.v (.one (.int .i64 d))] [(0,flag 61 hb)] 1 [some true,some true]).map qn=some (LV.v (V1.one (At.int IntKind.i64 0)),some { ty:=61,fr:=(0,0),es:=0,cells:=[At.bool true] },[(x==0&&(y==0&&true),true),(d==0,true)]):=by kernel_rfl
theorem jxr (x y d:Int) (hb:Bool):(jR Tryz.prog S12 Zl 2000 41 [A0,.v (.agg [.int .i64 x,.int .u64 y]),.v (.one (.int .i64 d))] [(0,flag 61 hb)] 1 [some true,some false,some true]).map qn=some (LV.v (V1.one (At.int IntKind.i64 (-1152921504606846976))),some { ty:=61,fr:=(0,0),es:=0,cells:=[At.bool true] },[(decide (x<0),true),(x==0&&(y==0&&true),false),(d==0,true)]):=by kernel_rfl
theorem jxs (x y d:Int) (hb:Bool):(jR Tryz.prog S12 Zl 2000 41 [A0,.v (.agg [.int .i64 x,.int .u64 y]),.v (.one (.int .i64 d))] [(0,flag 61 hb)] 1 [some true,some false,some false]).map qn=some (LV.v (V1.one (At.int IntKind.i64 1152921504606846976)),some { ty:=61,fr:=(0,0),es:=0,cells:=[At.bool true] },[(decide (x<0),false),(x==0&&(y==0&&true),false),(d==0,true)]):=by kernel_rfl
theorem jxt (x y d:Int) (hb:Bool):(jR Tryz.prog S12 Zl 2000 41 [A0,.v (.agg [.int .i64 x,.int .u64 y]),.v (.one (.int .i64 d))] [(0,flag 61 hb)] 1 [some false]).map qn=some (LV.v (V1.one (At.int IntKind.i64 (jea (if isI (xU (jb x y) d)=true then xU (jb x y) d else 0) (isI (xU (jb x y) d)) !decide (x<0)==decide (d<0)))),some { ty:=61,fr:=(0,0),es:=0,cells:=[At.bool (hb||jhy (if isI (xU (jb x y) d)=true then xU (jb x y) d else 0) (isI (xU (jb x y) d)))] },[(d==0,false),(isI x,true),(isU y,true),(isI d,true),(d==0,false)]):=by kernel_rfl
def jvj (x y d:Int) (hb:Bool):Option (LV×Bool×List (Bool×Bool)):=
 bif (d==0) then
  bif (x==0&&(y==0&&true)) then some (LV.v (V1.one (At.int IntKind.i64 0)),(true),[])
  else
   bif (decide (x<0)) then some (LV.v (V1.one (At.int IntKind.i64 (-1152921504606846976))),(true),[])
   else some (LV.v (V1.one (At.int IntKind.i64 1152921504606846976)),(true),[])
 else some (LV.v (V1.one (At.int IntKind.i64 (jea (if isI (xU (jb x y) d)=true then xU (jb x y) d else 0) (isI (xU (jb x y) d)) !decide (x<0)==decide (d<0)))),(hb||jhy (if isI (xU (jb x y) d)=true then xU (jb x y) d else 0) (isI (xU (jb x y) d))),[(isI x,true),(isU y,true),(isI d,true)])
def jBU:List LV→Bool→Option (LV×Bool×List (Bool×Bool))
 | [.v (.agg [.int .i64 x,.int .u64 y]),.v (.one (.int .i64 d))],hb=>jvj x y d hb
 | _,_=>none
theorem sumxby:SumOK Tryz.prog 41 (jv 61 jBU):=by
 refine jT (z:=Zl) sound12 (jg sound12 Tryz.func41 (by kernel_rfl)) fun args hb v h' cs hF hc=> ?_
 unfold jBU at hF
 split at hF
 ·rename_i x y d
  unfold jvj at hF
  rcases ji (d==0) with h0 | h0
  ·rw [jH h0] at hF
   rcases ji (x==0&&(y==0&&true)) with h1 | h1
   ·rw [jH h1] at hF
    cases hF
    exact ⟨rfl,2000,[some true,some true],_,jxq x y d hb,ja (h1) (ja (h0) (jd))⟩
   ·rw [jB h1] at hF
    rcases ji (decide (x<0)) with h2 | h2
    ·rw [jH h2] at hF
     cases hF
     exact ⟨rfl,2000,[some true,some false,some true],_,jxr x y d hb,ja (h2) (ja (h1) (ja (h0) (jd)))⟩
    ·rw [jB h2] at hF
     cases hF
     exact ⟨rfl,2000,[some true,some false,some false],_,jxs x y d hb,ja (h2) (ja (h1) (ja (h0) (jd)))⟩
  ·rw [jB h0] at hF
   cases hF
   exact ⟨rfl,2000,[some false],_,jxt x y d hb,ja (h0) (ja (jx (hc)) (ja (jx (jf (hc))) (ja (jx (jf (jf (hc)))) (ja (h0) (jd)))))⟩
 ·cases hF
theorem jeU {v:Int} {neg:Bool} (h0:v < -9223372036854775808→neg=true) (h1:9223372036854775808≤v→neg=false):jea (if isI v=true then v else 0) (isI v) neg=jc v:=by
 unfold jea
 by_cases h:isI v=true
 ·rw [h];simp
 ·have h':isI v=false:=by simpa using h
  rw [h']
  have hv:¬(-9223372036854775808≤v∧v<9223372036854775808):=fun hh=>h (isI_iff.2 hh)
  by_cases hn:v<0
  ·rw [h0 (by omega),joV (a:=v) (by omega)];rfl
  ·rw [h1 (by omega),jeS (a:=v) (by omega)];rfl
theorem jaY (v:Int):jhy (if isI v=true then v else 0) (isI v)=jV v:=by
 unfold jhy
 by_cases h:isI v=true
 ·rw [h];simp
 ·have h':isI v=false:=by simpa using h
  rw [h']
  have hv:¬(-9223372036854775808≤v∧v<9223372036854775808):=fun hh=>h (isI_iff.2 hh)
  rw [Yv (a:=v) (by omega)];rfl
theorem joY {x:Int}:sgn true x = -x:=rfl
theorem joZ {x:Int}:sgn false x=x:=rfl
theorem jo0 (w:Int) (s:Nat):0≤(jh w+yW s)/jj s:=Int.ediv_nonneg (by have:=qC w;have:=(Zi s).1;omega) (by have:=kg s;omega)
theorem jo1 {a b:Int} (ha:0≤a) (hb:0≤b):0≤jcA a b:=by
 have:=Int.ediv_nonneg ha hb
 unfold jcA;split <;> omega
theorem jeV (w:Int) (s:Nat) (n:Bool) (hn:n=decide (w<0)):jea (if isI (kB w s)=true then kB w s else 0) (isI (kB w s)) n=jc (kB w s):=by
 have h:=jo0 w s
 subst hn
 refine jeU (fun h1=> ?_) (fun h1=> ?_) <;> unfold kB at h1 <;> cases hw:decide (w<0) <;> rw [hw] at h1 <;> simp only [joY,joZ] at h1 <;> first | rfl | (exfalso;omega)
theorem jkD (w d:Int) (n:Bool) (hn:n = !(decide (w<0)==decide (d<0))):jea (if isI (xU w d)=true then xU w d else 0) (isI (xU w d)) n=jc (xU w d):=by
 have h:=jo1 (qC w) (qC d)
 subst hn
 refine jeU (fun h1=> ?_) (fun h1=> ?_) <;> unfold xU at h1 <;> cases hw: !(decide (w<0)==decide (d<0)) <;> rw [hw] at h1 <;> simp only [joY,joZ] at h1 <;> first | rfl | (exfalso;omega)
def zR (w s:Int):Int:=if s<0 then 0 else if s>120 then 0 else jc (kB w s.toNat)
def JK (w s:Int):Bool:=decide (s<0)||(decide (s>120)||jV (kB w s.toNat))
def jaZ:List LV→Bool→Option (LV×Bool×List (Bool×Bool))
 | [.v (.agg [.int .i64 x,.int .u64 y]),.v (.one (.int .i64 s))],hb=>some (I (zR (jb x y) s),hb||JK (jb x y) s,[(isI x,true),(isU y,true)])
 | _,_=>none
theorem Yx {x y:Int} (h0:0≤y) (h1:y<18446744073709551616):decide (x<0)=decide (jb x y<0):=by
 unfold jb;congr 1;apply propext;constructor <;> intro h <;> omega
theorem jeW:SumOK Tryz.prog 109 (jv 61 jaZ):=by
 refine sumxround.acc_re fun args hb v h' cs hF hc=> ?_
 unfold jaZ at hF
 split at hF
 ·rename_i x y s
  cases hF
  show ∃cs',Yw x y s hb=_∧_
  simp only [jZ,isI_iff,isU_iff] at hc
  obtain ⟨⟨hx0,hx1⟩,⟨hy0,hy1⟩,-⟩:=hc
  unfold Yw zR JK
  by_cases h1:s<0
  ·rw [jH (decide_eq_true h1),if_pos h1,decide_eq_true h1]
   exact ⟨_,by simp [I],jd⟩
  ·rw [jB (decide_eq_false h1),if_neg h1,decide_eq_false h1]
   by_cases h2:s>120
   ·rw [jH (decide_eq_true h2),if_pos h2,decide_eq_true h2]
    exact ⟨_,by simp [I],jd⟩
   ·rw [jB (decide_eq_false h2),if_neg h2,decide_eq_false h2]
    rw [jeV _ _ _ (Yx hy0 hy1),jaY]
    refine ⟨[(isI x,true),(isU y,true),(decide (0≤s)&&decide (s≤126),true)],by simp only [I,Bool.false_or], ?_⟩
    simp only [jZ,isI_iff,isU_iff,Bool.and_eq_true,decide_eq_true_eq]
    exact ⟨⟨hx0,hx1⟩,⟨hy0,hy1⟩,⟨by omega,by omega⟩,jd⟩
 ·cases hF
def byV (w d:Int):Int:=if d=0 then (if w=0 then 0 else if w<0 then -1152921504606846976 else 1152921504606846976) else jc (xU w d)
def byH (w d:Int):Bool:=d==0||jV (xU w d)
def jxu:List LV→Bool→Option (LV×Bool×List (Bool×Bool))
 | [.v (.agg [.int .i64 x,.int .u64 y]),.v (.one (.int .i64 d))],hb=>some (I (byV (jb x y) d),hb||byH (jb x y) d,[(isI x,true),(isU y,true),(isI d,true)])
 | _,_=>none
theorem jo2:SumOK Tryz.prog 41 (jv 61 jxu):=by
 refine sumxby.acc_re fun args hb v h' cs hF hc=> ?_
 unfold jxu at hF
 split at hF
 ·rename_i x y d
  cases hF
  show ∃cs',jvj x y d hb=_∧_
  have hc':=hc
  simp only [jZ,isI_iff,isU_iff] at hc
  obtain ⟨⟨hx0,hx1⟩,⟨hy0,hy1⟩,⟨hd0,hd1⟩,-⟩:=hc
  unfold jvj byV byH
  by_cases h1:d=0
  ·rw [jH (by simpa using h1),if_pos h1]
   have hd:(d==0)=true:=by simpa using h1
   rw [hd]
   by_cases h2:jb x y=0
   ·have hx:x=0:=by unfold jb at h2;omega
    have hy:y=0:=by unfold jb at h2;omega
    rw [jH (by simp [hx,hy]),if_pos h2]
    exact ⟨_,by simp [I],jd⟩
   ·rw [jB (by by_cases hx:x=0 <;> by_cases hy:y=0 <;> simp [hx,hy];exact absurd (by rw [hx,hy];rfl) h2),if_neg h2]
    by_cases h3:x<0
    ·rw [jH (by simpa using h3),if_pos (by unfold jb;omega)]
     exact ⟨_,by simp [I],jd⟩
    ·rw [jB (by simpa using h3),if_neg (by unfold jb;omega)]
     exact ⟨_,by simp [I],jd⟩
  ·have hd:(d==0)=false:=by simpa using h1
   rw [jB hd,if_neg h1,hd]
   rw [jkD _ _ _ (by rw [Yx hy0 hy1]),jaY]
   exact ⟨[(isI x,true),(isU y,true),(isI d,true)],by simp only [I,Bool.false_or],hc'⟩
 ·cases hF
def S13:FuncId→Option SumK:=more (more S12 109 (jv 61 jaZ)) 41 (jv 61 jxu)
theorem sound13:Sound Tryz.prog S13:=(sound12.more jeW).more jo2
end Go.Proofs.YtnlhpaidmiogbaaGreat

/- fx: Mul, Div, MulDiv, by every path of their runs (printed), and what they come to. -/
namespace Go.Proofs.YtnlhpaidmiogbaaGreat
open Go.Lr
set_option linter.unusedVariables false
set_option linter.unusedSimpArgs false
theorem jo3 (a b s:Int) (hb:Bool):(jR Tryz.prog S13 Zl 2000 52 [A0,.v (.one (.int .i64 a)),.v (.one (.int .i64 b)),.v (.one (.int .i64 s))] [(0,flag 61 hb)] 1 []).map qn=some (LV.v (V1.one (At.int IntKind.i64 (zR (jb (wHi (jc a*jc b)) (wLo (jc a*jc b))) s))),some { ty:=61,fr:=(0,0),es:=0,cells:=[At.bool (hb||jV a||jV b||JK (jb (wHi (jc a*jc b)) (wLo (jc a*jc b))) s)] },[(isI (wHi (jc a*jc b)),true),(isU (wLo (jc a*jc b)),true),(isI (jc a),true),(isI (jc b),true)]):=by kernel_rfl
def jhC (a b s:Int) (hb:Bool):Option (LV×Bool×List (Bool×Bool)):=some (LV.v (V1.one (At.int IntKind.i64 (zR (jb (wHi (jc a*jc b)) (wLo (jc a*jc b))) s))),(hb||jV a||jV b||JK (jb (wHi (jc a*jc b)) (wLo (jc a*jc b))) s),[(isI (wHi (jc a*jc b)),true),(isU (wLo (jc a*jc b)),true),(isI (jc a),true),(isI (jc b),true)])
def jo4:List LV→Bool→Option (LV×Bool×List (Bool×Bool))
 | [.v (.one (.int .i64 a)),.v (.one (.int .i64 b)),.v (.one (.int .i64 s))],hb=>jhC a b s hb
 | _,_=>none
theorem sumxmul:SumOK Tryz.prog 52 (jv 61 jo4):=by
 refine jT (z:=Zl) sound13 (jg sound13 Tryz.func52 (by kernel_rfl)) fun args hb v h' cs hF hc=> ?_
 unfold jo4 at hF
 split at hF
 ·rename_i a b s
  unfold jhC at hF
  cases hF
  exact ⟨rfl,2000,[],_,jo3 a b s hb,ja (jx (hc)) (ja (jx (jf (hc))) (ja (jx (jf (jf (hc)))) (ja (jx (jf (jf (jf (hc))))) (jd))))⟩
 ·cases hF
theorem jo5 (a b s:Int) (hb:Bool):(jR Tryz.prog S13 Zl 2000 56 [A0,.v (.one (.int .i64 a)),.v (.one (.int .i64 b)),.v (.one (.int .i64 s))] [(0,flag 61 hb)] 1 [some true,some true,some true,none]).map qn=some (LV.v (V1.one (At.int IntKind.i64 0)),some { ty:=61,fr:=(0,0),es:=0,cells:=[At.bool true] },[(decide (s<0),true),(decide (s<0),true),(decide (s<0),true)]):=by kernel_rfl
theorem jo6 (a b s:Int) (hb:Bool):(jR Tryz.prog S13 Zl 2000 56 [A0,.v (.one (.int .i64 a)),.v (.one (.int .i64 b)),.v (.one (.int .i64 s))] [(0,flag 61 hb)] 1 [some false,some false,some false,some true]).map qn=some (LV.v (V1.one (At.int IntKind.i64 0)),some { ty:=61,fr:=(0,0),es:=0,cells:=[At.bool true] },[(decide (s>66),true),(decide (s<0),false),(decide (s<0),false),(decide (s<0),false)]):=by kernel_rfl
theorem jo7 (a b s:Int) (hb:Bool):(jR Tryz.prog S13 Zl 2000 56 [A0,.v (.one (.int .i64 a)),.v (.one (.int .i64 b)),.v (.one (.int .i64 s))] [(0,flag 61 hb)] 1 [some false,some false,some false,some false]).map qn=some (LV.v (V1.one (At.int IntKind.i64 (byV (jb (wHi (jc a*jj s.toNat)) (wLo (jc a*jj s.toNat))) (jc b)))),some { ty:=61,fr:=(0,0),es:=0,cells:=[At.bool (hb||jV a||jV b||byH (jb (wHi (jc a*jj s.toNat)) (wLo (jc a*jj s.toNat))) (jc b))] },[(isI (wHi (jc a*jj s.toNat)),true),(isU (wLo (jc a*jj s.toNat)),true),(isI (jc b),true),(isI (jc a),true),(decide (0≤s)&&decide (s≤127),true),(decide (jh (jc a)*jj s.toNat<170141183460469231731687303715884105728),true),(decide (s>66),false),(decide (s<0),false),(decide (s<0),false),(decide (s<0),false)]):=by kernel_rfl
def jhD (a b s:Int) (hb:Bool):Option (LV×Bool×List (Bool×Bool)):=
 bif (decide (s<0)) then some (LV.v (V1.one (At.int IntKind.i64 0)),(true),[])
 else
  bif (decide (s>66)) then some (LV.v (V1.one (At.int IntKind.i64 0)),(true),[])
  else some (LV.v (V1.one (At.int IntKind.i64 (byV (jb (wHi (jc a*jj s.toNat)) (wLo (jc a*jj s.toNat))) (jc b)))),(hb||jV a||jV b||byH (jb (wHi (jc a*jj s.toNat)) (wLo (jc a*jj s.toNat))) (jc b)),[(isI (wHi (jc a*jj s.toNat)),true),(isU (wLo (jc a*jj s.toNat)),true),(isI (jc b),true),(isI (jc a),true),(decide (0≤s)&&decide (s≤127),true),(decide (jh (jc a)*jj s.toNat<170141183460469231731687303715884105728),true)])
def jo8:List LV→Bool→Option (LV×Bool×List (Bool×Bool))
 | [.v (.one (.int .i64 a)),.v (.one (.int .i64 b)),.v (.one (.int .i64 s))],hb=>jhD a b s hb
 | _,_=>none
theorem sumxdiv:SumOK Tryz.prog 56 (jv 61 jo8):=by
 refine jT (z:=Zl) sound13 (jg sound13 Tryz.func56 (by kernel_rfl)) fun args hb v h' cs hF hc=> ?_
 unfold jo8 at hF
 split at hF
 ·rename_i a b s
  unfold jhD at hF
  rcases ji (decide (s<0)) with h0 | h0
  ·rw [jH h0] at hF
   cases hF
   exact ⟨rfl,2000,[some true,some true,some true,none],_,jo5 a b s hb,ja (h0) (ja (h0) (ja (h0) (jd)))⟩
  ·rw [jB h0] at hF
   rcases ji (decide (s>66)) with h1 | h1
   ·rw [jH h1] at hF
    cases hF
    exact ⟨rfl,2000,[some false,some false,some false,some true],_,jo6 a b s hb,ja (h1) (ja (h0) (ja (h0) (ja (h0) (jd))))⟩
   ·rw [jB h1] at hF
    cases hF
    exact ⟨rfl,2000,[some false,some false,some false,some false],_,jo7 a b s hb,ja (jx (hc)) (ja (jx (jf (hc))) (ja (jx (jf (jf (hc)))) (ja (jx (jf (jf (jf (hc))))) (ja (jx (jf (jf (jf (jf (hc)))))) (ja (jx (jf (jf (jf (jf (jf (hc))))))) (ja (h1) (ja (h0) (ja (h0) (ja (h0) (jd))))))))))⟩
 ·cases hF
theorem jeX (a b d:Int) (hb:Bool):(jR Tryz.prog S13 Zl 2000 18 [A0,.v (.one (.int .i64 a)),.v (.one (.int .i64 b)),.v (.one (.int .i64 d))] [(0,flag 61 hb)] 1 []).map qn=some (LV.v (V1.one (At.int IntKind.i64 (byV (jb (wHi (jc a*jc b)) (wLo (jc a*jc b))) (jc d)))),some { ty:=61,fr:=(0,0),es:=0,cells:=[At.bool (hb||jV a||jV b||jV d||byH (jb (wHi (jc a*jc b)) (wLo (jc a*jc b))) (jc d))] },[(isI (wHi (jc a*jc b)),true),(isU (wLo (jc a*jc b)),true),(isI (jc d),true),(isI (jc a),true),(isI (jc b),true)]):=by kernel_rfl
def Qi (a b d:Int) (hb:Bool):Option (LV×Bool×List (Bool×Bool)):=some (LV.v (V1.one (At.int IntKind.i64 (byV (jb (wHi (jc a*jc b)) (wLo (jc a*jc b))) (jc d)))),(hb||jV a||jV b||jV d||byH (jb (wHi (jc a*jc b)) (wLo (jc a*jc b))) (jc d)),[(isI (wHi (jc a*jc b)),true),(isU (wLo (jc a*jc b)),true),(isI (jc d),true),(isI (jc a),true),(isI (jc b),true)])
def jcg:List LV→Bool→Option (LV×Bool×List (Bool×Bool))
 | [.v (.one (.int .i64 a)),.v (.one (.int .i64 b)),.v (.one (.int .i64 d))],hb=>Qi a b d hb
 | _,_=>none
theorem sumxmuldiv:SumOK Tryz.prog 18 (jv 61 jcg):=by
 refine jT (z:=Zl) sound13 (jg sound13 Tryz.func18 (by kernel_rfl)) fun args hb v h' cs hF hc=> ?_
 unfold jcg at hF
 split at hF
 ·rename_i a b d
  unfold Qi at hF
  cases hF
  exact ⟨rfl,2000,[],_,jeX a b d hb,ja (jx (hc)) (ja (jx (jf (hc))) (ja (jx (jf (jf (hc)))) (ja (jx (jf (jf (jf (hc))))) (ja (jx (jf (jf (jf (jf (hc)))))) (jd)))))⟩
 ·cases hF
theorem Yy (a:Int):jh (jc a)≤1152921504606846976:=by have:=yT a;unfold jh;split <;> omega
theorem ZG (a b:Int): -1329227995784915872903807060280344576≤jc a*jc b∧jc a*jc b≤1329227995784915872903807060280344576:=yH (Yy a) (Yy b)
theorem yF (a:Int):isI (jc a)=true:=by have:=yT a;exact isI_iff.2 ⟨by omega,by omega⟩
theorem jjr {v:Int} (h0: -170141183460469231731687303715884105728≤v) (h1:v<170141183460469231731687303715884105728):isI (wHi v)=true:=isI_iff.2 (qa v h0 h1)
theorem ZH (a b:Int):isI (wHi (jc a*jc b))=true:=by have:=ZG a b;exact jjr (by omega) (by omega)
def ko (a b s:Int):Int:=zR (jc a*jc b) s
def Xn (a b s:Int):Bool:=jV a||(jV b||JK (jc a*jc b) s)
def jkE:List LV→Bool→Option (LV×Bool×List (Bool×Bool))
 | [.v (.one (.int .i64 a)),.v (.one (.int .i64 b)),.v (.one (.int .i64 s))],hb=>some (I (ko a b s),hb||Xn a b s,[])
 | _,_=>none
theorem jkF:SumOK Tryz.prog 52 (jv 61 jkE):=by
 refine sumxmul.acc_re fun args hb v h' cs hF _=> ?_
 unfold jkE at hF
 split at hF
 ·rename_i a b s
  cases hF
  show ∃cs',jhC a b s hb=_∧_
  unfold jhC
  rw [jW]
  refine ⟨[(isI (wHi (jc a*jc b)),true),(isU (wLo (jc a*jc b)),true),(isI (jc a),true),(isI (jc b),true)],by simp only [I,ko,Xn,Bool.or_assoc], ?_⟩
  simp only [ZH,Yg,yF]
  simp
 ·cases hF
def kz (a b s:Int):Int:=if s<0 then 0 else if s>66 then 0 else byV (jc a*jj s.toNat) (jc b)
def xT (a b s:Int):Bool:=jV a||(jV b||(decide (s<0)||(decide (s>66)||byH (jc a*jj s.toNat) (jc b))))
def jkG:List LV→Bool→Option (LV×Bool×List (Bool×Bool))
 | [.v (.one (.int .i64 a)),.v (.one (.int .i64 b)),.v (.one (.int .i64 s))],hb=>some (I (kz a b s),hb||xT a b s,[])
 | _,_=>none
theorem jkH:SumOK Tryz.prog 56 (jv 61 jkG):=by
 refine sumxdiv.acc_re fun args hb v h' cs hF _=> ?_
 unfold jkG at hF
 split at hF
 ·rename_i a b s
  cases hF
  show ∃cs',jhD a b s hb=_∧_
  unfold jhD kz xT
  by_cases h1:s<0
  ·rw [jH (decide_eq_true h1),if_pos h1,decide_eq_true h1]
   exact ⟨[],by simp [I],jd⟩
  ·rw [jB (decide_eq_false h1),if_neg h1,decide_eq_false h1]
   by_cases h2:s>66
   ·rw [jH (decide_eq_true h2),if_pos h2,decide_eq_true h2]
    exact ⟨[],by simp [I],jd⟩
   ·rw [jB (decide_eq_false h2),if_neg h2,decide_eq_false h2]
    have hp:=kg s.toNat
    have hp1:jj s.toNat≤73786976294838206464:=ja7 (n:=66) _ (by omega) (by decide)
    have ha:=Yy a
    have h0:=qC (jc a)
    have hq:jh (jj s.toNat)≤73786976294838206464:=by rw [yG (by omega)];exact hp1
    have hm:=yH ha hq
    have hn:jh (jc a)*jj s.toNat≤1152921504606846976*73786976294838206464:=Int.mul_le_mul ha hp1 (by omega) (by omega)
    rw [jW]
    refine ⟨[(isI (wHi (jc a*jj s.toNat)),true),(isU (wLo (jc a*jj s.toNat)),true),(isI (jc b),true),(isI (jc a),true),(decide (0≤s)&&decide (s≤127),true),(decide (jh (jc a)*jj s.toNat<170141183460469231731687303715884105728),true)],by simp only [I,Bool.or_assoc,Bool.false_or], ?_⟩
    simp only [Yg,yF,jjr (v:=jc a*jj s.toNat) (by omega) (by omega),jZ,Bool.and_eq_true,decide_eq_true_eq]
    exact ⟨trivial,trivial,trivial,trivial,⟨by omega,by omega⟩,by omega,jd⟩
 ·cases hF
def QI (a b d:Int):Int:=byV (jc a*jc b) (jc d)
def jeY (a b d:Int):Bool:=jV a||(jV b||(jV d||byH (jc a*jc b) (jc d)))
def jxv:List LV→Bool→Option (LV×Bool×List (Bool×Bool))
 | [.v (.one (.int .i64 a)),.v (.one (.int .i64 b)),.v (.one (.int .i64 d))],hb=>some (I (QI a b d),hb||jeY a b d,[])
 | _,_=>none
theorem jo9:SumOK Tryz.prog 18 (jv 61 jxv):=by
 refine sumxmuldiv.acc_re fun args hb v h' cs hF _=> ?_
 unfold jxv at hF
 split at hF
 ·rename_i a b d
  cases hF
  show ∃cs',Qi a b d hb=_∧_
  unfold Qi
  rw [jW]
  refine ⟨[(isI (wHi (jc a*jc b)),true),(isU (wLo (jc a*jc b)),true),(isI (jc d),true),(isI (jc a),true),(isI (jc b),true)],by simp only [I,QI,jeY,Bool.or_assoc], ?_⟩
  simp only [ZH,Yg,yF]
  simp
 ·cases hF
def S14:FuncId→Option SumK:=more (more (more S13 52 (jv 61 jkE)) 56 (jv 61 jkG)) 18 (jv 61 jxv)
theorem sound14:Sound Tryz.prog S14:=((sound13.more jkF).more jkH).more jo9
end Go.Proofs.YtnlhpaidmiogbaaGreat

/- wide.Add of two numbers. -/
namespace Go.Proofs.YtnlhpaidmiogbaaGreat
open Go.Lr
set_option linter.unusedVariables false
theorem jvN (ty:TypeId) (fr:Nat×Nat) (es:Nat) (x y u v:Int):(jR Tryz.prog S14 Zl 2000 133 [.v (.one (.sl 0 0 2 2))] [(0,⟨ty,fr,es,[.int .i64 x,.int .u64 y,.int .i64 u,.int .u64 v]⟩)] 1 [none,some false,none,some false,none]).map qn=some (LV.tup [V1.agg [At.int IntKind.i64 (w64 (wHi (jb (w64 (wHi (jb 0 0+jb x y))) (wLo (jb 0 0+jb x y))+jb u v))),At.int IntKind.u64 (wLo (jb (w64 (wHi (jb 0 0+jb x y))) (wLo (jb 0 0+jb x y))+jb u v))],V1.one (At.bool true)],some { ty:=ty,fr:=fr,es:=es,cells:=[At.int IntKind.i64 x,At.int IntKind.u64 y,At.int IntKind.i64 u,At.int IntKind.u64 v] },[(!isW (jb (w64 (wHi (jb 0 0+jb x y))) (wLo (jb 0 0+jb x y))+jb u v),false),(isI (w64 (wHi (jb 0 0+jb x y))),true),(isU (wLo (jb 0 0+jb x y)),true),(isI u,true),(isU v,true),(!isW (jb 0 0+jb x y),false),(isI 0,true),(isU 0,true),(isI x,true),(isU y,true)]):=by kernel_rfl
def jee:Sum:=fun args=>
 match args with
 | [.v (.one (.sl b 0 2 2))]=>some ⟨[b],[],fun rdB _ _=>match rdB with
  | [⟨_,_,_,[.int .i64 x,.int .u64 y,.int .i64 u,.int .u64 v]⟩]=>
   some ⟨.tup [W1 (jb x y+jb u v),.one (.bool true)],[],[],[(isI x,true),(isU y,true),(isI u,true),(isU v,true),(isW (jb x y+jb u v),true)]⟩
  | _=>none⟩
 | _=>none
theorem jef {v:Int} (h:isW v=true):w64 (wHi v)=wHi v:=by
 have:=isW_iff.1 h;exact jgw this.1 this.2
theorem jka:SumOK Tryz.prog 133 jee:=by
 intro args t g nb p rdB wrB ans ws E w hs hr hw hnd hgo hz hc hrel hg hargs hn
 unfold jee at hs
 split at hs
 ·rename_i b
  cases hs
  simp only at hgo hw hr
  split at hgo
  ·rename_i ty fr es x y u v
   cases hgo
   simp only [jZ,isI_iff,isU_iff] at hc
   obtain ⟨⟨hx0,hx1⟩,⟨hy0,hy1⟩,⟨hu0,hu1⟩,⟨hv0,hv1⟩,hW,-⟩:=hc
   obtain ⟨k,r',hk,hr',hrr⟩:=kf hr
   cases kP hr'
   cases hrr
   cases kP hw
   simp only [Xm] at hz
   cases hz
   have e0:jb 0 0+jb x y=jb x y:=by unfold jb;omega
   have hW1:isW (jb x y)=true:=by rw [isW_iff];unfold jb;omega
   have hrun:=jvN ty fr es x y u v
   rw [e0,jef hW1,jW,jef hW,hW,hW1] at hrun
   cases hq:jR Tryz.prog S14 Zl 2000 133 [.v (.one (.sl 0 0 2 2))] [(0,⟨ty,fr,es,[.int .i64 x,.int .u64 y,.int .i64 u,.int .u64 v]⟩)] 1 [none,some false,none,some false,none] with
   | none=>rw [hq] at hrun;cases hrun
   | some q=>
    obtain ⟨v',m2,nb',cs'⟩:=q
    rw [hq] at hrun
    simp only [Option.map_some,qn,Option.some.injEq,Prod.mk.injEq] at hrun
    obtain ⟨rfl,hm2,rfl⟩:=hrun
    generalize hE1:(fun _:Nat=>E b)=E1
    have hE:∀i,E1 i=E b:=fun i=>by rw [←hE1]
    have hcl:=yu sound14 hq (m':=[(0,⟨ty,fr,es,[.int .i64 x,.int .u64 y,.int .i64 u,.int .u64 v]⟩)]) (fun i c hic=>by
      obtain ⟨rfl,rfl⟩:=jbS hic
      exact ⟨hm2,Nat.zero_lt_one,rfl⟩) (by
      simp only [jZ,ql,isI_iff,isU_iff]
      have h1:=qa (jb x y) (isW_iff.1 hW1).1 (isW_iff.1 hW1).2
      have h2:=qG (jb x y)
      exact ⟨rfl,⟨h1.1,h1.2⟩,⟨h2.1,h2.2⟩,⟨hu0,hu1⟩,⟨hv0,hv1⟩,rfl,⟨by omega,by omega⟩,⟨by omega,by omega⟩,⟨hx0,hx1⟩,⟨hy0,hy1⟩,jd⟩) rfl (fun a ha=>by
      rw [List.mem_singleton] at ha;subst ha;rfl) rfl E1 w (jyS hrel hk rfl (hE 0))
    obtain ⟨fn,f1,f2,f3⟩:=jg sound14 Tryz.func133 (by kernel_rfl)
    have ha:([.v (.one (.sl b 0 2 2))]:List LV).map (LV.den E)=([.v (.one (.sl 0 0 2 2))]:List LV).map (LV.den E1):=by
     simp only [List.map_cons,List.map_nil,LV.den,V1.den,At.den,hE]
    rw [ha]
    refine .inl ⟨fn,f1,f2,f3,hcl.mono ?_⟩
    rintro e w' ⟨rfl,hl⟩
    refine ⟨_,rfl,E,(km rfl).symm, ?_⟩
    refine ⟨fun _ _=>rfl,⟨fun i c hic=> ?_,hrel.inj⟩,hl.os,hl.tape,hl.output,hl.size,fun j hj hne=>hl.frame j hj fun i hi=> ?_,fun i h1 h2=>by simp at h2;omega⟩
    ·simp only [nwG,wrG] at hic
     by_cases hib:i=b
     ·subst hib
      rw [hk] at hic
      cases hic
      exact kF (E:=E1) (i:=0) rfl (hE 0).symm (hl.blk 0 _ rfl)
     ·obtain ⟨r,g1,g2,g3⟩:=hrel.blk i c hic
      refine ⟨r, ?_,g2,g3⟩
      rw [hl.frame _ (Array.getElem?_eq_some_iff.1 g1).1 fun j hj e=>hib (hrel.inj i b (by simp [hic]) (by simp [hk]) (by rw [hE] at e;exact e.symm))]
      exact g1
    ·rw [hE]
     exact hne b (by simp [hk])
  ·cases hgo
 ·cases hs
def S15:FuncId→Option SumK:=more S14 133 jee
theorem sound15:Sound Tryz.prog S15:=sound14.more jka
end Go.Proofs.YtnlhpaidmiogbaaGreat

/- fx.Add: its walk, round by round. -/
namespace Go.Proofs.YtnlhpaidmiogbaaGreat
open Go.Lr
set_option linter.unusedVariables false
set_option linter.unusedSimpArgs false
theorem fa (dead:Nat→Value) (hb:Bool) (o n c:Nat) (ty:TypeId) (fr:Nat×Nat) (es:Nat) (l:List At):jI [0,1,4,5] [0,1,2] (xA Tryz.prog S15 Zl 400 (kV 2 (jk Tryz.prog 181)) (Kst.st ⟨kC 0 [A0,.v (.one (.slx 1 o n c))],[(0,flag 61 hb),(1,⟨ty,fr,es,l⟩)],2⟩ 39 dead []))=some (Ex.normal,[LV.v (V1.one (At.ptr 0 0)),LV.v (V1.one (At.slx 1 o n c)),LV.v (V1.one (At.int IntKind.i64 0)),LV.v (V1.one (At.ptr 2 0))],[some { ty:=61,fr:=(0,0),es:=0,cells:=[At.bool hb] },some { ty:=ty,fr:=fr,es:=es,cells:=l },some { ty:=110,fr:=(0,0),es:=0,cells:=[At.int IntKind.i64 0,At.int IntKind.u64 0] }],[]):=by kernel_rfl
theorem fb (dead:Nat→Value) (hb:Bool) (o n c:Nat) (ty:TypeId) (fr:Nat×Nat) (es:Nat) (l:List At) (x y:Int):jI [0,5,10,11,12] [0,1,2] (exec Tryz.prog S15 Zl 400 (.code (c1 (c1 (c2 (c2 (jk Tryz.prog 181)))))) (Kst.st ⟨[(0,A0),(1,.v (.one (.slx 1 o n c))),(4,.v (.one (.int .i64 0))),(5,.v (.one (.ptr 2 0)))],[(0,flag 61 hb),(1,⟨ty,fr,es,l⟩),(2,⟨110,(0,0),0,[.int .i64 x,.int .u64 y]⟩)],3⟩ 39 dead []))=some (Ex.normal,[LV.v (V1.one (At.ptr 0 0)),LV.v (V1.one (At.ptr 2 0)),LV.v (V1.one (At.slx 1 o n c)),LV.v (V1.one (At.int IntKind.i64 ↑n)),LV.v (V1.one (At.int IntKind.i64 0))],[some { ty:=61,fr:=(0,0),es:=0,cells:=[At.bool hb] },some { ty:=ty,fr:=fr,es:=es,cells:=l },some { ty:=110,fr:=(0,0),es:=0,cells:=[At.int IntKind.i64 x,At.int IntKind.u64 y] }],[]):=by kernel_rfl
theorem fc (dead:Nat→Value) (hb:Bool) (o n c:Nat) (ty:TypeId) (fr:Nat×Nat) (es:Nat) (l:List At) (x y i:Int):jI [0,5,10,11,12] [0,1,2] (exec Tryz.prog S15 Zl 400 (.code (c1 (c1 (c2 (c1 (c2 (c2 (jk Tryz.prog 181)))))))) (Kst.st ⟨[(0,A0),(5,.v (.one (.ptr 2 0))),(10,.v (.one (.slx 1 o n c))),(11,.v (.one (.int .i64 n))),(12,.v (.one (.int .i64 i)))],[(0,flag 61 hb),(1,⟨ty,fr,es,l⟩),(2,⟨110,(0,0),0,[.int .i64 x,.int .u64 y]⟩)],3⟩ 39 dead [some true]))=some (Ex.normal,[LV.v (V1.one (At.ptr 0 0)),LV.v (V1.one (At.ptr 2 0)),LV.v (V1.one (At.slx 1 o n c)),LV.v (V1.one (At.int IntKind.i64 ↑n)),LV.v (V1.one (At.int IntKind.i64 (wr IntKind.i64 (i+1))))],[some { ty:=61,fr:=(0,0),es:=0,cells:=[At.bool (hb||jV (jo l (o+i.toNat*1)))] },some { ty:=ty,fr:=fr,es:=es,cells:=l },some { ty:=110,fr:=(0,0),es:=0,cells:=[At.int IntKind.i64 (wHi (jb x y+jb (wHi (jc (jo l (o+i.toNat*1)))) (wLo (jc (jo l (o+i.toNat*1)))))),At.int IntKind.u64 (wLo (jb x y+jb (wHi (jc (jo l (o+i.toNat*1)))) (wLo (jc (jo l (o+i.toNat*1))))))] }],[(isI x,true),(isU y,true),(isI (wHi (jc (jo l (o+i.toNat*1)))),true),(isU (wLo (jc (jo l (o+i.toNat*1)))),true),(isW (jb x y+jb (wHi (jc (jo l (o+i.toNat*1)))) (wLo (jc (jo l (o+i.toNat*1))))),true),(isI (jc (jo l (o+i.toNat*1))),true),(isIntAt IntKind.i64 l (o+i.toNat*1),true),(decide (0≤i)&&decide (i < ↑n),true),(decide (i < ↑n),true)]):=by kernel_rfl
theorem fd (dead:Nat→Value) (hb:Bool) (o n c:Nat) (ty:TypeId) (fr:Nat×Nat) (es:Nat) (l:List At) (x y i:Int):jI [0,5] [0,1,2] (exec Tryz.prog S15 Zl 400 (.code (c1 (c1 (c2 (c1 (c2 (c2 (jk Tryz.prog 181)))))))) (Kst.st ⟨[(0,A0),(5,.v (.one (.ptr 2 0))),(10,.v (.one (.slx 1 o n c))),(11,.v (.one (.int .i64 n))),(12,.v (.one (.int .i64 i)))],[(0,flag 61 hb),(1,⟨ty,fr,es,l⟩),(2,⟨110,(0,0),0,[.int .i64 x,.int .u64 y]⟩)],3⟩ 39 dead [some false]))=some (Ex.exit 0,[LV.v (V1.one (At.ptr 0 0)),LV.v (V1.one (At.ptr 2 0))],[some { ty:=61,fr:=(0,0),es:=0,cells:=[At.bool hb] },some { ty:=ty,fr:=fr,es:=es,cells:=l },some { ty:=110,fr:=(0,0),es:=0,cells:=[At.int IntKind.i64 x,At.int IntKind.u64 y] }],[(decide (i < ↑n),false)]):=by kernel_rfl
theorem fe (dead:Nat→Value) (hb:Bool) (ty:TypeId) (fr:Nat×Nat) (es:Nat) (l:List At) (x y:Int):jI [4] [0,1] (exec Tryz.prog S15 Zl 400 (.code (c2 (c2 (c2 (jk Tryz.prog 181))))) (Kst.st ⟨[(0,A0),(5,.v (.one (.ptr 2 0)))],[(0,flag 61 hb),(1,⟨ty,fr,es,l⟩),(2,⟨110,(0,0),0,[.int .i64 x,.int .u64 y]⟩)],3⟩ 39 dead []))=some (Ex.ret,[LV.v (V1.one (At.int IntKind.i64 (jea (if isI (kB (jb x y) (Int.toNat 0))=true then kB (jb x y) (Int.toNat 0) else 0) (isI (kB (jb x y) (Int.toNat 0))) (decide (x<0)))))],[some { ty:=61,fr:=(0,0),es:=0,cells:=[At.bool (hb||jhy (if isI (kB (jb x y) (Int.toNat 0))=true then kB (jb x y) (Int.toNat 0) else 0) (isI (kB (jb x y) (Int.toNat 0))))] },some { ty:=ty,fr:=fr,es:=es,cells:=l }],[(isI x,true),(isU y,true),(decide (0≤0)&&decide (0≤126),true)]):=by kernel_rfl
theorem yU {nb:Nat} {b0 b1 b2:Blk} (hnb:3≤nb) (h0:okL (below nb) b0.cells=true) (h1:okL (below nb) b1.cells=true) (h2:okL (below nb) b2.cells=true):ku nb [(0,b0),(1,b1),(2,b2)]=true:=by
 have e0:Nat.blt 0 nb=true:=by rw [Ko];simp;omega
 have e1:Nat.blt 1 nb=true:=by rw [Ko];simp;omega
 have e2:Nat.blt 2 nb=true:=by rw [Ko];simp;omega
 simp only [ku,e0,e1,e2,h0,h1,h2]
 rfl
theorem xX {nb:Nat} {b0 b1:Blk} (hnb:2≤nb) (h0:okL (below nb) b0.cells=true) (h1:okL (below nb) b1.cells=true):ku nb [(0,b0),(1,b1)]=true:=by
 have e0:Nat.blt 0 nb=true:=by rw [Ko];simp;omega
 have e1:Nat.blt 1 nb=true:=by rw [Ko];simp;omega
 simp only [ku,e0,e1,h0,h1]
 rfl
theorem qF {A:Kst} (h1:KC A.nb A.live=true) (h2:ku A.nb A.mem=true):KstOK A:=by
 obtain ⟨a,b,c⟩:=KD h1
 obtain ⟨d,e⟩:=xS h2
 exact ⟨a,b,c,d,e⟩
def zS:List Int→Int
 | []=>0
 | a::l=>jc a+zS l
def zT:List Int→Bool
 | []=>false
 | a::l=>jV a||zT l
theorem jhE (l m:List Int):zS (l++m)=zS l+zS m:=by
 induction l with
 | nil=>simp [zS]
 | cons a l ih=>simp only [List.cons_append,zS,ih];omega
theorem jch (l m:List Int):zT (l++m)=(zT l||zT m):=by
 induction l with
 | nil=>simp [zT]
 | cons a l ih=>simp only [List.cons_append,zT,ih,Bool.or_assoc]
theorem jeZ (l:List Int): -(l.length*1152921504606846976:Int)≤zS l∧zS l≤l.length*1152921504606846976:=by
 induction l with
 | nil=>simp [zS]
 | cons a l ih=>
  have:=yT a
  simp only [zS,List.length_cons]
  push_cast
  omega
theorem qv {α:Type} (l:List α) (i:Nat) (h:i<l.length):l.take (i+1)=l.take i++[l[i]]:=by rw [List.take_succ_eq_append_getElem h]
def wB (v:Int):Blk:=⟨110,(0,0),0,[.int .i64 (wHi v),.int .u64 (wLo v)]⟩
noncomputable def jkI:Code:=c1 (c2 (c2 (jk Tryz.prog 181)))
def adA (k:Blk) (o n c:Nat) (h:Bool) (v:Int) (i:Int):Kst:=⟨[(0,A0),(5,P2),(10,.v (.one (.slx 1 o n c))),(11,.v (.one (.int .i64 n))),(12,.v (.one (.int .i64 i)))],[(0,flag 61 h),(1,k),(2,wB v)],3⟩
def adB (k:Blk) (h:Bool) (v:Int):Kst:=⟨[(0,A0),(5,P2)],[(0,flag 61 h),(1,k),(2,wB v)],3⟩
theorem jkJ (k:Blk) (o n c:Nat) (xs:List Int) (hk:SlAt 1 k o n xs) (hn:n<1152921504606846976) (hb:Bool) (i:Nat) (hi:i<n):
  To Tryz.prog 39 (c1 (c1 (c2 jkI))) (adA k o n c (hb||zT (xs.take i)) (zS (xs.take i)) i) .normal (adA k o n c (hb||zT (xs.take (i+1))) (zS (xs.take (i+1))) ((i:Int)+1)):=by
 obtain ⟨hlen,hat,hok⟩:=hk
 have hi':i<xs.length:=by omega
 have hx:=Ja (hat i hi')
 have hs:=qv xs i hi'
 have b0:=jeZ (xs.take i)
 rw [List.length_take] at b0
 have b1:=yT xs[i]
 have hm:((min i xs.length:Nat):Int)=i:=by omega
 rw [hm] at b0
 have e1:zS (xs.take (i+1))=zS (xs.take i)+jc xs[i]:=by rw [hs,jhE];simp [zS]
 have e2:(hb||zT (xs.take (i+1)))=((hb||zT (xs.take i))||jV xs[i]):=by rw [hs,jch];simp [zT,Bool.or_assoc]
 have e3:((i:Int)).toNat*1=i:=by simp
 have e4:wr .i64 ((i:Int)+1)=(i:Int)+1:=xu (by omega) (by omega)
 obtain ⟨ty,fr,es,l⟩:=k
 rw [e1,e2]
 generalize zS (xs.take i)=S at *
 have hi2:=qa S (by omega) (by omega)
 have hl2:=qG S
 have hi3:=qa (jc xs[i]) (by omega) (by omega)
 have hl3:=qG (jc xs[i])
 refine To.run (z:=Zl) sound15 (slots:=[0,5,10,11,12]) (blks:=[0,1,2]) (vs:=[A0,P2,.v (.one (.slx 1 o n c)),.v (.one (.int .i64 n)),.v (.one (.int .i64 ((i:Int)+1)))])
  (bs:=[flag 61 ((hb||zT (xs.take i))||jV xs[i]),⟨ty,fr,es,l⟩,wB (S+jc xs[i])]) (nbB:=3)
  (fun dead=>fc dead (hb||zT (xs.take i)) o n c ty fr es l (wHi S) (wLo S) i) rfl (by rw [e4];rfl) (by rw [e3,hx.1];simp only [jW];rfl) ?_ (qF rfl (yU (Nat.le_refl _) rfl (jn jm hok) rfl)) (Nat.le_refl _)
 rw [e3,hx.1,hx.2]
 simp only [jW,jZ,isI_iff,isU_iff,isW_iff,Bool.and_eq_true,decide_eq_true_eq]
 repeat' apply And.intro
 all_goals first | exact jd | exact True.intro | omega
theorem jpa (k:Blk) (o n c:Nat) (hok:okL noP k.cells=true) (h:Bool) (v:Int):To Tryz.prog 39 (c1 (c1 (c2 jkI))) (adA k o n c h v n) (.exit 0) (adB k h v):=by
 obtain ⟨ty,fr,es,l⟩:=k
 refine To.exec (z:=Zl) sound15 (slots:=[0,5]) (blks:=[0,1,2]) (vs:=[A0,P2]) (bs:=[flag 61 h,⟨ty,fr,es,l⟩,wB v]) (nbB:=3) (fun dead=>fd dead h o n c ty fr es l (wHi v) (wLo v) n) ?_ (qF rfl (yU (Nat.le_refl _) rfl (jn jm hok) rfl)) (Nat.le_refl _)
 simp
theorem jpb (k:Blk) (o n c:Nat) (xs:List Int) (hk:SlAt 1 k o n xs) (hn:n<1152921504606846976) (hb:Bool):∀(m i:Nat),i+m=n→
  Rd Tryz.prog 39 (c1 (c1 (c2 jkI))) (m+1) (adA k o n c (hb||zT (xs.take i)) (zS (xs.take i)) i) (.exit 0) (adB k (hb||zT xs) (zS xs))
 | 0,i,h=>by
  have hi:i=n:=by omega
  have hl:xs.length=n:=by have:=hk.1;omega
  subst hi
  rw [←hl,List.take_length,hl]
  exact Rd.last (by simp) (jpa k o i c hk.2.2 _ _)
 | m+1,i,h=>by
  have hs:=jkJ k o n c xs hk hn hb i (by omega)
  refine Rd.next hs ?_
  exact jpb k o n c xs hk hn hb m (i+1) (by omega)
def Xo (xs:List Int):Int:=jc (zS xs)
def xp (xs:List Int):Bool:=zT xs||jV (zS xs)
def jhF:List AV→Bool→Option (LV×Bool×List (Bool×Bool))
 | [.ints xs],hb=>some (I (Xo xs),hb||xp xs,[(decide (xs.length<1152921504606846976),true)])
 | _,_=>none
theorem jDD (hb:Bool):(jR Tryz.prog S15 Zl 2000 181 [A0,.v (.one .nilsl)] [(0,flag 61 hb)] 1 []).map (fun r=>(r.1,getM r.2.1 0,r.2.2.2))=some (I 0,some (flag 61 (hb||false)),[(true,true),(true,true),(true,true)]):=by kernel_rfl
theorem jpc (v:Int):kB v (Int.toNat 0)=v:=by
 have h:kB v 0=sgn (decide (v<0)) ((jh v+0)/1):=rfl
 show kB v 0=v
 rw [h,Int.add_zero,Int.ediv_one,jfm]
theorem sumFadd:SumOK Tryz.prog 181 (yv 61 1 jhF):=by
 refine jar (jg sound15 Tryz.func181 (by kernel_rfl)) (fun avs hb r h=> ?_) fun pre xs hb v h' cs hF hc hp hv=> ?_
 ·unfold jhF at h
  split at h
  ·exact ⟨[],_,rfl⟩
  ·cases h
 ·have hpre:pre=[]:=by
   cases pre with
   | nil=>rfl
   | cons p pre=>
    simp only [List.map_cons,List.cons_append] at hF
    unfold jhF at hF
    split at hF
    ·rename_i he;simp at he
    ·cases hF
  subst hpre
  have hF':some (I (Xo xs),hb||xp xs,[(decide (xs.length<1152921504606846976),true)])=some (v,h',cs):=hF
  cases hF'
  simp only [jZ,decide_eq_true_eq] at hc
  obtain ⟨hn,-⟩:=hc
  refine ⟨fun k o n c hk _ E w hrel=> ?_,fun hx E w hrel=> ?_⟩
  ·have hlen:xs.length=n:=by have:=hk.1;omega
   rw [hlen] at hn
   have hok:=hk.2.2
   have hR:=jpb k o n c xs hk hn hb n 0 (by omega)
   have b0:=jeZ xs
   rw [hlen] at b0
   have hi2:=qa (zS xs) (by omega) (by omega)
   have hl2:=qG (zS xs)
   have hend:jea (if isI (zS xs)=true then zS xs else 0) (isI (zS xs)) (decide (wHi (zS xs)<0))=Xo xs:=by
    have:=jeV (zS xs) 0 (decide (wHi (zS xs)<0)) (by rw [Yx hl2.1 hl2.2,jW])
    have e:=jpc (zS xs)
    rw [show Int.toNat 0=0 from rfl] at e
    rw [e] at this
    exact this
   obtain ⟨ty,fr,es,l⟩:=k
   refine J9 (c:=jk Tryz.prog 181) (e:= .ret) (nb:=2) (B:=⟨[(4,.v (.one (.int .i64 (Xo xs))))],[(0,flag 61 (hb||xp xs)),(1,⟨ty,fr,es,l⟩)],3⟩) Tryz.func181 (by kernel_rfl) (Nat.le_of_ble_eq_true (by kernel_rfl)) (Nat.le_of_ble_eq_true (by kernel_rfl))
    (fun u hu=> ?_) (xX (Nat.le_refl _) rfl (jn jm hok)) ?_ (.inr rfl) (fun dead=>by kernel_rfl) rfl (fun i b hib=> ?_) E w hrel
   ·simp only [List.nil_append,List.mem_cons,List.not_mem_nil,or_false] at hu
    rcases hu with rfl | rfl <;> rfl
   ·refine To.spineR (z:=Zl) sound15 (k:=2) (slots:=[0,1,4,5]) (blks:=[0,1,2]) (vs:=[A0,.v (.one (.slx 1 o n c)),.v (.one (.int .i64 0)),P2]) (bs:=[flag 61 hb,⟨ty,fr,es,l⟩,wB 0]) (nbB:=3) (by kernel_rfl) (fun dead=>fa dead hb o n c ty fr es l) rfl rfl rfl (by simp) (qF rfl (yU (Nat.le_refl _) rfl (jn jm hok) rfl)) (Nat.le_succ 2) ?_
    refine To.seq (by kernel_rfl) (To.seq (by kernel_rfl) (To.exec (z:=Zl) sound15 (slots:=[0,5,10,11,12]) (blks:=[0,1,2]) (vs:=[A0,P2,.v (.one (.slx 1 o n c)),.v (.one (.int .i64 n)),.v (.one (.int .i64 0))]) (bs:=[flag 61 hb,⟨ty,fr,es,l⟩,wB 0]) (nbB:=3) (fun dead=>fb dead hb o n c ty fr es l 0 0) (by simp) (qF rfl (yU (Nat.le_refl _) rfl (jn jm hok) rfl)) (Nat.le_refl _))
     (To.block (id:=0) (by kernel_rfl) (To.loop (m:=n+1) (by kernel_rfl) ?_) (.inl rfl))) (C:=_) (B:=adB ⟨ty,fr,es,l⟩ (hb||zT xs) (zS xs)) ?_
    ·have h0:adA ⟨ty,fr,es,l⟩ o n c (hb||zT (xs.take 0)) (zS (xs.take 0)) ((0:Nat):Int)=⟨[0,5,10,11,12].zip [A0,P2,.v (.one (.slx 1 o n c)),.v (.one (.int .i64 n)),.v (.one (.int .i64 0))],[0,1,2].zip [flag 61 hb,⟨ty,fr,es,l⟩,wB 0],3⟩:=by
      unfold adA
      simp only [List.take_zero,zT,Bool.or_false,zS]
      rfl
     rw [←h0]
     exact hR
    ·refine To.run (z:=Zl) sound15 (slots:=[4]) (blks:=[0,1]) (vs:=[.v (.one (.int .i64 (Xo xs)))]) (bs:=[flag 61 (hb||xp xs),⟨ty,fr,es,l⟩]) (nbB:=3) (fun dead=>fe dead (hb||zT xs) ty fr es l (wHi (zS xs)) (wLo (zS xs))) rfl ?_ ?_ ?_ (qF rfl (xX (Nat.le_succ 2) rfl (jn jm hok))) (Nat.le_refl _)
     ·rw [jW,jpc,hend]
     ·rw [jW,jpc,jaY,Bool.or_assoc];rfl
     ·simp only [jZ,isI_iff,isU_iff]
      exact ⟨hi2,hl2,rfl,jd⟩
   ·rcases Xj hib with ⟨rfl,rfl⟩ | ⟨rfl,rfl⟩
    ·exact ⟨rfl,by decide,rfl⟩
    ·exact ⟨rfl,by decide,jn jm hok⟩
  ·subst hx
   have hrun:=jDD hb
   cases hq:jR Tryz.prog S15 Zl 2000 181 [A0,.v (.one .nilsl)] [(0,flag 61 hb)] 1 [] with
   | none=>rw [hq] at hrun;cases hrun
   | some q=>
    obtain ⟨v',m2,nb',cs'⟩:=q
    rw [hq] at hrun
    simp only [Option.map_some,Option.some.injEq,Prod.mk.injEq] at hrun
    obtain ⟨rfl,hm2,rfl⟩:=hrun
    exact yu sound15 hq (m':=[(0,flag 61 (hb||xp []))]) (fun i c hic=>by
      obtain ⟨rfl,rfl⟩:=jbS hic
      exact ⟨hm2,Nat.zero_lt_one,rfl⟩) (by simp) rfl (fun a ha=>by
      simp only [List.mem_cons,List.not_mem_nil,or_false] at ha
      rcases ha with rfl | rfl <;> rfl) rfl E w hrel
def S16:FuncId→Option SumK:=more S15 181 (yv 61 1 jhF)
theorem sound16:Sound Tryz.prog S16:=sound15.more sumFadd
end Go.Proofs.YtnlhpaidmiogbaaGreat

/- root: end, Recip, by every path of their runs (printed), and what they come to. -/
namespace Go.Proofs.YtnlhpaidmiogbaaGreat
open Go.Lr
set_option linter.unusedVariables false
set_option linter.unusedSimpArgs false
theorem jkK (x y:Int) (hb:Bool):(jR Tryz.prog S16 Zl 2000 114 [A0,.v (.agg [.int .i64 x,.int .u64 y])] [(0,flag 61 hb)] 1 [some true]).map qn=some (LV.v (V1.one (At.int IntKind.i64 (jc 1152921504606846977))),some { ty:=61,fr:=(0,0),es:=0,cells:=[At.bool (hb||jV 1152921504606846977)] },[(!isI (kp (jb x y)),true),(decide (x<0),false),(isI x,true),(isU y,true)]):=by kernel_rfl
theorem jkL (x y:Int) (hb:Bool):(jR Tryz.prog S16 Zl 2000 114 [A0,.v (.agg [.int .i64 x,.int .u64 y])] [(0,flag 61 hb)] 1 [some false]).map qn=some (LV.v (V1.one (At.int IntKind.i64 (jc (if isI (kp (jb x y))=true then kp (jb x y) else 0)))),some { ty:=61,fr:=(0,0),es:=0,cells:=[At.bool (hb||jV (if isI (kp (jb x y))=true then kp (jb x y) else 0))] },[(!isI (kp (jb x y)),false),(decide (x<0),false),(isI x,true),(isU y,true)]):=by kernel_rfl
def jci (x y:Int) (hb:Bool):Option (LV×Bool×List (Bool×Bool)):=
 bif (!isI (kp (jb x y))) then some (LV.v (V1.one (At.int IntKind.i64 (jc 1152921504606846977))),(hb||jV 1152921504606846977),[(decide (x<0),false),(isI x,true),(isU y,true)])
 else some (LV.v (V1.one (At.int IntKind.i64 (jc (if isI (kp (jb x y))=true then kp (jb x y) else 0)))),(hb||jV (if isI (kp (jb x y))=true then kp (jb x y) else 0)),[(decide (x<0),false),(isI x,true),(isU y,true)])
def jjs:List LV→Bool→Option (LV×Bool×List (Bool×Bool))
 | [.v (.agg [.int .i64 x,.int .u64 y])],hb=>jci x y hb
 | _,_=>none
theorem sumxrend:SumOK Tryz.prog 114 (jv 61 jjs):=by
 refine jT (z:=Zl) sound16 (jg sound16 Tryz.func114 (by kernel_rfl)) fun args hb v h' cs hF hc=> ?_
 unfold jjs at hF
 split at hF
 ·rename_i x y
  unfold jci at hF
  rcases ji (!isI (kp (jb x y))) with h0 | h0
  ·rw [jH h0] at hF
   cases hF
   exact ⟨rfl,2000,[some true],_,jkK x y hb,ja (h0) (ja (jx (hc)) (ja (jx (jf (hc))) (ja (jx (jf (jf (hc)))) (jd))))⟩
  ·rw [jB h0] at hF
   cases hF
   exact ⟨rfl,2000,[some false],_,jkL x y hb,ja (h0) (ja (jx (hc)) (ja (jx (jf (hc))) (ja (jx (jf (jf (hc)))) (jd))))⟩
 ·cases hF
def jkM:List LV→Bool→Option (LV×Bool×List (Bool×Bool))
 | [.v (.agg [.int .i64 x,.int .u64 y])],hb=>some (I (jc (kp (jb x y))),hb||jV (kp (jb x y)),[(decide (x<0),false),(isI x,true),(isU y,true)])
 | _,_=>none
theorem jkN:SumOK Tryz.prog 114 (jv 61 jkM):=by
 refine sumxrend.acc_re fun args hb v h' cs hF hc=> ?_
 unfold jkM at hF
 split at hF
 ·rename_i x y
  cases hF
  refine ⟨[(decide (x<0),false),(isI x,true),(isU y,true)], ?_,hc⟩
  show jci x y hb=_
  simp only [jZ,ql,isI_iff,isU_iff,decide_eq_false_iff_not] at hc
  obtain ⟨hx,⟨hx0,hx1⟩,⟨hy0,hy1⟩,-⟩:=hc
  have hN0:0≤jb x y:=by unfold jb;omega
  have hN1:jb x y<340282366920938463463374607431768211456:=by unfold jb;omega
  have hr:=(Kk hN0 hN1).1
  unfold jci
  generalize kp (jb x y)=r at *
  by_cases hi:isI r=true
  ·rw [jB (by rw [hi];rfl),if_pos hi];rfl
  ·have hi':isI r=false:=by simpa using hi
   rw [jH (by rw [hi'];rfl)]
   have hbig:¬(-9223372036854775808≤r∧r<9223372036854775808):=fun hh=>hi (isI_iff.2 hh)
   rw [jeS (a:=r) (by omega),Yv (a:=r) (by omega),jeS (a:=1152921504606846977) (by omega),Yv (a:=1152921504606846977) (by omega)]
   rfl
 ·cases hF
def S17:FuncId→Option SumK:=more S16 114 (jv 61 jkM)
theorem sound17:Sound Tryz.prog S17:=sound16.more jkN
end Go.Proofs.YtnlhpaidmiogbaaGreat
