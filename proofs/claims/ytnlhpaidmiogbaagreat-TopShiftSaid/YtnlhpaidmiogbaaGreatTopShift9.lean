/- Joined texts. What each part proves stands ahead of it; no condition. -/
import Derived.Test.YtnlhpaidmiogbaaGreatTopShift8
import Derived.Test.YtnlhpaidmiogbaaGreatLrM4
import Derived.Test.YtnlhpaidmiogbaaGreatTopShift7
import Derived.Test.YtnlhpaidmiogbaaGreatLrM6

/- TopShift: the plain part; within. -/
namespace Go.Proofs.YtnlhpaidmiogbaaGreat
open Go.Lr
set_option linter.unusedVariables false
theorem jP:AllOb []:=fun q h=>by cases h
theorem js {q:Ob} {l:List Ob} (h:q.ok) (k:AllOb l):AllOb (q::l):=fun x hx=>by
 rcases List.mem_cons.1 hx with rfl | hx
 ·exact h
 ·exact k x hx
def stC (i:Nat) (l:List LV):Int:=match jeQ l with
 | some (.v (.agg c))=>jo c i
 | _=>0
def acL (v0 v1 v2 p0 p1 p2 T x:Int):List LV:=[.v (.agg [.int .i64 1073741824,.int .i64 0,.int .i64 0,.int .i64 77,.int .i64 v0,.int .i64 v1,.int .i64 v2,.int .i64 p0,.int .i64 p1,.int .i64 p2,.int .i64 0,.int .i64 0,.int .i64 0,.int .i64 0,.int .i64 0,.int .i64 0,.int .i64 267414331,.int .i64 (-23395723),.int .i64 322122547,.int .i64 0,.int .i64 0,.int .i64 0,.int .i64 0,.int .i64 0]),.v (.agg [.int .i64 T,.int .i64 8000,.int .i64 0,.int .i64 0,.int .i64 0,.int .i64 (fI2 0 x),.int .i64 0,.int .i64 (-84238486)])]
def acE (v d g:Int):Int:=jw (fI3 (jw v (-549755813888) 549755813888) d g) (-549755813888) 549755813888
theorem ac4 (v0 v1 v2 p0 p1 p2 T x:Int):stC 4 (acL v0 v1 v2 p0 p1 p2 T x)=acE v0 (qP 30 [1073741824,-154,0] [xW (fI2 0 x) 0,0,-84238486]) 0:=by kernel_rfl
theorem ac5 (v0 v1 v2 p0 p1 p2 T x:Int):stC 5 (acL v0 v1 v2 p0 p1 p2 T x)=acE v1 (qP 30 [154,1073741824,0] [xW (fI2 0 x) 0,0,-84238486]) 0:=by kernel_rfl
theorem ac6 (v0 v1 v2 p0 p1 p2 T x:Int):stC 6 (acL v0 v1 v2 p0 p1 p2 T x)=acE v2 (qP 30 [0,0,1073741824] [xW (fI2 0 x) 0,0,-84238486]) 84238486:=by kernel_rfl
def acU (x:Int):Int:=kB (154*x) 30
theorem jir {x:Int} (h0: -1152921504606846976≤x) (h1:x≤1152921504606846976):fI2 0 x=x:=by
 show jc (jc 0+(jc x+0))=x
 rw [jL (a:=0) (by omega) (by omega),jL h0 h1,Int.add_zero,Int.zero_add,jL h0 h1]
theorem jcW {x:Int} (h0: -1152921504606846976≤x) (h1:x≤1152921504606846976):xW x 0=x:=by
 unfold xW
 rw [jL (a:=0) (by omega) (by omega),jL h0 h1,Int.sub_zero,jL h0 h1]
theorem jgc (a b c x y z:Int):qP 30 [a,b,c] [x,y,z]=zR (jc a*jc x+(jc b*jc y+(jc c*jc z+0))) 30:=rfl
theorem jcX {w:Int} (h: -1000000000000000000≤kB w 30) (k:kB w 30≤1000000000000000000):zR w 30=kB w 30:=by
 unfold zR
 rw [if_neg (by decide),if_neg (by decide)]
 exact jL (by show _≤kB w 30;omega) (by show kB w 30≤_;omega)
theorem jgd (w:Int): -1073741824≤2*(kB w 30*1073741824 - w)∧2*(kB w 30*1073741824 - w)≤1073741824:=jjp w 30
theorem jis {x:Int} (h0: -134217728≤x) (h1:x≤134217728):qP 30 [1073741824,-154,0] [xW (fI2 0 x) 0,0,-84238486]=x:=by
 rw [jir (by omega) (by omega),jcW (by omega) (by omega),jgc,jL (a:=x) (by omega) (by omega),jL (a:=1073741824) (by omega) (by omega),jL (a:= -154) (by omega) (by omega),jL (a:=0) (by omega) (by omega),jL (a:= -84238486) (by omega) (by omega)]
 have b:=jgd (1073741824*x+(-154*0+(0 * -84238486+0)))
 rw [jcX (by omega) (by omega)]
 omega
theorem jB6 {x:Int} (h0: -67108864≤x) (h1:x≤67108864): -16≤acU x∧acU x≤16:=by
 have b:=jgd (154*x)
 unfold acU
 omega
theorem jlG {x:Int} (h0: -67108864≤x) (h1:x≤67108864):qP 30 [154,1073741824,0] [xW (fI2 0 x) 0,0,-84238486]=acU x:=by
 rw [jir (by omega) (by omega),jcW (by omega) (by omega),jgc,jL (a:=x) (by omega) (by omega),jL (a:=1073741824) (by omega) (by omega),jL (a:=154) (by omega) (by omega),jL (a:=0) (by omega) (by omega),jL (a:= -84238486) (by omega) (by omega)]
 have e:154*x+(1073741824*0+(0 * -84238486+0))=154*x:=by omega
 rw [e]
 have b:=jB6 h0 h1
 unfold acU at *
 rw [jcX (by omega) (by omega)]
theorem jyB {x:Int} (h0: -134217728≤x) (h1:x≤134217728):qP 30 [0,0,1073741824] [xW (fI2 0 x) 0,0,-84238486] = -84238486:=by
 rw [jir (by omega) (by omega),jcW (by omega) (by omega),jgc,jL (a:=x) (by omega) (by omega),jL (a:=1073741824) (by omega) (by omega),jL (a:=0) (by omega) (by omega),jL (a:= -84238486) (by omega) (by omega)]
 have b:=jgd (0*x+(0*0+(1073741824 * -84238486+0)))
 rw [jcX (by omega) (by omega)]
 omega
theorem jit {v:Int} (h0: -549755813888≤v) (h1:v≤549755813888):jw v (-549755813888) 549755813888=v:=by
 unfold jw
 rw [if_neg (by omega),if_neg (by omega),if_neg (by omega)]
theorem jyC {v d g:Int} (h0: -274877906944≤v) (h1:v≤274877906944) (h2: -134217728≤d) (h3:d≤134217728) (h4: -134217728≤g) (h5:g≤134217728):acE v d g=v+d+g:=by
 unfold acE
 rw [jit (v:=v) (by omega) (by omega)]
 have e:fI3 v d g=v+d+g:=by
  show jc (jc v+(jc d+(jc g+0)))=_
  rw [jL (a:=v) (by omega) (by omega),jL (a:=d) (by omega) (by omega),jL (a:=g) (by omega) (by omega),jL (by omega) (by omega)]
  omega
 rw [e,jit (by omega) (by omega)]
structure AcH (x:Int):Prop where
 lo: -67108864≤x
 hi:x≤67108864
theorem AcH.v4 {x:Int} (h:AcH x) {v:Int} (v1 v2 p0 p1 p2 T:Int) {r:Int} (h0: -2147483648≤v) (h1:v≤2147483648) (e:v+x=r):stC 4 (acL v v1 v2 p0 p1 p2 T x)=r:=by
 obtain ⟨a,b⟩:=h
 rw [ac4,jis (by omega) (by omega),jyC (by omega) (by omega) (by omega) (by omega) (by omega) (by omega)]
 omega
theorem AcH.v5 {x:Int} (h:AcH x) (v0:Int) {v:Int} (v2 p0 p1 p2 T:Int) {r:Int} (h0: -2147483648≤v) (h1:v≤2147483648) (e:v+acU x=r):stC 5 (acL v0 v v2 p0 p1 p2 T x)=r:=by
 obtain ⟨a,b⟩:=h
 have c:=jB6 a b
 rw [ac5,jlG a b,jyC (by omega) (by omega) (by omega) (by omega) (by omega) (by omega)]
 omega
theorem AcH.v6 {x:Int} (h:AcH x) (v0 v1 p0 p1 p2 T:Int):stC 6 (acL v0 v1 0 p0 p1 p2 T x)=0:=by
 obtain ⟨a,b⟩:=h
 rw [ac6,jyB (by omega) (by omega),jyC (by omega) (by omega) (by omega) (by omega) (by omega) (by omega)]
 omega
def mvV (x:Int):Int:=QI x 1073741824 1000
def mvW (x:Int):Int:=kB (2*mvV x*4294968) 30
def mvC (x:Int):Int:=jw x (-549755813888) 549755813888
def mvP (p v d:Int):Int:=jw (fI2 (jw p (-9007199254740992) 9007199254740992) (ko (fI2 (mvC v) (fI3 (mvC v) d 0)) 4294968 30)) (-9007199254740992) 9007199254740992
theorem mv7 (v0 v1 v2 p0 p1 p2 T x:Int):stC 7 (acL v0 v1 v2 p0 p1 p2 T x)=jw (fI2 (jw p0 (-9007199254740992) 9007199254740992) (ko (fI2 (mvC v0) (fI3 (mvC v0) (qP 30 [1073741824,-154,0] [xW (fI2 0 x) 0,0,-84238486]) 0)) 4294968 30)) (-9007199254740992) 9007199254740992:=by kernel_rfl
theorem mv8 (v0 v1 v2 p0 p1 p2 T x:Int):stC 8 (acL v0 v1 v2 p0 p1 p2 T x)=jw (fI2 (jw p1 (-9007199254740992) 9007199254740992) (ko (fI2 (mvC v1) (fI3 (mvC v1) (qP 30 [154,1073741824,0] [xW (fI2 0 x) 0,0,-84238486]) 0)) 4294968 30)) (-9007199254740992) 9007199254740992:=by kernel_rfl
theorem jyD (w:Int): -1000≤2*(xU w 1000*1000 - w)∧2*(xU w 1000*1000 - w)≤1000:=by
 by_cases h:0≤w
 ·rw [jeM h (by omega)];exact jeL h (by omega)
 ·have k:=jeL (a:= -w) (b:=1000) (by omega) (by omega)
  have e:xU w 1000 = -(jcA (-w) 1000):=by
   unfold xU
   rw [show decide (w<0)=true by simpa using h,show decide ((1000:Int)<0)=false from rfl,show jh w = -w by unfold jh;rw [if_pos (by omega)],show jh 1000=1000 from rfl]
   rfl
  rw [e]
  omega
theorem jqs {x:Int} (h0: -1000≤x) (h1:x≤1000): -1000≤2*(mvV x*1000 - x*1073741824)∧2*(mvV x*1000 - x*1073741824)≤1000:=by
 have b:=jyD (x*1073741824)
 have e:mvV x=xU (x*1073741824) 1000:=by
  unfold mvV QI byV
  rw [jL (a:=x) (by omega) (by omega),jL (a:=1073741824) (by omega) (by omega),jL (a:=1000) (by omega) (by omega),if_neg (by omega),jL (by omega) (by omega)]
 rw [e];exact b
structure MvH (x:Int):Prop where
 lo: -1000≤x
 hi:x≤1000
theorem MvH.v {x:Int} (h:MvH x): -1073741825≤mvV x∧mvV x≤1073741825:=by
 have b:=jqs h.lo h.hi
 have:=h.lo;have:=h.hi
 omega
theorem MvH.up {x:Int} (h:MvH x) (g:100≤x):0<mvW x:=by
 have b:=jqs h.lo h.hi
 have c:=jgd (2*mvV x*4294968)
 unfold mvW
 omega
theorem MvH.c {x:Int} (h:MvH x):mvC (mvC (mvC (mvC (mvV x))))=mvV x:=by
 have b:=h.v
 have e:mvC (mvV x)=mvV x:=jit (by omega) (by omega)
 rw [e,e,e,e]
theorem acH0:AcH 0:=⟨by omega,by omega⟩
theorem jyE:acU 0=0:=by kernel_rfl
theorem MvH.v4 {x:Int} (h:MvH x) (v1 v2 p0 p1 p2 T:Int):stC 4 (acL (mvV x) v1 v2 p0 p1 p2 T 0)=mvV x:=by
 have b:=h.v
 exact acH0.v4 _ _ _ _ _ _ (by omega) (by omega) (by omega)
theorem MvH.v5 {x:Int} (h:MvH x) (v0 v2 p0 p1 p2 T:Int):stC 5 (acL v0 (mvV x) v2 p0 p1 p2 T 0)=mvV x:=by
 have b:=h.v
 exact acH0.v5 _ _ _ _ _ _ (by omega) (by omega) (by rw [jyE];omega)
theorem jge {p v:Int} (h0: -1073741825≤v) (h1:v≤1073741825) (h2: -2000000000000≤p) (h3:p≤2000000000000):mvP p v 0=p+kB (2*v*4294968) 30:=by
 unfold mvP mvC
 have e1:fI3 v 0 0=v:=by
  show jc (jc v+(jc 0+(jc 0+0)))=v
  rw [jL (a:=v) (by omega) (by omega),jL (a:=0) (by omega) (by omega),jL (by omega) (by omega)]
  omega
 have e2:fI2 v v=2*v:=by
  show jc (jc v+(jc v+0))=_
  rw [jL (a:=v) (by omega) (by omega),jL (by omega) (by omega)]
  omega
 have c:=jgd (2*v*4294968)
 have e3:ko (2*v) 4294968 30=kB (2*v*4294968) 30:=by
  unfold ko
  rw [jL (a:=2*v) (by omega) (by omega),jL (a:=4294968) (by omega) (by omega)]
  exact jcX (by omega) (by omega)
 have cp:∀y:Int,-9007199254740992≤y→y≤9007199254740992→jw y (-9007199254740992) 9007199254740992=y:=by
  intro y a b
  unfold jw
  rw [if_neg (by omega),if_neg (by omega),if_neg (by omega)]
 rw [jit (by omega) (by omega),e1,e2,e3,cp p (by omega) (by omega)]
 generalize kB (2*v*4294968) 30=r at *
 have e4:fI2 p r=p+r:=by
  show jc (jc p+(jc r+0))=_
  rw [jL (a:=p) (by omega) (by omega),jL (a:=r) (by omega) (by omega),jL (by omega) (by omega)]
  omega
 rw [e4,cp _ (by omega) (by omega)]
theorem MvH.p7 {x:Int} (h:MvH x) (v1 v2:Int) {p:Int} (p1 p2 T:Int) {r:Int} (h0: -1000000000≤p) (h1:p≤1000000000) (e:p+mvW x=r):stC 7 (acL (mvV x) v1 v2 p p1 p2 T 0)=r:=by
 have b:=h.v
 rw [mv7,jis (by omega) (by omega)]
 have:=jge (p:=p) b.1 b.2 (by omega) (by omega)
 unfold mvP at this
 rw [this]
 exact e
def smN (x:Int):Int:=ko (wr .i64 (x - 0)) 12157770197 10
def smE (x:Int):Int:=ko (wr .i64 (x - 0)) 12239707452 10
def smQ (x:Int):Int:=jw x (-9007199254740992) 9007199254740992
def smC (x:Int):Int:=fI3 0 0 (xW (jw x (-9007199254740992) 9007199254740992) 0)
def smL:List LV:=acL 0 0 0 0 0 0 0 0
def smD (j:Nat) (x:Int):Int:=fI3 0 0 (xW (smQ x) (smQ (smQ (smQ (stC j smL)))))
theorem jiu:smQ (smQ (smQ 0))=0:=by decide
theorem jiv:kB (2*0*4294968) 30=0:=by kernel_rfl
theorem jlH:stC 7 smL=0:=by
 unfold smL
 rw [mv7,jis (by omega) (by omega)]
 have:=jge (p:=0) (v:=0) (by omega) (by omega) (by omega) (by omega)
 unfold mvP at this
 rw [this,jiv]
 rfl
theorem jlI:stC 8 smL=0:=by
 unfold smL
 rw [mv8,jlG (by omega) (by omega),jyE]
 have:=jge (p:=0) (v:=0) (by omega) (by omega) (by omega) (by omega)
 unfold mvP at this
 rw [this,jiv]
 rfl
structure SmH (x:Int):Prop where
 lo: -100000≤x
 hi:x≤100000
theorem jyF (w:Int): -1024≤2*(kB w 10*1024 - w)∧2*(kB w 10*1024 - w)≤1024:=jjp w 10
theorem jvB {x k:Int} (h:SmH x) (h0:0≤k) (h1:k≤13000000000): -1300000000000≤ko (wr .i64 (x - 0)) k 10∧ko (wr .i64 (x - 0)) k 10≤1300000000000:=by
 have a:=h.lo;have b:=h.hi
 rw [Go.Lr.w1 (by omega),Int.sub_zero]
 unfold ko
 rw [jL (a:=x) (by omega) (by omega),jL (a:=k) (by omega) (by omega)]
 have p: -1300000000000000≤x*k∧x*k≤1300000000000000:=by
  constructor
  ·have: -100000*13000000000≤x*k:=by
    rcases Int.le_total 0 x with hx | hx
    ·have:=Int.mul_nonneg hx h0;omega
    ·have h2:x*13000000000≤x*k:=Int.mul_le_mul_of_nonpos_left hx h1
     omega
   omega
  ·have:x*k≤100000*13000000000:=by
    rcases Int.le_total 0 x with hx | hx
    ·have h2:x*k≤x*13000000000:=Int.mul_le_mul_of_nonneg_left h1 hx
     omega
    ·have h2:x*k≤0:=Int.mul_nonpos_of_nonpos_of_nonneg hx h0
     omega
   omega
 have c:=jyF (x*k)
 unfold zR
 rw [if_neg (by decide),if_neg (by decide)]
 have e:jc (kB (x*k) (10:Int).toNat)=kB (x*k) 10:=jL (by show _≤kB (x*k) 10;omega) (by show kB (x*k) 10≤_;omega)
 rw [e]
 omega
theorem jB7 {x:Int} (h0: -1300000000000≤x) (h1:x≤1300000000000):smC x=x:=by
 unfold smC
 have e:jw x (-9007199254740992) 9007199254740992=x:=by
  unfold jw
  rw [if_neg (by omega),if_neg (by omega),if_neg (by omega)]
 have e2:xW x 0=x:=by
  unfold xW
  rw [jL (a:=0) (by omega) (by omega),jL (a:=x) (by omega) (by omega),Int.sub_zero,jL (by omega) (by omega)]
 rw [e,e2]
 show jc (jc 0+(jc 0+(jc x+0)))=x
 rw [jL (a:=0) (by omega) (by omega),jL (a:=x) (by omega) (by omega),jL (by omega) (by omega)]
 omega
theorem SmH.n {x:Int} (h:SmH x):smD 7 (smN x)=smN x:=by
 unfold smD
 rw [jlH,jiu]
 show smC (smN x)=smN x
 have b:=jvB h (k:=12157770197) (by omega) (by omega)
 exact jB7 b.1 b.2
theorem SmH.e {x:Int} (h:SmH x):smD 8 (smE x)=smE x:=by
 unfold smD
 rw [jlI,jiu]
 show smC (smE x)=smE x
 have b:=jvB h (k:=12239707452) (by omega) (by omega)
 exact jB7 b.1 b.2
def wiB (a b m:Int):Bool:=decide (wr .i64 (a - b)≤m)&&decide (wr .i64 (b - a)≤m)
def jbR:List LV→Option (LV×List (Bool×Bool))
 | [.v (.one (.int .i64 a)),.v (.one (.int .i64 b)),.v (.one (.int .i64 m))]=>some (.v (.one (.bool true)),[(wiB a b m,true)])
 | _=>none
theorem jlJ (a b m:Int):(jR Tryz.prog K2 Zl 4000 17 [I a,I b,I m] [] 0 (tt 6 [])).map (fun r=>(r.1,r.2.2.2))=some (.v (.one (.bool (decide (wr .i64 (b - a)≤m)))),ra 6 (decide (wr .i64 (a - b)≤m),true) []):=by kernel_rfl
theorem jgf:SumOK Tryz.prog 17 (jp jbR):=by
 refine jM (z:=Zl) soundK2 (jg soundK2 Tryz.func17 (by kernel_rfl)) fun args v cs hF hc=> ?_
 unfold jbR at hF
 split at hF
 ·rename_i a b m
  cases hF
  have h:=jx hc
  simp only [wiB,Bool.and_eq_true] at h
  have r:=jlJ a b m
  rw [h.2] at r
  exact ⟨4000,_,_,r,jC h.1 jd _⟩
 ·cases hF
noncomputable def AWS:FuncId→Option SumK:=more jja 17 (jp jbR)
theorem jt:Sound Tryz.prog AWS:=soundAS31.more jgf
theorem Qb {a b m:Int} (e:a=b) (h:0≤m):wiB a b m=true:=by
 subst e
 unfold wiB
 rw [Int.sub_self,show wr .i64 0=0 from rfl,decide_eq_true h]
 rfl
theorem jyG (v1 v2 p1 p2 T:Int) {p:Int} (h2: -2000000000000≤p) (h3:p≤2000000000000):stC 7 (acL 0 v1 v2 p p1 p2 T 0)=p:=by
 rw [mv7,jis (by omega) (by omega)]
 have:=jge (p:=p) (v:=0) (by omega) (by omega) h2 h3
 unfold mvP at this
 rw [this,jiv]
 omega
theorem jyH (v0 v2 p0 p2 T:Int) {p:Int} (h2: -2000000000000≤p) (h3:p≤2000000000000):stC 8 (acL v0 0 v2 p0 p p2 T 0)=p:=by
 rw [mv8,jlG (by omega) (by omega),jyE]
 have:=jge (p:=p) (v:=0) (by omega) (by omega) h2 h3
 unfold mvP at this
 rw [this,jiv]
 omega
structure ShB (x:Int):Prop where
 lo: -1300000000000≤x
 hi:x≤1300000000000
theorem SmH.bn {x:Int} (h:SmH x):ShB (smN x):=by
 have b:=jvB h (k:=12157770197) (by omega) (by omega)
 exact ⟨b.1,b.2⟩
theorem SmH.be {x:Int} (h:SmH x):ShB (smE x):=by
 have b:=jvB h (k:=12239707452) (by omega) (by omega)
 exact ⟨b.1,b.2⟩
theorem ShB.q {x:Int} (h:ShB x):smQ x=x:=by
 have:=h.lo;have:=h.hi
 unfold smQ jw
 rw [if_neg (by omega),if_neg (by omega),if_neg (by omega)]
theorem ShB.q0:smQ 0=0:=by decide
theorem ShB.s0 {x:Int} (h:ShB x):xW x 0=x:=by
 have:=h.lo;have:=h.hi
 exact jcW (by omega) (by omega)
theorem ShB.ss (x:Int):xW x x=0:=by
 unfold xW
 rw [Int.sub_self]
 exact jL (by omega) (by omega)
theorem ShB.f0 {x:Int} (h:ShB x):fI2 0 x=x:=by
 have:=h.lo;have:=h.hi
 exact jir (by omega) (by omega)
theorem ShB.f1 {x:Int} (h:ShB x):fI2 x 0=x:=by
 have:=h.lo;have:=h.hi
 show jc (jc x+(jc 0+0))=x
 rw [jL (a:=0) (by omega) (by omega),jL (a:=x) (by omega) (by omega),jL (by omega) (by omega)]
 omega
theorem ShB.f00:fI2 0 0=0:=by kernel_rfl
theorem ShB.m0 (k:Int):ko 0 k 30=0:=by
 unfold ko
 rw [jL (a:=0) (by omega) (by omega),Int.zero_mul]
 kernel_rfl
def shI (j:Nat) (f x:Int):Int:=smQ (fI2 (smQ (fI2 f 0)) (xW (smQ x) (smQ (smQ (smQ (stC j smL))))))
def shO (j:Nat) (f a x:Int):Int:=smQ (fI2 (shI j f x) (ko (xW (smQ (smQ (smQ x))) (shI j a x)) 268435456 30))
def shN (j:Nat):Int:=smQ (stC j smL)
theorem ShB.i7 {x:Int} (h:ShB x):shI 7 0 x=x:=by
 unfold shI
 rw [jlH,jiu,ShB.f00,ShB.q0,h.q,h.s0,h.f0,h.q]
theorem ShB.i8 {x:Int} (h:ShB x):shI 8 0 x=x:=by
 unfold shI
 rw [jlI,jiu,ShB.f00,ShB.q0,h.q,h.s0,h.f0,h.q]
theorem jyI:shN 7=0:=by unfold shN;rw [jlH];exact ShB.q0
theorem jyJ:shN 8=0:=by unfold shN;rw [jlI];exact ShB.q0
theorem ShB.o {x y:Int} (h:ShB x) (e:y=x):smQ (fI2 y (ko (xW (smQ (smQ (smQ x))) y) 268435456 30))=x:=by
 subst e
 rw [h.q,h.q,h.q,ShB.ss,ShB.m0,h.f1,h.q]
theorem ShB.o7ll {x:Int} (h:ShB x):shO 7 0 0 x=x:=h.o h.i7
theorem ShB.o8ll {x:Int} (h:ShB x):shO 8 0 0 x=x:=h.o h.i8
theorem ShB.o7lp {x:Int} (h:ShB x):shO 7 0 (shN 7) x=x:=by rw [jyI];exact h.o7ll
theorem ShB.o8lp {x:Int} (h:ShB x):shO 8 0 (shN 8) x=x:=by rw [jyJ];exact h.o8ll
theorem ShB.o7pl {x:Int} (h:ShB x):shO 7 (shN 7) 0 x=x:=by rw [jyI];exact h.o7ll
theorem ShB.o8pl {x:Int} (h:ShB x):shO 8 (shN 8) 0 x=x:=by rw [jyJ];exact h.o8ll
theorem ShB.o7pp {x:Int} (h:ShB x):shO 7 (shN 7) (shN 7) x=x:=by rw [jyI];exact h.o7ll
theorem ShB.o8pp {x:Int} (h:ShB x):shO 8 (shN 8) (shN 8) x=x:=by rw [jyJ];exact h.o8ll
theorem ShB.s7 {x:Int} (h:ShB x) (v1 v2 p1 p2 T:Int):stC 7 (acL 0 v1 v2 x p1 p2 T 0)=x:=jyG _ _ _ _ _ (by have:=h.1;omega) (by have:=h.2;omega)
theorem ShB.s8 {x:Int} (h:ShB x) (v0 v2 p0 p2 T:Int):stC 8 (acL v0 0 v2 p0 x p2 T 0)=x:=jyH _ _ _ _ _ (by have:=h.1;omega) (by have:=h.2;omega)
def shR (f a e:Int):Int:=smQ (fI2 f (ko (xW e a) 268435456 30))
theorem ShB.r {x f a e:Int} (h:ShB x) (hf:f=x) (ha:a=x) (he:e=x):shR f a e=x:=by
 subst hf
 rw [ha,he]
 unfold shR
 rw [ShB.ss,ShB.m0,h.f1,h.q]
end Go.Proofs.YtnlhpaidmiogbaaGreat

/- TopShift: states, what a stage says. -/
namespace Go.Proofs.YtnlhpaidmiogbaaGreat
open Go.Lr
set_option linter.unusedVariables false
def ji6:List Go.Lr.P2:=[qI 16]++rq 7 (qI 5)++[qI 1000000,qI 1000000,qI 1000000,qI 1000000,qI 1000000,qI 1000000,qI 1048576,qI 1048576,qI 1048576,qI 1048576,qI 17179869184,qI 17179869184,qI 17179869184,qI 16384,qI 16384,qI 16384,qI 1024,qI 1024,qI 1024,qI 65536,qI 65536,qI 65536,qI 16384,qI 16384,qI 16384,qI 16384,qI 16384,qI 16384,qI 17179869184,qI 17179869184,qI 68719476736,qI 68719476736,qI 68719476736,qI 68719476736,qI 17592186044416,qI 17592186044416,qI 17592186044416,qI 17592186044416,qI 17592186044416,qI 17592186044416,qI 67108864,qI 67108864,qI 67108864,qI 4294967296,qI 4294967296,qI 4294967296,qI 17179869184,qI 17179869184,qI 17179869184,qI 17179869184,qI 17179869184,qI 17179869184,qI 17592186044416,qI 17592186044416,qI 5000000,qI 68719476736,qI 1,qI 268435456,qI 32,qI 0,qI 0,qI 0]
def jAw:List Go.Lr.P2:=[qI 68719476736,qI 68719476736,qI 68719476736,qI 68719476736,qI 17592186044416,qI 17592186044416,qI 17592186044416,qI 17592186044416,qI 17592186044416,qI 17592186044416,qI 67108864,qI 67108864,qI 67108864,qI 4294967296,qI 4294967296,qI 4294967296,qI 17179869184,qI 17179869184,qI 17179869184,qI 17179869184,qI 17179869184,qI 17179869184,qI 17592186044416,qI 17592186044416]
def jAx:List Go.Lr.P2:=[qI 0,qI 0,qB false,qI 0,qI 1000000,qI 5,qI 0,qI 0,qB false,qI 1,qI 1000000,qI 5,qI 0,qI 0,qB false,qI 2,qI 1000000,qI 5,qI 0,qI 0,qB false,qI 3,qI 1000000,qI 5,qI 0,qI 0,qB false,qI 4,qI 1000000,qI 5,qI 0,qI 0,qB false,qI 5,qI 1000000,qI 5,qI 0]
def zhR (b:Nat) (i o:Int) (l:At) (t:Int):Nat×PB2:=(b,⟨171,(0,0),0,[qI i,qI 0,qI 0,qI 0,qI o,qI 16,qL l,qI t],none⟩)
def zhO (q p0 p1:Go.Lr.P2):Nat→Int→List Go.Lr.P2
 | 0,_=>[]
 | n+1,t=>qI t::qI 1073741824::qI 0::qI 0::q::qI 0::qI 0::qI 0::p0::p1::qI 0::zhO q p0 p1 n (t+8000)
def zhQ:Nat→Int→List Go.Lr.P2
 | 0,_=>[]
 | n+1,t=>qI t::qI 8000::qI 0::qI 0::qI 0::qI 0::qI 0::qI (-84238486)::zhQ n (t+8000)
def jAy:List Go.Lr.P2:=qI 1073741824::rq 23 (qI 0)
def jvG (p0 p1:Go.Lr.P2):List Go.Lr.P2:=[qI 1073741824,qI 0,qI 0,qI 77,qI 0,qI 0,qI 0,p0,p1]++rq 7 (qI 0)++[qI 267414331,qI (-23395723),qI 322122547,qI 0,qI 0,qI 0,qI 0,qI 0]
def jsr:List Go.Lr.P2:=rq 300 qH
def jCi:List Go.Lr.P2:=rq 276 (qI 0)++jAw
def jAz:List Go.Lr.P2:=qI 1073741824::rq 9 (qI 0)
def jCj:List Go.Lr.P2:=[qI 1073741824,qI 0,qI 0,qI 77]++rq 6 (qI 0)
def zhT (qu:At) (md so:Int) (va hf st:Bool) (sl f2:Int) (ti he ai:Bool) (ad t rs:Int) (sm:List Go.Lr.P2) (ju:At):List Go.Lr.P2:=[qL (.ptr 20 0),qL (.ptr 21 0),qL qu,qL (.ptr 24 0),qL (.ptr 25 0),qL (.ptr 26 0),qL (.ptr 27 0),qL (.ptr 28 0),qL (.ptr 29 0),qL (.ptr 22 0),qI md,qI so,qB va,qB hf,qL (.ptr 23 0),qB st,qI sl,qI 0,qI 0,qI f2,qB ti,qB he,qB ai,qI ad,qI t,qI rs]++sm++[qL ju]
def zhF (dl:Int) (fl:Go.Lr.P2) (s c t:List Go.Lr.P2):List Go.Lr.P2:=qI 8000::qI dl::(ji6++fl::(s++(c++t)))
def jgK (x0:Nat) (x1:Int):Nat×PB2:=(x0,⟨51,(0,0),0,qI 8000::qI x1::ji6,none⟩)
def XA (lat lon:Int):Nat×PB2:=(4,⟨29,(0,0),0,[qS lat,qS lon,qI 0,qI 0,qI 0,qI 0,qI 1000,qI 100],none⟩)
def jdW (x0:Int) (x1 x2:Nat) (x3:Int):Nat×PB2:=(13,⟨97,(0,0),0,zhF x0 (qO) jAy jsr (zhT (.slu x1 x2) 1 0 false false true 10 (-842384860) true false false 0 x3 0 jAz .nilsl),none⟩)
def Kc:Nat×PB2:=(20,⟨129,(0,0),0,[qI 0,qI 0,qI 0,qI 12157770197,qI 12239707452],none⟩)
def Kf (x0:Int):Nat×PB2:=(21,⟨207,(0,0),0,[qI 8000,qI x0]++rq 7 (qI 0)++[qB true],none⟩)
def jaD:Nat×PB2:=(22,⟨184,(0,0),0,jAx,none⟩)
def Qe (x0 x1:Nat):Nat×PB2:=(23,⟨210,(0,0),0,[qI 32,qI 268435456,qL (.slu x0 x1)],none⟩)
def Kd (x0 x1:Int):Nat×PB2:=(30,⟨27,(0,0),0,[qL (.ptr 13 0),qI x0,qI x1,qB false],none⟩)
def jdX (x0:Nat):Nat×PB2:=(x0,⟨66,(0,0),8,[],none⟩)
def Yh (x0 x1:Nat) (x2:Int) (x3:Nat):Nat×PB2:=(x0,⟨79,(0,0),x1,zhO (qI x2) (qI 0) (qI 0) x3 80000,none⟩)
def ji7 (x0:Nat):Nat×PB2:=(x0,⟨61,(0,0),0,[qB false],none⟩)
def jAA (x0:Int):Nat×PB2:=(13,⟨97,(0,0),0,zhF x0 (qB false) jAy jCi (zhT .nilsl 0 0 false false false 0 0 false false false 0 0 0 jAz .nilsl),none⟩)
def jAB:Nat×PB2:=(21,⟨207,(0,0),0,[qI 8000]++rq 8 (qI 0)++[qB false],none⟩)
def jmr:Nat×PB2:=(23,⟨210,(0,0),0,[qI 32,qI 268435456,qL .nilsl],none⟩)
def jss (x0:Int) (x1 x2:Nat) (x3 x4 x5:Int):Nat×PB2:=(13,⟨97,(0,0),0,zhF x0 (qB false) jAy jCi (zhT (.slu x1 x2) 0 0 false false false x3 x4 false false false 0 x5 0 jAz .nilsl),none⟩)
def jAC:Nat×PB2:=(23,⟨210,(0,0),0,[qI 32,qI 268435456,qL (.sl 141 0 1 1)],none⟩)
def JH (x0 x1:Nat) (x2:Int):Nat×PB2:=(x0,⟨66,(0,0),8,zhQ x1 x2,none⟩)
def ji8 (lat lon:Int) (x0:Int) (x1 x2:Nat) (x3 x4:Int):Nat×PB2:=(13,⟨97,(0,0),0,zhF x0 (qO) (jvG (qS (smN lat)) (qS (smE lon))) jsr (zhT (.slu x1 x2) 3 2 true false true 10 (-842384860) true true true x3 x4 3 [qI 1073741824,qI 0,qI 0,qI 77,qI 0,qI 0,qI 0,qH,qH,qI 0] .nilsl),none⟩)
def KE (x0:Int) (x1:Bool) (x2:Int):Nat×PB2:=(22,⟨184,(0,0),0,[qI x0,qI 0,qB x1,qI 0,qI 1000000,qI 5,qI 0,qI 0,qB false,qI 1,qI 1000000,qI 5,qI 0,qI 0,qB false,qI 2,qI 1000000,qI 5,qI x2,qI 0,qB true,qI 3,qI 1000000,qI 5,qI 0,qI 0,qB false,qI 4,qI 1000000,qI 5,qI 0,qI 0,qB false,qI 5,qI 1000000,qI 5,qI 0],none⟩)
def yP (x0:Nat):Nat×PB2:=(x0,⟨31,(0,0),9,rq 9 (qI 0),none⟩)
def jdY (lat lon:Int) (x0 x1:Nat):Nat×PB2:=(x0,⟨79,(0,0),11,zhO (qI 77) (qS (smN lat)) (qS (smE lon)) x1 80000,none⟩)
def jst (x0:Nat):Nat×PB2:=(x0,⟨37,(0,0),0,[qI 267413978,qI (-23395692),qI 0],none⟩)
def jsu (x0:Nat):Nat×PB2:=(x0,⟨29,(0,0),0,[qI 249049,qI (-21789),qI 300000,qI 1000,qI 0,qI 0,qI 0,qI 0],none⟩)
def jms (x0:Nat) (x1:Int):Nat×PB2:=(x0,⟨31,(0,0),9,[qI x1,qI 249049,qI (-21789),qI 300000,qI 1000,qI 0,qI 0,qI 0,qI 0],none⟩)
def jsv (x0:Int) (x1 x2:Nat) (x3:Int) (x4:Nat):Nat×PB2:=(13,⟨97,(0,0),0,zhF x0 (qO) (jvG (qI 0) (qI 0)) jsr (zhT (.slu x1 x2) 2 1 false true true 10 (-842384860) true true false 0 x3 1 jCj (.slu x4 1)),none⟩)
def jsw (x0:Nat):Nat×PB2:=(x0,⟨39,(0,0),10,[qI 1073741824,qI 0,qI 0,qI 77,qI 0,qI 0,qI 0,qI 0,qI 0,qI 0],none⟩)
def jgL (x0:Int) (x1 x2:Nat) (x3:Int):Nat×PB2:=(13,⟨97,(0,0),0,zhF x0 (qO) (jvG (qI 0) (qI 0)) jsr (zhT (.slu x1 x2) 2 1 false true true 10 (-842384860) true true false 0 x3 1 jCj .nilsl),none⟩)
def jmt (lat lon:Int) (x0:Nat) (x1:Int):Nat×PB2:=(x0,⟨31,(0,0),9,[qI x1,qS lat,qS lon,qI 0,qI 0,qI 0,qI 0,qI 1000,qI 100],none⟩)
def jsx (lat lon:Int) (x0:Int) (x1 x2:Nat) (x3:Int) (x4:Nat):Nat×PB2:=(13,⟨97,(0,0),0,zhF x0 (qO) (jvG (qS (smN lat)) (qS (smE lon))) jsr (zhT (.slu x1 x2) 3 2 true false true 10 (-842384860) true true true x3 x3 3 [qI 1073741824,qI 0,qI 0,qI 77,qI 0,qI 0,qI 0,qH,qH,qI 0] (.slu x4 2)),none⟩)
def jsy (x0:Nat):Nat×PB2:=(x0,⟨39,(0,0),10,[qI 1073741824]++rq 9 (qI 0)++[qI 1073741824,qI 0,qI 0,qI 0,qI 0,qI 0,qI 0,qH,qH,qI 0],none⟩)
def jmu (lat lon:Int) (x0:Nat):Nat×PB2:=(x0,⟨53,(0,0),0,[qI 1073741824,qI 0,qI 0,qI 77,qI 0,qI 0,qI 0,qS (smN lat),qS (smE lon)]++rq 7 (qI 0)++[qI 267414331,qI (-23395723),qI 322122547,qI 0,qI 0,qI 0,qI 0,qI 0],none⟩)
def jAD (lat lon:Int) (x0:Nat) (x1:Int):Nat×PB2:=(x0,⟨79,(0,0),0,[qI x1,qI 1073741824,qI 0,qI 0,qI 77,qI 0,qI 0,qI 0,qS (smN lat),qS (smE lon),qI 0],none⟩)
def jne (lat lon:Int) (x0:Int):List (Nat×PV2):=[(0,.agg ([qI 8000,qI x0]++ji6)),(1,.one (qI 0)),(2,.agg [qS lat,qS lon,qI 0,qI 0,qI 0,qI 0,qI 1000,qI 100])]
def jgM (lat lon:Int) (x0:Int):List (Nat×PV2):=[(0,.one (qS lat)),(1,.one (qS lon)),(2,.one (qI x0)),(7,.one (qL (.ptr 2 0)))]
def jnf (lat lon:Int) (x0:Int):List (Nat×PV2):=[(0,.one (qS lat)),(1,.one (qS lon)),(2,.one (qI x0))]
def jng (x0:Int) (x1:Nat):List (Nat×PV2):=[(1,.one (qI 0)),(3,.one (qL (.ptr 3 0))),(5,.one (qL (.ptr 4 0))),(7,.one (qL (.ptr 30 0))),(8,.one (qI x0)),(10,.one (qL (.ptr x1 0))),(11,.one (qI (-93701651))),(12,.one (qI 0))]
def jnh (x0:Int) (x1:Nat):List (Nat×PV2):=[(1,.one (qI 0)),(3,.one (qL (.ptr 3 0))),(5,.one (qL (.ptr 4 0))),(7,.one (qL (.ptr 30 0))),(8,.one (qI x0)),(10,.one (qL (.ptr x1 0))),(11,.one (qI (-93701651)))]
def jni (x0:Int) (x1:Nat):List (Nat×PV2):=[(1,.one (qI 0)),(3,.one (qL (.ptr 3 0))),(5,.one (qL (.ptr 4 0))),(7,.one (qL (.ptr 30 0))),(8,.one (qI x0)),(10,.one (qL (.ptr x1 0)))]
def kH (x0 x1:Int):List (Nat×PV2):=[(1,.one (qI 0)),(3,.one (qL (.ptr 3 0))),(5,.one (qL (.ptr 4 0))),(7,.one (qL (.ptr 30 0))),(8,.one (qI x0)),(9,.one (qI x1))]
def jed (x0:Int):List (Nat×PV2):=[(1,.one (qI 0)),(3,.one (qL (.ptr 3 0))),(5,.one (qL (.ptr 4 0))),(7,.one (qL (.ptr 30 0))),(8,.one (qI x0))]
def jnj:List (Nat×PV2):=[(1,.one (qI 0)),(3,.one (qL (.ptr 3 0))),(5,.one (qL (.ptr 4 0))),(7,.one (qL (.ptr 30 0)))]
def jnk:List (Nat×PV2):=[(1,.one (qI 0)),(3,.one (qL (.ptr 3 0))),(5,.one (qL (.ptr 4 0)))]
def jdZ:List (Nat×PV2):=[(13,.one (qI 3))]
def jd0 (lat lon:Int) (x0:Int):List (Nat×PV2):=[(42,.agg ([qI 8000,qI x0]++ji6)),(45,.agg ([qS lat,qS lon,qI 0,qI 0,qI 0,qI 0,qI 1000,qI 100]))]
def xB (x0:Nat):List (Nat×PV2):=[(x0,.one (qL (.ptr 30 0)))]
def jd1 (x0:Int) (x1 x2:Nat):List (Nat×PV2):=[(5,.one (qL (.ptr 4 0))),(7,.one (qL (.ptr 30 0))),(8,.one (qI x0)),(10,.one (qL (.ptr x1 0))),(13,.one (qL (.ptr x2 0)))]
def jd2 (x0:Int) (x1:Nat):List (Nat×PV2):=[(5,.one (qL (.ptr 4 0))),(7,.one (qL (.ptr 30 0))),(8,.one (qI x0)),(14,.one (qL (.ptr x1 0)))]
def qp (x0 x1:Int):List (Nat×PV2):=[(5,.one (qL (.ptr 4 0))),(7,.one (qL (.ptr 30 0))),(8,.one (qI x0)),(15,.one (qI x1))]
def kW (x0 x1 x2 x3 x4:Nat) (x5:Int):List (Nat×PV2):=[(x0,.one (qL (.ptr x1 0))),(x2,.one (qL (.ptr x3 0))),(x4,.one (qI x5))]
def jd3:List (Nat×PV2):=[(6,.one (qB true))]
def qr (x0 x1:Int):List (Nat×PV2):=[(7,.one (qL (.ptr 30 0))),(8,.one (qI x0)),(16,.one (qI x1))]
def jd4 (x0:Int):List (Nat×PV2):=[(7,.one (qL (.ptr 30 0))),(8,.one (qI x0))]
def Qf (x0 x1 x2 x3:Nat):List (Nat×PV2):=[(x0,.one (qL (.ptr x1 0))),(x2,.one (qL (.ptr x3 0)))]
def jd5 (x0 x1:Nat):List (Nat×PV2):=[(9,.one (qL (.ptr x0 0))),(11,.one (qL (.ptr x1 0))),(12,.one (qB true))]
def JL:List (Nat×PB2):=[]
def jgN (x0:Int):List (Nat×PB2):=[(jgK 2 x0)]
def jAE (lat lon:Int):List (Nat×PB2):=[(jgK 3 0),(XA lat lon),(jdW 0 162 0 88000),Kc,(Kf 88000),jaD,(Qe 169 2),(zhR 24 0 0 .nilsl 88000),(zhR 25 0 0 .nilsl 88000),(zhR 26 0 0 .nilsl 88000),(zhR 27 0 0 .nilsl 88000),(zhR 28 0 0 .nilsl 88000),(zhR 29 0 0 .nilsl 88000),(Kd 88000 11),(jdX 162),(Yh 169 11 0 2),(ji7 175)]
def Zj (lat lon:Int) (x0:Int):List (Nat×PB2):=[(jgK 3 x0),(XA lat lon),(jAA x0),Kc,jAB,jaD,jmr,(zhR 24 0 0 .nilsl (-9223372036854775808)),(zhR 25 0 0 .nilsl (-9223372036854775808)),(zhR 26 0 0 .nilsl (-9223372036854775808)),(zhR 27 0 0 .nilsl (-9223372036854775808)),(zhR 28 0 0 .nilsl (-9223372036854775808)),(zhR 29 0 0 .nilsl (-9223372036854775808)),(Kd 0 0)]
def ji9 (lat lon:Int) (x0:Nat) (x1 x2 x3:Int):List (Nat×PB2):=[(jgK 3 0),(XA lat lon),(jss 0 x0 0 x1 x2 x3),Kc,(Kf x3),jaD,jmr,(zhR 24 0 0 .nilsl x3),(zhR 25 0 0 .nilsl x3),(zhR 26 0 0 .nilsl x3),(zhR 27 0 0 .nilsl x3),(zhR 28 0 0 .nilsl x3),(zhR 29 0 0 .nilsl x3),(Kd x3 x1),(jdX x0)]
def jFb (lat lon:Int):List (Nat×PB2):=[(jgK 3 0),(XA lat lon),(jdW 0 152 0 80000),Kc,(Kf 80000),jaD,jAC,(zhR 24 0 0 .nilsl 80000),(zhR 25 0 0 .nilsl 80000),(zhR 26 0 0 .nilsl 80000),(zhR 27 0 0 .nilsl 80000),(zhR 28 0 0 .nilsl 80000),(zhR 29 0 0 .nilsl 80000),(Kd 80000 10),(Yh 141 0 0 1),(jdX 152)]
def jCk (lat lon:Int):List (Nat×PB2):=[(jgK 3 0),(XA lat lon),(jdW 0 162 0 88000),Kc,(Kf 88000),jaD,(Qe 169 2),(zhR 24 0 0 .nilsl 88000),(zhR 25 0 0 .nilsl 88000),(zhR 26 0 0 .nilsl 88000),(zhR 27 0 0 .nilsl 88000),(zhR 28 0 0 .nilsl 88000),(zhR 29 0 0 .nilsl 88000),(Kd 88000 11),(jdX 162),(Yh 169 11 0 2)]
def jbW (lat lon:Int) (x0:Int) (x1 x2:Nat) (x3:Int) (x4 x5 x6:Nat):List (Nat×PB2):=[(jgK 3 x0),(XA lat lon),(jdW x0 x1 x2 88000),Kc,(Kf x3),jaD,(Qe x4 x5),(zhR 24 0 0 .nilsl 88000),(zhR 25 0 0 .nilsl 88000),(zhR 26 0 0 .nilsl 88000),(zhR 27 0 0 .nilsl 88000),(zhR 28 0 0 .nilsl 88000),(zhR 29 0 0 .nilsl 88000),(Kd x3 11),(JH x1 x2 96000),(Yh x4 11 0 x5),(ji7 x6)]
def qQ (lat lon:Int) (x0:Int) (x1 x2:Nat) (x3 x4 x5 x6 x7 x8:Int):List (Nat×PB2):=[(jgK 3 x0),(XA lat lon),(jss x0 x1 x2 x3 x4 x5),Kc,(Kf x6),jaD,jmr,(zhR 24 0 0 .nilsl x7),(zhR 25 0 0 .nilsl x7),(zhR 26 0 0 .nilsl x7),(zhR 27 0 0 .nilsl x7),(zhR 28 0 0 .nilsl x7),(zhR 29 0 0 .nilsl x7),(Kd x6 x3),(JH x1 x2 x8)]
def jsz (lat lon:Int) (x0:Int) (x1 x2:Nat) (x3:Int) (x4 x5:Nat):List (Nat×PB2):=[(jgK 3 x0),(XA lat lon),(jdW x0 x1 x2 80000),Kc,(Kf x3),jaD,(Qe x4 x5),(zhR 24 0 0 .nilsl 80000),(zhR 25 0 0 .nilsl 80000),(zhR 26 0 0 .nilsl 80000),(zhR 27 0 0 .nilsl 80000),(zhR 28 0 0 .nilsl 80000),(zhR 29 0 0 .nilsl 80000),(Kd x3 10),(Yh x4 11 0 x5),(JH x1 x2 88000)]
def XB (lat lon:Int) (x0:Int) (x1 x2:Nat) (x3:Int) (x4 x5:Nat):List (Nat×PB2):=[(jgK 3 x0),(XA lat lon),(jdW x0 x1 x2 88000),Kc,(Kf x3),jaD,(Qe x4 x5),(zhR 24 0 0 .nilsl 88000),(zhR 25 0 0 .nilsl 88000),(zhR 26 0 0 .nilsl 88000),(zhR 27 0 0 .nilsl 88000),(zhR 28 0 0 .nilsl 88000),(zhR 29 0 0 .nilsl 88000),(Kd x3 11),(JH x1 x2 96000),(Yh x4 11 0 x5)]
def jd6 (lat lon:Int) (x0:Int):List (Nat×PB2):=[(jgK 3 x0),(XA lat lon)]
def jgO (lat lon:Int):List (Nat×PB2):=[(ji8 lat lon 0 465 0 112000 120000),Kc,(Kf 120000),(KE 112000 true 96000),(Qe 472 6),(zhR 24 1 1 (.slu 319 0) 120000),(zhR 25 0 0 .nilsl 120000),(zhR 26 0 0 .nilsl 120000),(zhR 27 1 1 (.slu 189 0) 120000),(zhR 28 0 0 .nilsl 120000),(zhR 29 0 0 .nilsl 120000),(Kd 120000 15),(yP 189),(yP 319),(jdX 465),(jdY lat lon 472 6)]
def xr (lat lon:Int) (x0:Int) (x1 x2:Nat) (x3 x4 x5 x6:Int) (x7 x8 x9 x10:Nat) (x11 x12:Int):List (Nat×PB2):=[(ji8 lat lon x0 x1 x2 x3 x4),Kc,(Kf x5),(KE x3 true x6),(Qe x7 x8),(zhR 24 1 1 (.slu x9 0) x4),(zhR 25 0 0 .nilsl x4),(zhR 26 0 0 .nilsl x4),(zhR 27 1 1 (.slu x10 0) x4),(zhR 28 0 0 .nilsl x4),(zhR 29 0 0 .nilsl x4),(Kd x5 x11),(yP x10),(yP x9),(JH x1 x2 x12),(jdY lat lon x7 x8)]
def jAF (lat lon:Int):List (Nat×PB2):=[(XA lat lon),(jdW 0 162 0 88000),Kc,(Kf 88000),jaD,(Qe 169 2),(zhR 24 0 0 .nilsl 88000),(zhR 25 0 0 .nilsl 88000),(zhR 26 0 0 .nilsl 88000),(zhR 27 0 0 .nilsl 88000),(zhR 28 0 0 .nilsl 88000),(zhR 29 0 0 .nilsl 88000),(Kd 88000 11),(jdX 162),(Yh 169 11 0 2),(ji7 175),(jst 184)]
def jAG (lat lon:Int):List (Nat×PB2):=[(XA lat lon),(jdW 0 162 0 88000),Kc,(Kf 88000),jaD,(Qe 169 2),(zhR 24 0 0 .nilsl 88000),(zhR 25 0 0 .nilsl 88000),(zhR 26 0 0 .nilsl 88000),(zhR 27 0 0 .nilsl 88000),(zhR 28 0 0 .nilsl 88000),(zhR 29 0 0 .nilsl 88000),(Kd 88000 11),(jdX 162),(Yh 169 11 0 2),(jsu 185)]
def jsA (lat lon:Int):List (Nat×PB2):=[(XA lat lon),(jdW 0 162 0 88000),Kc,(Kf 88000),jaD,(Qe 169 2),(zhR 24 0 0 .nilsl 88000),(zhR 25 0 0 .nilsl 88000),(zhR 26 0 0 .nilsl 88000),(zhR 27 1 0 (.slu 189 1) 88000),(zhR 28 0 0 .nilsl 88000),(zhR 29 0 0 .nilsl 88000),(Kd 88000 11),(jdX 162),(Yh 169 11 0 2),(jms 189 88001)]
def jAH (lat lon:Int):List (Nat×PB2):=[(XA lat lon),(jsv 0 287 0 96000 247),Kc,(Kf 96000),(KE 0 false 96000),(Qe 294 3),(zhR 24 0 0 .nilsl 96000),(zhR 25 0 0 .nilsl 96000),(zhR 26 0 0 .nilsl 96000),(zhR 27 1 1 (.slu 189 0) 96000),(zhR 28 0 0 .nilsl 96000),(zhR 29 0 0 .nilsl 96000),(Kd 96000 12),(yP 189),(jsw 247),(jdX 287),(Yh 294 11 77 3)]
def jsB (lat lon:Int):List (Nat×PB2):=[(XA lat lon),(jgL 0 303 0 104000),Kc,(Kf 104000),(KE 0 false 96000),(Qe 310 4),(zhR 24 0 0 .nilsl 104000),(zhR 25 0 0 .nilsl 104000),(zhR 26 0 0 .nilsl 104000),(zhR 27 1 1 (.slu 189 0) 104000),(zhR 28 0 0 .nilsl 104000),(zhR 29 0 0 .nilsl 104000),(Kd 104000 13),(yP 189),(jdX 303),(Yh 310 11 77 4)]
def jgP (lat lon:Int) (x0:Int) (x1 x2:Nat) (x3:Int) (x4 x5 x6 x7:Nat):List (Nat×PB2):=[(XA lat lon),(jdW x0 x1 x2 88000),Kc,(Kf x3),jaD,(Qe x4 x5),(zhR 24 0 0 .nilsl 88000),(zhR 25 0 0 .nilsl 88000),(zhR 26 0 0 .nilsl 88000),(zhR 27 0 0 .nilsl 88000),(zhR 28 0 0 .nilsl 88000),(zhR 29 0 0 .nilsl 88000),(Kd x3 11),(JH x1 x2 96000),(Yh x4 11 0 x5),(ji7 x6),(jst x7)]
def jgQ (lat lon:Int) (x0:Int) (x1 x2:Nat) (x3:Int) (x4 x5 x6:Nat):List (Nat×PB2):=[(XA lat lon),(jdW x0 x1 x2 88000),Kc,(Kf x3),jaD,(Qe x4 x5),(zhR 24 0 0 .nilsl 88000),(zhR 25 0 0 .nilsl 88000),(zhR 26 0 0 .nilsl 88000),(zhR 27 0 0 .nilsl 88000),(zhR 28 0 0 .nilsl 88000),(zhR 29 0 0 .nilsl 88000),(Kd x3 11),(JH x1 x2 96000),(Yh x4 11 0 x5),(jsu x6)]
def XC (lat lon:Int) (x0:Int) (x1 x2:Nat) (x3:Int) (x4 x5 x6:Nat) (x7:Int):List (Nat×PB2):=[(XA lat lon),(jdW x0 x1 x2 88000),Kc,(Kf x3),jaD,(Qe x4 x5),(zhR 24 0 0 .nilsl 88000),(zhR 25 0 0 .nilsl 88000),(zhR 26 0 0 .nilsl 88000),(zhR 27 1 0 (.slu x6 1) 88000),(zhR 28 0 0 .nilsl 88000),(zhR 29 0 0 .nilsl 88000),(Kd x3 11),(JH x1 x2 96000),(Yh x4 11 0 x5),(jms x6 x7)]
def JI (lat lon:Int) (x0:Int) (x1 x2:Nat) (x3 x4:Int) (x5 x6 x7:Nat) (x8 x9 x10:Int):List (Nat×PB2):=[(XA lat lon),(jdW x0 x1 x2 x3),Kc,(Kf x4),jaD,(Qe x5 x6),(zhR 24 0 0 .nilsl x3),(zhR 25 0 0 .nilsl x3),(zhR 26 0 0 .nilsl x3),(zhR 27 1 0 (.slu x7 1) x3),(zhR 28 0 0 .nilsl x3),(zhR 29 0 0 .nilsl x3),(Kd x4 x8),(jms x7 x9),(JH x1 x2 x10),(Yh x5 11 0 x6)]
def jgR (lat lon:Int) (x0:Int) (x1 x2:Nat) (x3:Int) (x4:Nat) (x5:Int) (x6 x7 x8:Nat) (x9 x10:Int):List (Nat×PB2):=[(XA lat lon),(jsv x0 x1 x2 x3 x4),Kc,(Kf x5),(KE 0 false x3),(Qe x6 x7),(zhR 24 0 0 .nilsl x3),(zhR 25 0 0 .nilsl x3),(zhR 26 0 0 .nilsl x3),(zhR 27 1 1 (.slu x8 0) x3),(zhR 28 0 0 .nilsl x3),(zhR 29 0 0 .nilsl x3),(Kd x5 x9),(yP x8),(jsw x4),(JH x1 x2 x10),(Yh x6 11 77 x7)]
def XD (lat lon:Int) (x0:Int) (x1 x2:Nat) (x3 x4 x5:Int) (x6 x7 x8:Nat) (x9 x10:Int):List (Nat×PB2):=[(XA lat lon),(jgL x0 x1 x2 x3),Kc,(Kf x4),(KE 0 false x5),(Qe x6 x7),(zhR 24 0 0 .nilsl x3),(zhR 25 0 0 .nilsl x3),(zhR 26 0 0 .nilsl x3),(zhR 27 1 1 (.slu x8 0) x3),(zhR 28 0 0 .nilsl x3),(zhR 29 0 0 .nilsl x3),(Kd x4 x9),(yP x8),(JH x1 x2 x10),(Yh x6 11 77 x7)]
def jsC (lat lon:Int):List (Nat×PB2):=[(jgL 0 303 0 104000),Kc,(Kf 104000),(KE 0 false 96000),(Qe 310 4),(zhR 24 1 0 (.slu 319 1) 104000),(zhR 25 0 0 .nilsl 104000),(zhR 26 0 0 .nilsl 104000),(zhR 27 1 1 (.slu 189 0) 104000),(zhR 28 0 0 .nilsl 104000),(zhR 29 0 0 .nilsl 104000),(Kd 104000 13),(yP 189),(jdX 303),(Yh 310 11 77 4),(jmt lat lon 319 104001)]
def jAI (lat lon:Int):List (Nat×PB2):=[(jsx lat lon 0 448 0 112000 390),Kc,(Kf 112000),(KE 112000 true 96000),(Qe 455 5),(zhR 24 1 1 (.slu 319 0) 112000),(zhR 25 0 0 .nilsl 112000),(zhR 26 0 0 .nilsl 112000),(zhR 27 1 1 (.slu 189 0) 112000),(zhR 28 0 0 .nilsl 112000),(zhR 29 0 0 .nilsl 112000),(Kd 112000 14),(yP 189),(yP 319),(jsy 390),(jdX 448),(jdY lat lon 455 5)]
def XE (lat lon:Int) (x0:Int) (x1 x2:Nat) (x3 x4 x5:Int) (x6 x7 x8 x9:Nat) (x10 x11 x12:Int):List (Nat×PB2):=[(jgL x0 x1 x2 x3),Kc,(Kf x4),(KE 0 false x5),(Qe x6 x7),(zhR 24 1 0 (.slu x8 1) x3),(zhR 25 0 0 .nilsl x3),(zhR 26 0 0 .nilsl x3),(zhR 27 1 1 (.slu x9 0) x3),(zhR 28 0 0 .nilsl x3),(zhR 29 0 0 .nilsl x3),(Kd x4 x10),(yP x9),(JH x1 x2 x11),(Yh x6 11 77 x7),(jmt lat lon x8 x12)]
def JJ (lat lon:Int) (x0:Int) (x1 x2:Nat) (x3 x4 x5:Int) (x6 x7 x8 x9:Nat) (x10 x11 x12:Int):List (Nat×PB2):=[(jgL x0 x1 x2 x3),Kc,(Kf x4),(KE 0 false x5),(Qe x6 x7),(zhR 24 1 0 (.slu x8 1) x3),(zhR 25 0 0 .nilsl x3),(zhR 26 0 0 .nilsl x3),(zhR 27 1 1 (.slu x9 0) x3),(zhR 28 0 0 .nilsl x3),(zhR 29 0 0 .nilsl x3),(Kd x4 x10),(yP x9),(jmt lat lon x8 x11),(JH x1 x2 x12),(Yh x6 11 77 x7)]
def jgS (lat lon:Int) (x0:Int) (x1 x2:Nat) (x3:Int) (x4:Nat) (x5 x6:Int) (x7 x8 x9 x10:Nat) (x11 x12:Int):List (Nat×PB2):=[(jsx lat lon x0 x1 x2 x3 x4),Kc,(Kf x5),(KE x3 true x6),(Qe x7 x8),(zhR 24 1 1 (.slu x9 0) x3),(zhR 25 0 0 .nilsl x3),(zhR 26 0 0 .nilsl x3),(zhR 27 1 1 (.slu x10 0) x3),(zhR 28 0 0 .nilsl x3),(zhR 29 0 0 .nilsl x3),(Kd x5 x11),(yP x10),(yP x9),(jsy x4),(JH x1 x2 x12),(jdY lat lon x7 x8)]
def jAJ (lat lon:Int):List (Nat×PB2):=[(ji8 lat lon 0 465 0 112000 120000),Kc,(Kf 120000),(KE 112000 true 96000),(Qe 472 6),(zhR 24 1 1 (.slu 319 0) 120000),(zhR 25 0 0 .nilsl 120000),(zhR 26 0 0 .nilsl 120000),(zhR 27 1 1 (.slu 189 0) 120000),(zhR 28 0 0 .nilsl 120000),(zhR 29 0 0 .nilsl 120000),(Kd 120000 15),(yP 189),(yP 319),(jdX 465),(jdY lat lon 472 6),(jmu lat lon 480)]
def jgT (lat lon:Int) (x0:Int) (x1 x2:Nat) (x3 x4 x5 x6:Int) (x7 x8 x9 x10:Nat) (x11 x12:Int) (x13:Nat):List (Nat×PB2):=[(ji8 lat lon x0 x1 x2 x3 x4),Kc,(Kf x5),(KE x3 true x6),(Qe x7 x8),(zhR 24 1 1 (.slu x9 0) x4),(zhR 25 0 0 .nilsl x4),(zhR 26 0 0 .nilsl x4),(zhR 27 1 1 (.slu x10 0) x4),(zhR 28 0 0 .nilsl x4),(zhR 29 0 0 .nilsl x4),(Kd x5 x11),(yP x10),(yP x9),(JH x1 x2 x12),(jdY lat lon x7 x8),(jmu lat lon x13)]
def kX (lat lon:Int) (x0 x1:Nat) (x2:Int):List (Nat×PB2):=[(jmu lat lon x0),(jAD lat lon x1 x2)]
noncomputable def zhB:Code:=jk Tryz.prog 14
noncomputable def zhC:Code:=jk Tryz.prog 7
noncomputable abbrev ky:Code:=(c1 (c1 (c2 (c1 (c2 (c2 (c2 (c2 (zhB)))))))))
noncomputable abbrev yQ:Code:=(c1 (c1 (c2 (c1 (c2 (c2 (c2 (c2 (c2 (c2 (c2 (c2 (c2 (c2 (c2 (zhB))))))))))))))))
noncomputable abbrev yR:Code:=(c1 (c1 (c2 (c1 (c2 (c2 (c2 (c2 (c2 (c2 (c2 (c2 (c2 (c2 (c2 (c2 (c2 (zhB))))))))))))))))))
def jCl (l:List Ob):Nat→List Ob→List Ob
 | 0,r=>r
 | n+1,r=>l++jCl l n r
theorem j7 {l r:List Ob} (h:AllOb l) (k:AllOb r):∀n,AllOb (jCl l n r)
 | 0=>k
 | n+1=>fun q hq=>(List.mem_append.1 hq).elim (h q) (j7 h k n q)
def jsD:List Go.Lr.P2→List Ob
 | []=>[]
 | .sym x::l=> .oi x x::jsD l
 | .raw a::l=> .oa a a::jsD l
 | .old _::l=>jsD l
theorem ki:∀l,AllOb (jsD l)
 | []=>jP
 | .sym _::l=>js rfl (ki l)
 | .raw _::l=>js rfl (ki l)
 | .old _::l=>ki l
def zpv:PV2→List Go.Lr.P2
 | .one a=>[a]
 | .agg l=>l
def zpl:List (Nat×PV2)→List Go.Lr.P2
 | []=>[]
 | (_,v)::l=>zpv v++zpl l
def zpm:List (Nat×PB2)→List Go.Lr.P2
 | []=>[]
 | (_,b)::l=>b.cells++zpm l
def zob (q:PS2):List Ob:=jsD (zpl q.live++zpm q.mem)
def zG (sz:Nat) (c:Code) (A:PS2) (e:Ex) (B:PS2):Prop:=∀s,ToP Tryz.prog sz c (j8 s A) e (zX B)
def zK (sz:Nat) (c:Code) (m:Nat) (A:PS2) (e:Ex) (B:PS2):Prop:=∀s,RdP Tryz.prog sz c m (j8 s A) e (zX B)
theorem zr {S:FuncId→Option SumK} (hs:Sound Tryz.prog S) (m:Nat) {sz:Nat} {c:Code} {A q:PS2} {e:Ex} (h:∀s dead,XT q e (xL m []) (jI (q.live.map (·.1)) (q.mem.map (·.1)) (Go.Lr.exec Tryz.prog S ⟨false,false,false⟩ 20000 (.code c) ((j8 s A).st sz dead [])))=some ([],zob q):=by intro s dead;kernel_rfl) (hB:∀s,jlR (j8 s q)=true:=by intro s;kernel_rfl) (hn:Nat.ble A.nb q.nb=true:=by kernel_rfl):zG sz c A e q:=
 fun s=>ToP.run2 hs (h s) jd (ki _) (fun s=>jy (hB s)) hn
theorem zq {sz:Nat} {c:Code} {A B C:PS2} {e:Ex} (h:zG sz (c1 c) A .normal B) (k:zG sz (c2 c) B e C) (hc:Ji c=true:=by kernel_rfl):zG sz c A e C:=
 fun s=>ToP.seq hc (h s) (by rintro x ⟨s,rfl⟩;exact k s)
theorem zn {sz m:Nat} {c:Code} {A B C:PS2} {e:Ex} (h:zG sz c A .normal B) (k:zK sz c m B e C):zK sz c (m+1) A e C:=
 fun s=>RdP.next (h s) (by rintro x ⟨s,rfl⟩;exact k s)
theorem zl {sz:Nat} {c:Code} {A B:PS2} {i:Nat} (h:zG sz c A (.exit i) B):zK sz c 1 A (.exit i) B:=
 fun s=>RdP.last (by simp) (h s)
theorem zo {sz m i:Nat} {c:Code} {A B C:PS2} (h:zG sz (c1 c) A .normal B) (k:zK sz (c1 (c1 (c2 c))) m B (.exit i) C) (hc:Ji c=true:=by kernel_rfl) (hb:Zd (c2 c)=some i:=by kernel_rfl) (hl:Kb (c1 (c2 c))=true:=by kernel_rfl):zG sz c A .normal C:=
 fun s=>ToP.seq hc (h s) (by rintro x ⟨s,rfl⟩;exact ToP.block (id:=i) (e:= .exit i) hb (ToP.loop (m:=m) hl (k s)) (.inl rfl))
def zj0 (lat lon:Int):Ob:= .oi (shO 8 (shN 8) (shN 8) (smE lon)) (smE lon)
theorem jFc {lat lon:Int} (bn:ShB (smN lat)) (be:ShB (smE lon)):(zj0 lat lon).ok:=(be.o8pp)
def zj1 (lat lon:Int):Ob:= .oi (shO 7 (shN 7) (shN 7) (smN lat)) (smN lat)
theorem jFd {lat lon:Int} (bn:ShB (smN lat)) (be:ShB (smE lon)):(zj1 lat lon).ok:=(bn.o7pp)
def zj2 (lat lon:Int):Ob:= .oi (shO 8 0 (shN 8) (smE lon)) (smE lon)
theorem jFe {lat lon:Int} (bn:ShB (smN lat)) (be:ShB (smE lon)):(zj2 lat lon).ok:=(be.o8lp)
def zj3 (lat lon:Int):Ob:= .oi (shO 7 0 (shN 7) (smN lat)) (smN lat)
theorem jFf {lat lon:Int} (bn:ShB (smN lat)) (be:ShB (smE lon)):(zj3 lat lon).ok:=(bn.o7lp)
def zj4 (lat lon:Int):Ob:= .oi (smQ (smQ (smE lon))) (smE lon)
theorem jnl {lat lon:Int} (bn:ShB (smN lat)) (be:ShB (smE lon)):(zj4 lat lon).ok:=(show smQ (smQ (smE lon))=smE lon by rw [be.q,be.q])
def zj5 (lat lon:Int):Ob:= .oi (smQ (smQ (smN lat))) (smN lat)
theorem jnm {lat lon:Int} (bn:ShB (smN lat)) (be:ShB (smE lon)):(zj5 lat lon).ok:=(show smQ (smQ (smN lat))=smN lat by rw [bn.q,bn.q])
def zj6 (lat lon:Int):Ob:= .oi (shR (smQ (stC 8 (acL 0 0 0 (smN lat) (smE lon) 0 0 0))) (smQ (stC 8 (acL 0 0 0 (smN lat) (smE lon) 0 0 0))) (smQ (stC 8 (acL 0 0 0 (smN lat) (smE lon) 0 0 0)))) (smE lon)
theorem jFg {lat lon:Int} (bn:ShB (smN lat)) (be:ShB (smE lon)):(zj6 lat lon).ok:=(be.r (by rw [be.s8];exact be.q) (by rw [be.s8];exact be.q) (by rw [be.s8];exact be.q))
def zj7 (lat lon:Int):Ob:= .oi (shR (smQ (stC 7 (acL 0 0 0 (smN lat) (smE lon) 0 0 0))) (smQ (stC 7 (acL 0 0 0 (smN lat) (smE lon) 0 0 0))) (smQ (stC 7 (acL 0 0 0 (smN lat) (smE lon) 0 0 0)))) (smN lat)
theorem jFh {lat lon:Int} (bn:ShB (smN lat)) (be:ShB (smE lon)):(zj7 lat lon).ok:=(bn.r (by rw [bn.s7];exact bn.q) (by rw [bn.s7];exact bn.q) (by rw [bn.s7];exact bn.q))
def zj8 (lat lon:Int):Ob:= .oi (shR (smE lon) (smQ (stC 8 (acL 0 0 0 (smN lat) (smE lon) 0 0 0))) (smQ (stC 8 (acL 0 0 0 (smN lat) (smE lon) 0 0 0)))) (smE lon)
theorem jFi {lat lon:Int} (bn:ShB (smN lat)) (be:ShB (smE lon)):(zj8 lat lon).ok:=(be.r (by rfl) (by rw [be.s8];exact be.q) (by rw [be.s8];exact be.q))
def zj9 (lat lon:Int):Ob:= .oi (shR (smN lat) (smQ (stC 7 (acL 0 0 0 (smN lat) (smE lon) 0 0 0))) (smQ (stC 7 (acL 0 0 0 (smN lat) (smE lon) 0 0 0)))) (smN lat)
theorem jFj {lat lon:Int} (bn:ShB (smN lat)) (be:ShB (smE lon)):(zj9 lat lon).ok:=(bn.r (by rfl) (by rw [bn.s7];exact bn.q) (by rw [bn.s7];exact bn.q))
def jmv (lat lon:Int):Ob:= .oi (stC 8 (acL 0 0 0 (smN lat) (smE lon) 0 0 0)) (smE lon)
theorem jd7 {lat lon:Int} (bn:ShB (smN lat)) (be:ShB (smE lon)):(jmv lat lon).ok:=(be.s8 _ _ _ _ _)
def jmw (lat lon:Int):Ob:= .oi (stC 7 (acL 0 0 0 (smN lat) (smE lon) 0 0 0)) (smN lat)
theorem jd8 {lat lon:Int} (bn:ShB (smN lat)) (be:ShB (smE lon)):(jmw lat lon).ok:=(bn.s7 _ _ _ _ _)
def jnn (lat lon:Int):Ob:= .oi (shO 8 (shN 8) 0 (smE lon)) (smE lon)
theorem jgU {lat lon:Int} (bn:ShB (smN lat)) (be:ShB (smE lon)):(jnn lat lon).ok:=(be.o8pl)
def jno (lat lon:Int):Ob:= .oi (shO 7 (shN 7) 0 (smN lat)) (smN lat)
theorem jgV {lat lon:Int} (bn:ShB (smN lat)) (be:ShB (smE lon)):(jno lat lon).ok:=(bn.o7pl)
def qs (lat lon:Int):Ob:= .oi (shO 8 0 0 (smE lon)) (smE lon)
theorem jgW {lat lon:Int} (bn:ShB (smN lat)) (be:ShB (smE lon)):(qs lat lon).ok:=(be.o8ll)
def qt (lat lon:Int):Ob:= .oi (shO 7 0 0 (smN lat)) (smN lat)
theorem jgX {lat lon:Int} (bn:ShB (smN lat)) (be:ShB (smE lon)):(qt lat lon).ok:=(bn.o7ll)
def jnp (lat lon:Int):Ob:= .oi (shR (smQ (stC 8 (acL 0 0 0 (smN lat) (smE lon) 0 0 0))) (smE lon) (smQ (stC 8 (acL 0 0 0 (smN lat) (smE lon) 0 0 0)))) (smE lon)
theorem jgY {lat lon:Int} (bn:ShB (smN lat)) (be:ShB (smE lon)):(jnp lat lon).ok:=(be.r (by rw [be.s8];exact be.q) (by rfl) (by rw [be.s8];exact be.q))
def jnq (lat lon:Int):Ob:= .oi (shR (smQ (stC 7 (acL 0 0 0 (smN lat) (smE lon) 0 0 0))) (smN lat) (smQ (stC 7 (acL 0 0 0 (smN lat) (smE lon) 0 0 0)))) (smN lat)
theorem jgZ {lat lon:Int} (bn:ShB (smN lat)) (be:ShB (smE lon)):(jnq lat lon).ok:=(bn.r (by rw [bn.s7];exact bn.q) (by rfl) (by rw [bn.s7];exact bn.q))
def qc (lat lon:Int):Ob:= .oi (shR (smE lon) (smE lon) (smQ (stC 8 (acL 0 0 0 (smN lat) (smE lon) 0 0 0)))) (smE lon)
theorem jg0 {lat lon:Int} (bn:ShB (smN lat)) (be:ShB (smE lon)):(qc lat lon).ok:=(be.r (by rfl) (by rfl) (by rw [be.s8];exact be.q))
def qd (lat lon:Int):Ob:= .oi (shR (smN lat) (smN lat) (smQ (stC 7 (acL 0 0 0 (smN lat) (smE lon) 0 0 0)))) (smN lat)
theorem jg1 {lat lon:Int} (bn:ShB (smN lat)) (be:ShB (smE lon)):(qd lat lon).ok:=(bn.r (by rfl) (by rfl) (by rw [bn.s7];exact bn.q))
end Go.Proofs.YtnlhpaidmiogbaaGreat

/- TopShift: the law: what it asks first. -/
namespace Go.Proofs.YtnlhpaidmiogbaaGreat
open Go.Lr
set_option linter.unusedVariables false
set_option maxRecDepth 100000
noncomputable def AX:FuncId→Option SumK:=more AV0 9 (jp jwk)
theorem yO:Sound Tryz.prog AX:=soundAV0.more jnR
abbrev zlA (lat lon dl:Int):PS2:=⟨[(0,.one (qS lat)),(1,.one (qS lon)),(2,.one (qS dl))],[],0⟩
theorem jEE {lat lon dl:Int}:zG 93 (c1 zhC) (zlA lat lon dl) .normal (zlA lat lon dl):=
 zr yO 0
theorem jEF {lat lon dl:Int}:zG 93 (c1 (c2 zhC)) (zlA lat lon dl) .normal (zlA lat lon dl):=
 zr yO 0
theorem jzr {lat lon dl:Int} (h0:lat < -100000):zG 93 (c1 (c2 (c2 zhC))) (zlA lat lon dl) .ret ⟨[(6,.one (qB true))],[],0⟩:=fun s=>
 ToP.run2 (z:=⟨false,false,false⟩) (n:=20000) (dec:=(tt 3 (nn 13 []))) (mask:=(zY 3 [])) (os:=(ra 3 (decide (lat < -100000),true) [])) (es:=(zob ⟨[(6,.one (qB true))],[],0⟩)) yO (fun dead=>by kernel_rfl) (jC (decide_eq_true (by omega)) jd _) (ki _) (fun s=>jy (by kernel_rfl)) (by kernel_rfl)
theorem jzs {lat lon dl:Int} (h0:¬(lat < -100000)) (h1:lat>100000):zG 93 (c1 (c2 (c2 zhC))) (zlA lat lon dl) .ret ⟨[(6,.one (qB true))],[],0⟩:=fun s=>
 ToP.run2 (z:=⟨false,false,false⟩) (n:=20000) (dec:=(ff 3 (tt 3 (nn 10 [])))) (mask:=(zY 6 [])) (os:=(ra 3 (decide (lat>100000),true) (ra 3 (decide (lat < -100000),false) []))) (es:=(zob ⟨[(6,.one (qB true))],[],0⟩)) yO (fun dead=>by kernel_rfl) (jC (decide_eq_true (by omega)) (jC (decide_eq_false (by omega)) jd _) _) (ki _) (fun s=>jy (by kernel_rfl)) (by kernel_rfl)
theorem jzt {lat lon dl:Int} (h0:¬(lat < -100000)) (h1:¬(lat>100000)) (h2:lon < -100000):zG 93 (c1 (c2 (c2 zhC))) (zlA lat lon dl) .ret ⟨[(6,.one (qB true))],[],0⟩:=fun s=>
 ToP.run2 (z:=⟨false,false,false⟩) (n:=20000) (dec:=(ff 6 (tt 3 (nn 7 [])))) (mask:=(zY 9 [])) (os:=(ra 3 (decide (lon < -100000),true) (ra 3 (decide (lat>100000),false) (ra 3 (decide (lat < -100000),false) [])))) (es:=(zob ⟨[(6,.one (qB true))],[],0⟩)) yO (fun dead=>by kernel_rfl) (jC (decide_eq_true (by omega)) (jC (decide_eq_false (by omega)) (jC (decide_eq_false (by omega)) jd _) _) _) (ki _) (fun s=>jy (by kernel_rfl)) (by kernel_rfl)
theorem jzu {lat lon dl:Int} (h0:¬(lat < -100000)) (h1:¬(lat>100000)) (h2:¬(lon < -100000)) (h3:lon>100000):zG 93 (c1 (c2 (c2 zhC))) (zlA lat lon dl) .ret ⟨[(6,.one (qB true))],[],0⟩:=fun s=>
 ToP.run2 (z:=⟨false,false,false⟩) (n:=20000) (dec:=(ff 9 (tt 3 (nn 4 [])))) (mask:=(zY 12 [])) (os:=(ra 3 (decide (lon>100000),true) (ra 3 (decide (lon < -100000),false) (ra 3 (decide (lat>100000),false) (ra 3 (decide (lat < -100000),false) []))))) (es:=(zob ⟨[(6,.one (qB true))],[],0⟩)) yO (fun dead=>by kernel_rfl) (jC (decide_eq_true (by omega)) (jC (decide_eq_false (by omega)) (jC (decide_eq_false (by omega)) (jC (decide_eq_false (by omega)) jd _) _) _) _) (ki _) (fun s=>jy (by kernel_rfl)) (by kernel_rfl)
theorem jzv {lat lon dl:Int} (h0:¬(lat < -100000)) (h1:¬(lat>100000)) (h2:¬(lon < -100000)) (h3:¬(lon>100000)) (h4:dl<0):zG 93 (c1 (c2 (c2 zhC))) (zlA lat lon dl) .ret ⟨[(6,.one (qB true))],[],0⟩:=fun s=>
 ToP.run2 (z:=⟨false,false,false⟩) (n:=20000) (dec:=(ff 12 (tt 3 (nn 1 [])))) (mask:=(zY 15 [])) (os:=(ra 3 (decide (dl<0),true) (ra 3 (decide (lon>100000),false) (ra 3 (decide (lon < -100000),false) (ra 3 (decide (lat>100000),false) (ra 3 (decide (lat < -100000),false) [])))))) (es:=(zob ⟨[(6,.one (qB true))],[],0⟩)) yO (fun dead=>by kernel_rfl) (jC (decide_eq_true (by omega)) (jC (decide_eq_false (by omega)) (jC (decide_eq_false (by omega)) (jC (decide_eq_false (by omega)) (jC (decide_eq_false (by omega)) jd _) _) _) _) _) (ki _) (fun s=>jy (by kernel_rfl)) (by kernel_rfl)
theorem jzw {lat lon dl:Int} (h0:¬(lat < -100000)) (h1:¬(lat>100000)) (h2:¬(lon < -100000)) (h3:¬(lon>100000)) (h4:¬(dl<0)) (h5:dl>5):zG 93 (c1 (c2 (c2 zhC))) (zlA lat lon dl) .ret ⟨[(6,.one (qB true))],[],0⟩:=fun s=>
 ToP.run2 (z:=⟨false,false,false⟩) (n:=20000) (dec:=(ff 15 (tt 1 []))) (mask:=(zY 16 [])) (os:=(ra 1 (decide (dl>5),true) (ra 3 (decide (dl<0),false) (ra 3 (decide (lon>100000),false) (ra 3 (decide (lon < -100000),false) (ra 3 (decide (lat>100000),false) (ra 3 (decide (lat < -100000),false) []))))))) (es:=(zob ⟨[(6,.one (qB true))],[],0⟩)) yO (fun dead=>by kernel_rfl) (jC (decide_eq_true (by omega)) (jC (decide_eq_false (by omega)) (jC (decide_eq_false (by omega)) (jC (decide_eq_false (by omega)) (jC (decide_eq_false (by omega)) (jC (decide_eq_false (by omega)) jd _) _) _) _) _) _) (ki _) (fun s=>jy (by kernel_rfl)) (by kernel_rfl)
theorem jzx {lat lon dl:Int} (h0:¬(lat < -100000)) (h1:¬(lat>100000)) (h2:¬(lon < -100000)) (h3:¬(lon>100000)) (h4:¬(dl<0)) (h5:¬(dl>5)):zG 93 (c1 (c2 (c2 zhC))) (zlA lat lon dl) .normal (zlA lat lon dl):=fun s=>
 ToP.run2 (z:=⟨false,false,false⟩) (n:=20000) (dec:=(ff 16 [])) (mask:=(zY 16 [])) (os:=(ra 1 (decide (dl>5),false) (ra 3 (decide (dl<0),false) (ra 3 (decide (lon>100000),false) (ra 3 (decide (lon < -100000),false) (ra 3 (decide (lat>100000),false) (ra 3 (decide (lat < -100000),false) []))))))) (es:=(zob (zlA lat lon dl))) yO (fun dead=>by kernel_rfl) (jC (decide_eq_false (by omega)) (jC (decide_eq_false (by omega)) (jC (decide_eq_false (by omega)) (jC (decide_eq_false (by omega)) (jC (decide_eq_false (by omega)) (jC (decide_eq_false (by omega)) jd _) _) _) _) _) _) (ki _) (fun s=>jy (by kernel_rfl)) (by kernel_rfl)
theorem zca {S:FuncId→Option SumK} (hs:Sound Tryz.prog S) {sz k t:Nat} {ops:Array Oper} {f:FuncId} {fn:Func} {c:Code} {A A0 D B:PS2} {v:LV}
  (hf:Tryz.prog.funcs[f]? = some fn) (h:zG fn.ntmps c A0 .ret D)
  (hcal:∀s dead,jb2 (getT ((j8 s A).tm dead)) ops[k]? = some (f,(j8 s A0).live.map (·.2),t))
  (hb:fn.body=some c) (hle:Nat.ble fn.ntmps 60000=true) (hargs:∀s,Nat.ble (jls ((j8 s A0).live.map (·.2))) fn.ntmps=true) (hlt:Nat.blt t sz=true)
  (h0:∀s,j8 s A0=⟨kC 0 ((j8 s A0).live.map (·.2)),(j8 s A).mem,(j8 s A).nb⟩)
  (hres:∀s dead,kx Tryz.prog fn.results.toList (getT ((j8 s D).tm dead)) (j8 s D).mem=some v)
  (hB:∀s s2,j8 s B=⟨(t,v)::KF t [] (j8 s2 A).live,(j8 s D).mem,(j8 s D).nb⟩) (hC:∀s,jlR (j8 s B)=true) (s:Asg):ToO Tryz.prog sz ops k 1 (j8 s A) (zX B):=
 (ToO.callK (sz:=sz) (A:=j8 s A) (B:=zX D) (e:= .ret) (v:=fun _=>v) hs [] (hcal s) hf hb hle (hargs s) hlt (by have h2:=h s;rw [h0 s] at h2;exact h2) (.inr rfl) (by rintro x ⟨u,rfl⟩;exact hres u) (by rintro x ⟨u,rfl⟩;rw [←hB u s];exact jy (hC u))).mono (by rintro y ⟨x,⟨u,rfl⟩,rfl⟩;exact ⟨u,(hB u s).symm⟩)
theorem zro {S:FuncId→Option SumK} (hs:Sound Tryz.prog S) (k m:Nat) {sz:Nat} {c:Code} {A q:PS2}
  (h:∀s dead,XT q .normal [] (jI (q.live.map (·.1)) (q.mem.map (·.1)) (Go.Lr.exec Tryz.prog S ⟨false,false,false⟩ 20000 (.ops ((qK c).toList.take (k+m)) (((qK c).toList.take (k+m)).drop k)) ((j8 s A).st sz dead [])))=some ([],zob q):=by intro s dead;kernel_rfl)
  (hg:yB (k+m) ((qK c).toList.take (k+m))=true:=by kernel_rfl) (hm:Nat.beq (((qK c).toList.take (k+m)).drop k).length m=true:=by kernel_rfl)
  (hB:∀s,jlR (j8 s q)=true:=by intro s;kernel_rfl) (hn:Nat.ble A.nb q.nb=true:=by kernel_rfl) (s:Asg):ToO Tryz.prog sz (qK c) k m (j8 s A) (zX q):=
 ToO.run2 hs hg hm (h s) jd (ki _) (fun s=>jy (hB s)) hn
theorem z3 {sz:Nat} {c:Code} {A B C D:PS2} (h:∀s,ToO Tryz.prog sz (qK c) 0 4 (j8 s A) (zX B)) (k:∀s,ToO Tryz.prog sz (qK c) 4 1 (j8 s B) (zX C)) (l:∀s,ToO Tryz.prog sz (qK c) 5 1 (j8 s C) (zX D)) (hc:jkg c=true:=by kernel_rfl) (hn:Nat.beq (qK c).toList.length 6=true:=by kernel_rfl):zG sz c A .normal D:=
 fun s=>ToP.of_ToO (n:=6) hc hn (ToO.seq (m:=5) (m':=1) (ToO.seq (m:=4) (m':=1) (h s) (by rintro x ⟨s,rfl⟩;exact k s)) (by rintro x ⟨s,rfl⟩;exact l s))
abbrev zlF (y:Kst):Prop:=∃s j,y=j8 s ⟨[(6,.one (qB true))],[],j⟩
end Go.Proofs.YtnlhpaidmiogbaaGreat
