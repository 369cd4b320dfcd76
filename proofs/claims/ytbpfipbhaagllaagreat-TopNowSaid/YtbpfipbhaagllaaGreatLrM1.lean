/- Joined texts. What each part proves stands ahead of it; no condition. -/
import Derived.Calls
import Derived.Orders
import Derived.WalkKit
set_option linter.unusedVariables false
set_option linter.unusedSimpArgs false
/- A local evaluator of Go code: the values of a call's own memory, block by block. Definitions alone. -/
namespace Go.Lr
inductive At where
 | int (k:IntKind) (n:Int)
 | bool (b:Bool)
 | ptr (b o:Nat)
 | nilp
 | sl (b o len cap:Nat)
 | slu (b len:Nat)
 | slx (b o len cap:Nat)
 | ptx (b o:Nat)
 | nilsl
 | slt (b o n:Nat)
 | slv (b len:Nat)
 | fn (f:FuncId) (caps:List (Nat×Nat))
 | opq (v:Value)
inductive V1 where
 | one (a:At)
 | agg (l:List At)
inductive LV where
 | v (x:V1)
 | tup (l:List V1)
structure Loc where
 blk:Nat
 cap:Nat
 pre:List Value
 suf:List Value
 ty:Option TypeId
abbrev Loc.at (b c:Nat):Loc:=⟨b,c,[],[],none⟩
abbrev Env:=Nat→Loc
def At.den (E:Env):At→Value
 | .int k n=> .int k n
 | .bool b=> .bool b
 | .ptr b o=> .pointer (some ⟨(E b).1,o+(E b).pre.length,none⟩)
 | .nilp=> .pointer none
 | .sl b o l c=> .slice (some ⟨(E b).1,o+(E b).pre.length,none⟩) l c
 | .slu b l=> .slice (some ⟨(E b).1,(E b).pre.length,none⟩) l (E b).2
 | .slx b o l c=> .slice (some ⟨(E b).1,o+(E b).pre.length,none⟩) l c
 | .ptx b o=> .pointer (some ⟨(E b).1,o+(E b).pre.length,none⟩)
 | .nilsl=> .slice none 0 0
 | .slt b o n=> .slice (some ⟨(E b).1,(if (E b).2=n then 0 else o)+(E b).pre.length,none⟩) 0 ((E b).2 - n)
 | .slv b l=> .slice (some ⟨(E b).1,(E b).pre.length,none⟩) l (E b).2
 | .fn f caps=> .func (.func f) #[] (caps.map fun p=>Value.pointer (some ⟨(E p.1).1,p.2+(E p.1).pre.length,none⟩)).toArray
 | .opq v=>v
def V1.den (E:Env):V1→Value
 | .one a=>a.den E
 | .agg l=> .agg (l.map (At.den E)).toArray
def LV.den (E:Env):LV→Value
 | .v x=>x.den E
 | .tup l=> .tuple (l.map (V1.den E)).toArray
def At.cell:At→Bool
 | .opq (.agg _)=>false
 | .opq (.tuple _)=>false
 | _=>true
def kK:List At→Bool
 | []=>true
 | a::l=>match a.cell with
  | true=>kK l
  | false=>false
structure Blk where
 ty:TypeId
 fr:Nat×Nat
 es:Nat
 cells:List At
abbrev Mem:=List (Nat×Blk)
def getM:Mem→Nat→Option Blk
 | [],_=>none
 | (j,b)::m,i=>match Nat.beq j i with
  | true=>some b
  | false=>getM m i
def jdx:Mem→Nat→Option Blk→Mem
 | [],_,_=>[]
 | (j,b)::m,i,s=>match Nat.beq j i with
  | true=>match s with
   | some c=>(j,c)::m
   | none=>m
  | false=>(j,b)::jdx m i s
def jhl {β:Type}:Mem→Nat→Option Blk→(Mem→β)→β
 | [],_,_,k=>k []
 | (j,b)::m,i,s,k=>match Nat.beq j i with
  | true=>match s with
   | some c=>k ((j,c)::m)
   | none=>k m
  | false=>jhl m i s fun r=>k ((j,b)::r)
def qr:LV:= .v (.one (.opq undef))
inductive Tr where
 | nil
 | nd (v:LV) (l r:Tr)
def getT:Tr→Nat→LV
 | .nil,_=>qr
 | .nd v _ _,0=>v
 | .nd _ l r,i+1=>match Nat.beq (i%2) 0 with
  | true=>getT l (i/2)
  | false=>getT r (i/2)
def KG:Nat→Tr→Nat→LV→Tr
 | 0,t,_,_=>t
 | _+1,.nil,0,v=> .nd v .nil .nil
 | _+1,.nd _ l r,0,v=> .nd v l r
 | f+1,.nil,i+1,v=>match Nat.beq (i%2) 0 with
  | true=> .nd qr (KG f .nil (i/2) v) .nil
  | false=> .nd qr .nil (KG f .nil (i/2) v)
 | f+1,.nd u l r,i+1,v=>match Nat.beq (i%2) 0 with
  | true=> .nd u (KG f l (i/2) v) r
  | false=> .nd u l (KG f r (i/2) v)
def KH {β:Type}:Nat→Tr→Nat→LV→(Tr→β)→β
 | 0,t,_,_,k=>k t
 | _+1,.nil,0,v,k=>k (.nd v .nil .nil)
 | _+1,.nd _ l r,0,v,k=>k (.nd v l r)
 | f+1,.nil,i+1,v,k=>match Nat.beq (i%2) 0 with
  | true=>KH f .nil (i/2) v fun t=>k (.nd qr t .nil)
  | false=>KH f .nil (i/2) v fun t=>k (.nd qr .nil t)
 | f+1,.nd u l r,i+1,v,k=>match Nat.beq (i%2) 0 with
  | true=>KH f l (i/2) v fun t=>k (.nd u t r)
  | false=>KH f r (i/2) v fun t=>k (.nd u l t)
def jcn:Value→Option At
 | .int k n=>some (.int k n)
 | .bool b=>some (.bool b)
 | .pointer none=>some .nilp
 | .slice none 0 0=>some .nilsl
 | .string s=>some (.opq (.string s))
 | .nilIface=>some (.opq .nilIface)
 | .nilFunc=>some (.opq .nilFunc)
 | .map none=>some (.opq (.map none))
 | _=>none
def Qf:List Value→Option (List At)
 | []=>some []
 | v::l=>match jcn v,Qf l with
  | some a,some r=>some (a::r)
  | _,_=>none
def jaK:Value→Option V1
 | .agg cs=>match Qf cs.toList with
  | some l=>some (.agg l)
  | none=>none
 | v=>match jcn v with
  | some a=>some (.one a)
  | none=>none
def ev (τ:Nat→LV):Operand→Option LV
 | .tmp t=>some (τ t)
 | .const v=>match jaK v with
  | some x=>some (.v x)
  | none=>none
 | .func f=>some (.v (.one (.fn f [])))
 | .global _=>none
def evs (τ:Nat→LV):List Operand→Option (List LV)
 | []=>some []
 | x::l=>match ev τ x,evs τ l with
  | some v,some r=>some (v::r)
  | _,_=>none
structure Dl where
 val:LV
 wr:List (Nat×Option Blk)
 nw:List Blk
 rd:List Nat
 cs:List (Bool×Bool)
def Dl.pure (v:LV):Dl:=⟨v,[],[],[],[]⟩
def val1 (a:At):Option Dl:=some (.pure (.v (.one a)))
def qs:LV→Option (List At)
 | .v (.one a)=>match a.cell with
  | true=>some [a]
  | false=>none
 | .v (.agg l)=>match kK l with
  | true=>some l
  | false=>none
 | .tup _=>none
def kB (P:Program) (t:TypeId):Option Nat:=
 match P.info? t with
 | some i=>some i.size
 | none=>none
def jqA (P:Program) (t:TypeId):Option Bool:=
 match P.underlying t with
 | some (.struct _)=>some true
 | some (.array _ _)=>some true
 | some _=>some false
 | none=>none
def KI (P:Program) (t:TypeId):Option (List At):=
 match P.info? t with
 | some i=>match i.zero with
  | some z=>match jaK z with
   | some (.one a)=>some [a]
   | some (.agg l)=>some l
   | none=>none
  | none=>none
 | none=>none
def len:List At→Nat
 | []=>0
 | _::l=>len l+1
def Xh (l:List At) (o n:Nat):Option (List At):=
 match o,n,l with
 | 0,0,_=>some []
 | 0,n+1,a::l=>match Xh l 0 n with
  | some r=>some (a::r)
  | none=>none
 | o+1,n,_::l=>Xh l o n
 | 0,_+1,[]=>none
 | _+1,_,[]=>none
def Qg (l:List At) (o:Nat) (vs:List At):Option (List At):=
 match o,vs,l with
 | 0,[],l=>some l
 | 0,v::vs,_::l=>match Qg l 0 vs with
  | some r=>some (v::r)
  | none=>none
 | o+1,vs,a::l=>match Qg l o vs with
  | some r=>some (a::r)
  | none=>none
 | 0,_::_,[]=>none
 | _+1,_,[]=>none
def atS:List At→Nat→Option At
 | [],_=>none
 | a::_,0=>some a
 | _::l,n+1=>atS l n
def jaL:Nat→List At→Option (List At)
 | 0,l=>some l
 | q+1,l=>match l with
  | _::_::_::_::_::_::_::_::_::_::_::_::_::_::_::_::r=>jaL q r
  | _=>none
def jng:Nat→List At→Nat→List At→Option (List At)
 | 0,l,o,vs=>Qg l o vs
 | q+1,l,o,vs=>match l with
  | a0::a1::a2::a3::a4::a5::a6::a7::r=>match jng q r o vs with
   | some r=>some (a0::a1::a2::a3::a4::a5::a6::a7::r)
   | none=>none
  | _=>none
def cut (l:List At) (o n:Nat):Option (List At):=
 match Nat.blt o 16 with
 | true=>Xh l o n
 | false=>match jaL (o/16) l with
  | some r=>Xh r (o%16) n
  | none=>none
def atL (l:List At) (o:Nat):Option At:=
 match Nat.blt o 16 with
 | true=>atS l o
 | false=>match jaL (o/16) l with
  | some r=>atS r (o%16)
  | none=>none
def lay (l:List At) (o:Nat) (vs:List At):Option (List At):=
 match Nat.blt o 8 with
 | true=>Qg l o vs
 | false=>jng (o/8) l (o%8) vs
def xb:List Field→Nat→Option Field
 | [],_=>none
 | a::_,0=>some a
 | _::l,n+1=>xb l n
def xp (P:Program) (t:TypeId) (l:List At) (o:Nat):Option V1:=
 match jqA P t with
 | some true=>match kB P t with
  | some n=>match cut l o n with
   | some r=>some (.agg r)
   | none=>none
  | none=>none
 | some false=>match atL l o with
  | some a=>some (.one a)
  | none=>none
 | none=>none
def jnh:Operand→Bool
 | .const _=>true
 | _=>false
def ask (known:Bool) (b want:Bool) (k:List (Bool×Bool)→Option Dl):Option Dl:=
 match known with
 | true=>match b,want with
  | true,true=>k []
  | false,false=>k []
  | _,_=>none
 | false=>k [(b,want)]
def jkk:IntKind→Nat
 | .i8=>0
 | .i16=>1
 | .i32=>2
 | .i64=>3
 | .u8=>4
 | .u16=>5
 | .u32=>6
 | .u64=>7
def Qh (k l:IntKind):Bool:=Nat.beq (jkk k) (jkk l)
def w64 (n:Int):Int:=(n+9223372036854775808)%18446744073709551616 - 9223372036854775808
def u64 (n:Int):Int:=n%18446744073709551616
def wr (k:IntKind) (n:Int):Int:=
 match k with
 | .i64=>w64 n
 | .u64=>u64 n
 | k=>k.wrap n
def jhm (op:BinOp) (x y:Nat):Option Nat:=
 match op with
 | .and=>some (Nat.land x y)
 | .or=>some (Nat.lor x y)
 | .xor=>some (Nat.xor x y)
 | _=>none
def jdy (op:BinOp) (k:IntKind) (x y:Int):Option Int:=
 match jhm op (u64 x).toNat (u64 y).toNat with
 | some r=>match k with
  | .u64=>some (Int.ofNat r)
  | .i64=>some (w64 (Int.ofNat r))
  | _=>none
 | none=>none
def jk (n:Nat):Int:=Int.ofNat (Nat.pow 2 n)
def jqB (op:BinOp) (k:IntKind) (a b:Int) (yc:Bool):Option Dl:=
 match op with
 | .add=>val1 (.int k (wr k (a+b)))
 | .sub=>val1 (.int k (wr k (a - b)))
 | .mul=>val1 (.int k (wr k (a*b)))
 | .quo=>ask yc (decide (b=0)) false fun cs=>some ⟨.v (.one (.int k (wr k (a.tdiv b)))),[],[],[],cs⟩
 | .rem=>ask yc (decide (b=0)) false fun cs=>some ⟨.v (.one (.int k (a.tmod b))),[],[],[],cs⟩
 | .eql=>val1 (.bool (a==b))
 | .neq=>val1 (.bool (a != b))
 | .lss=>val1 (.bool (decide (a<b)))
 | .leq=>val1 (.bool (decide (a≤b)))
 | .gtr=>val1 (.bool (decide (a>b)))
 | .geq=>val1 (.bool (decide (a≥b)))
 | op=>match jdy op k a b with
  | some r=>val1 (.int k r)
  | none=>none
def jco (op:BinOp) (k:IntKind) (a b:Int) (yc:Bool):Option Dl:=
 match op with
 | .shl=>ask yc (decide (b<0)) false fun cs=>some ⟨.v (.one (.int k (wr k (a*jk (min b.toNat k.bits))))),[],[],[],cs⟩
 | .shr=>ask yc (decide (b<0)) false fun cs=>some ⟨.v (.one (.int k (a/jk (min b.toNat k.bits)))),[],[],[],cs⟩
 | _=>none
abbrev EqF:=TypeId→V1→V1→Option Bool
def Js (P:Program) (rec:EqF):List Field→List At→List At→Option Bool
 | [],_,_=>some true
 | f::fs,xs,ys=>
  match f.name == "_" with
  | true=>none
  | false=>match xp P f.type xs f.offset,xp P f.type ys f.offset with
   | some a,some b=>match rec f.type a b,Js P rec fs xs ys with
    | some r,some rs=>some (r&&rs)
    | _,_=>none
   | _,_=>none
def Qi (P:Program) (rec:EqF) (e:TypeId) (s:Nat):Nat→Nat→List At→List At→Option Bool
 | 0,_,_,_=>some true
 | n+1,i,xs,ys=>
  match xp P e xs (i*s),xp P e ys (i*s) with
  | some a,some b=>match rec e a b,Qi P rec e s n (i+1) xs ys with
   | some r,some rs=>some (r&&rs)
   | _,_=>none
  | _,_=>none
def eqV (P:Program):Nat→EqF
 | 0,_,_,_=>none
 | d+1,t,x,y=>
  match P.underlying t,x,y with
  | some .bool,.one (.bool a),.one (.bool b)=>some (a==b)
  | some (.int _),.one (.int k a),.one (.int k' b)=>match Qh k k' with
   | true=>some (a==b)
   | false=>none
  | some (.struct fs),.agg xs,.agg ys=>match P.stoodInHeld t with
   | true=>none
   | false=>Js P (eqV P d) (fs.toList) xs ys
  | some (.array n e),.agg xs,.agg ys=>match kB P e with
   | some s=>Qi P (eqV P d) e s n 0 xs ys
   | none=>none
  | some (.pointer _),.one .nilp,.one .nilp=>some true
  | some (.pointer _),.one .nilp,.one (.ptr _ _)=>some false
  | some (.pointer _),.one (.ptr _ _),.one .nilp=>some false
  | some (.slice _),.one .nilsl,.one .nilsl=>some true
  | some (.slice _),.one (.sl _ _ _ _),.one .nilsl=>some false
  | some (.slice _),.one (.slu _ _),.one .nilsl=>some false
  | some (.slice _),.one (.slx _ _ _ _),.one .nilsl=>some false
  | some (.slice _),.one (.slv _ _),.one .nilsl=>some false
  | _,_,_=>none
def Zn:Option Bool→Bool→Option (Bool×List (Bool×Bool))
 | some d,t=>some (d,[(t,d)])
 | none,true=>some (true,[])
 | none,false=>some (false,[])
def jaM (τ:Nat→LV) (pd:Option Bool) (c a b:Operand):Option Dl:=
 match ev τ c with
 | some (.v (.one (.bool t)))=>match Zn pd t with
  | some (true,cs)=>match ev τ a with
   | some v=>some ⟨v,[],[],[],cs⟩
   | none=>none
  | some (false,cs)=>match ev τ b with
   | some v=>some ⟨v,[],[],[],cs⟩
   | none=>none
  | none=>none
 | _=>none
def Zo (P:Program) (nb:Nat) (t:TypeId):Option Dl:=
 match KI P t with
 | some l=>some ⟨.v (.one (.ptr nb 0)),[],[⟨t,(0,0),0,l⟩],[],[]⟩
 | none=>none
def jni (nb:Nat) (t:TypeId) (v:LV):Option Dl:=
 match qs v with
 | some l=>some ⟨.v (.one (.ptr nb 0)),[],[⟨t,(0,0),0,l⟩],[],[]⟩
 | none=>none
def Qj (P:Program) (t:TypeId) (v:LV) (g:Nat→Option Blk):Option Dl:=
 match v with
 | .v (.one (.ptr b o))=>match g b with
  | some k=>match xp P t k.cells o with
   | some x=>some ⟨.v x,[],[],[b],[]⟩
   | none=>none
  | _=>none
 | _=>none
def intAt (l:List At) (o:Nat):Int:=
 match atL l o with
 | some (.int _ n)=>n
 | _=>0
def isIntAt (k:IntKind) (l:List At) (o:Nat):Bool:=
 match atL l o with
 | some (.int k' _)=>Qh k k'
 | _=>false
def Qk (l:List At) (o:Nat):Bool:=
 match atL l o with
 | some (.bool b)=>b
 | _=>false
def Ye (l:List At) (o:Nat):Bool:=
 match atL l o with
 | some (.bool _)=>true
 | _=>false
def jp (l:List At):Nat→Nat→List At
 | _,0=>[]
 | o,n+1=> .int .i64 (intAt l o)::jp l (o+1) n
def jV (l:List At):Nat→Nat→Bool
 | _,0=>true
 | o,n+1=>isIntAt .i64 l o&&jV l (o+1) n
def jeQ (P:Program) (t:TypeId) (l:List At) (o:Nat):Option (V1×List (Bool×Bool)):=
 match jqA P t with
 | some true=>match kB P t with
  | some n=>some (.agg (jp l o n),[(jV l o n&&decide (n≠0),true)])
  | none=>none
 | some false=>match P.underlying t with
  | some (.int k)=>some (.one (.int k (intAt l o)),[(isIntAt k l o,true)])
  | some .bool=>some (.one (.bool (Qk l o)),[(Ye l o,true)])
  | _=>none
 | none=>none
def Ko (P:Program) (t:TypeId) (v:LV) (g:Nat→Option Blk):Option Dl:=
 match v with
 | .v (.one (.ptx b o))=>match g b with
  | some k=>match jeQ P t k.cells o with
   | some (x,cs)=>some ⟨.v x,[],[],[b],cs⟩
   | none=>none
  | none=>none
 | v=>Qj P t v g
def yB (P:Program) (t:TypeId) (a v:LV) (g:Nat→Option Blk):Option Dl:=
 match a with
 | .v (.one (.ptr b o))=>match g b with
  | some ⟨ty,(0,0),es,l⟩=>match qs v,kB P t with
   | some vs,some n=>match Nat.beq (len vs) n,lay l o vs with
    | true,some r=>some ⟨qr,[(b,some ⟨ty,(0,0),es,r⟩)],[],[],[]⟩
    | _,_=>none
   | _,_=>none
  | _=>none
 | _=>none
def jcp (P:Program) (t:TypeId) (b o:Nat) (v:LV) (g:Nat→Option Blk):Option Dl:=
 match g b with
 | some ⟨ty,(0,0),es,l⟩=>match v,kB P t with
  | .v (.one x),some 1=>match x.cell with
   | true=>some ⟨qr,[(b,some ⟨ty,(0,0),es,l.set o x⟩)],[],[],[(decide (o<l.length),true)]⟩
   | false=>none
  | _,_=>none
 | _=>none
def Yf (P:Program) (t:TypeId) (b o:Nat) (v:LV) (g:Nat→Option Blk):Option Dl:=
 match g b with
 | some ⟨ty,(0,0),es,l⟩=>match qs v,kB P t with
  | some vs,some n=>match Nat.beq (len vs) n with
   | true=>some ⟨qr,[(b,some ⟨ty,(0,0),es,l.take o++(vs++l.drop (o+n))⟩)],[],[],[(decide (o+n≤l.length),true)]⟩
   | false=>none
  | _,_=>none
 | _=>none
def jnj:LV→Bool
 | .v (.agg _)=>true
 | _=>false
def jkl:LV→Option (Nat×Nat)
 | .v (.one (.ptx b o))=>some (b,o)
 | _=>none
def Kp (P:Program) (t:TypeId) (a v:LV) (g:Nat→Option Blk):Option Dl:=
 match jkl a with
 | some (b,o)=>match jnj v with
  | true=>Yf P t b o v g
  | false=>jcp P t b o v g
 | none=>yB P t a v g
def jhn (P:Program):List Field→Bool
 | []=>true
 | f::l=>match kB P f.type with
  | some _=>jhn P l
  | none=>false
def Zp (P:Program) (fs:List Field) (cells:List At):List (Nat×LV)→Option (List At)
 | []=>some cells
 | (i,v)::rest=>match xb fs i,qs v with
  | some f,some vs=>match kB P f.type with
   | some n=>match Nat.beq (len vs) n,lay cells f.offset vs with
    | true,some r=>Zp P fs r rest
    | _,_=>none
   | none=>none
  | _,_=>none
def Yg (n:Nat) (cells:List At):List (Nat×LV)→Option (List At)
 | []=>some cells
 | (i,v)::rest=>match qs v with
  | some vs=>match Nat.beq (len vs) n,lay cells (i*n) vs with
   | true,some r=>Yg n r rest
   | _,_=>none
  | none=>none
def Zq (P:Program) (t:TypeId) (parts:List (Nat×LV)):Option Dl:=
 match KI P t with
 | some z=>match P.underlying t with
  | some (.struct fs)=>match jhn P fs.toList,Zp P fs.toList z parts with
   | true,some l=>some (.pure (.v (.agg l)))
   | _,_=>none
  | some (.array _ e)=>match kB P e with
   | some n=>match Yg n z parts with
    | some l=>some (.pure (.v (.agg l)))
    | none=>none
   | none=>none
  | _=>none
 | none=>none
def kC (z:List At):Nat→List At
 | 0=>[]
 | n+1=>z++kC z n
def xq (P:Program) (nb:Nat) (t:TypeId) (n:Nat) (parts:List (Nat×LV)):Option Dl:=
 match P.underlying t with
 | some (.slice e)=>match kB P e,KI P e with
  | some s,some z=>match Nat.ble (n*s) 16777216,Nat.beq (len z) s,Nat.ble 1 s,Yg s (kC z n) parts with
   | true,true,true,some l=>some ⟨.v (.one (.sl nb 0 n n)),[],[⟨e,(0,0),0,l⟩],[],[]⟩
   | _,_,_,_=>none
  | _,_=>none
 | _=>none
def xT (P:Program) (t:TypeId) (x:LV) (i:Nat):Option Dl:=
 match P.underlying t,x with
 | some (.struct fs),.v (.one (.ptr b o))=>match xb fs.toList i with
  | some f=>match kB P f.type with
   | some (_+1)=>val1 (.ptr b (o+f.offset))
   | _=>none
  | none=>none
 | some (.struct fs),.v (.one (.ptx b o))=>match xb fs.toList i with
  | some f=>match kB P f.type with
   | some (_+1)=>val1 (.ptx b (o+f.offset))
   | _=>none
  | none=>none
 | _,_=>none
def Zr (P:Program) (t:TypeId) (x:LV) (i:Nat):Option Dl:=
 match P.underlying t,x with
 | some (.struct fs),.v (.agg l)=>match xb fs.toList i with
  | some f=>match xp P f.type l f.offset with
   | some v=>some (.pure (.v v))
   | none=>none
  | none=>none
 | _,_=>none
def inB (i:Int) (n:Nat):Option Nat:=
 match i with
 | .ofNat k=>match Nat.blt k n with
  | true=>some k
  | false=>none
 | .negSucc _=>none
def xU (P:Program) (t:TypeId) (x ix:LV):Option Dl:=
 match P.underlying t,x,ix with
 | some (.array n e),.v (.one (.ptr b o)),.v (.one (.int _ i))=>match inB i n,kB P e with
  | some k,some s=>val1 (.ptr b (o+k*s))
  | _,_=>none
 | some (.slice e),.v (.one (.sl b o n _)),.v (.one (.int _ i))=>match inB i n,kB P e with
  | some k,some s=>val1 (.ptr b (o+k*s))
  | _,_=>none
 | some (.slice e),.v (.one (.slu b n)),.v (.one (.int _ i))=>match inB i n,kB P e with
  | some k,some s=>val1 (.ptr b (k*s))
  | _,_=>none
 | some (.slice e),.v (.one (.slx b o n _)),.v (.one (.int _ i))=>match kB P e with
  | some s=>some ⟨.v (.one (.ptx b (o+i.toNat*s))),[],[],[],[(decide (0≤i)&&decide (i<n),true)]⟩
  | none=>none
 | some (.array n e),.v (.one (.ptx b o)),.v (.one (.int _ i))=>match kB P e with
  | some s=>some ⟨.v (.one (.ptx b (o+i.toNat*s))),[],[],[],[(decide (0≤i)&&decide (i<n),true)]⟩
  | none=>none
 | some (.slice e),.v (.one (.slv b n)),.v (.one (.int _ i))=>match kB P e with
  | some s=>some ⟨.v (.one (.ptx b (i.toNat*s))),[],[],[],[(decide (0≤i)&&decide (i<n),true)]⟩
  | none=>none
 | _,_,_=>none
def Zs (P:Program) (t:TypeId) (x ix:LV):Option Dl:=
 match P.underlying t,x,ix with
 | some (.array n e),.v (.agg l),.v (.one (.int _ i))=>match inB i n,kB P e with
  | some k,some s=>match xp P e l (k*s) with
   | some v=>some (.pure (.v v))
   | none=>none
  | _,_=>none
 | _,_,_=>none
def extractD (x:LV) (i:Nat):Option Dl:=
 match x with
 | .tup l=>nth l i
 | _=>none
where
 nth:List V1→Nat→Option Dl
  | [],_=>none
  | v::_,0=>some (.pure (.v v))
  | _::l,n+1=>nth l n
def kl (v:Option LV) (dflt n:Nat):Option Nat:=
 match v with
 | none=>some dflt
 | some (.v (.one (.int _ (.ofNat k))))=>match Nat.ble k n with
  | true=>some k
  | false=>none
 | some _=>none
def Kq (v:Option LV) (dflt:Nat):Option Int:=
 match v with
 | none=>some dflt
 | some (.v (.one (.int _ i)))=>some i
 | some _=>none
def jaN (b o n c s:Nat) (lo hi:Option LV):Option Dl:=
 match Kq lo 0,Kq hi n with
 | some l,some h=>some ⟨.v (.one (.slx b (if c=l.toNat then o else o+l.toNat*s) (h.toNat - l.toNat) (c - l.toNat))),[],[],[],[(decide (0≤l)&&(decide (l≤h)&&decide (h≤c)),true)]⟩
 | _,_=>none
def Zt (P:Program) (t:TypeId) (x:LV) (lo hi:Option LV):Option Dl:=
 match P.underlying t,x with
 | some (.array n e),.v (.one (.ptr b o))=>match kl hi n n,kB P e with
  | some h,some s=>match kl lo 0 h with
   | some l=>match Nat.beq n l with
    | true=>val1 (.sl b o (h - l) (n - l))
    | false=>val1 (.sl b (o+l*s) (h - l) (n - l))
   | none=>none
  | _,_=>none
 | some (.slice e),.v (.one (.sl b o n c))=>match kl hi n c,kB P e with
  | some h,some s=>match kl lo 0 h with
   | some l=>match Nat.beq c l with
    | true=>val1 (.sl b o (h - l) (c - l))
    | false=>val1 (.sl b (o+l*s) (h - l) (c - l))
   | none=>none
  | _,_=>none
 | some (.slice e),.v (.one (.slx b o n c))=>match kB P e with
  | some s=>jaN b o n c s lo hi
  | none=>none
 | some (.slice e),.v (.one .nilsl)=>match kl hi 0 0,kB P e with
  | some h,some _=>match kl lo 0 h with
   | some _=>val1 .nilsl
   | none=>none
  | _,_=>none
 | some (.array n e),.v (.one (.ptx b o))=>match kl hi n n,kB P e with
  | some h,some s=>match kl lo 0 h with
   | some l=>match Nat.beq n l with
    | true=>val1 (.slx b o (h - l) (n - l))
    | false=>val1 (.slx b (o+l*s) (h - l) (n - l))
   | none=>none
  | _,_=>none
 | _,_=>none
def yC (P:Program) (g:Nat→Option Blk) (nb:Nat) (t:TypeId) (c:Bool) (b n:Nat) (lo hi:Option LV):Option Dl:=
 match P.underlying t with
 | some (.slice e)=>match kB P e,g b with
  | some s,some ⟨ty,(0,0),es,l⟩=>match Nat.beq ty e,Nat.beq es s,Nat.ble 1 s,kl hi n (len l/s) with
   | true,true,true,some h=>match kl lo 0 h,Nat.ble (h*s) (len l) with
    | some 0,true=>some ⟨.v (.one (.slu b h)),[],[],[b],[]⟩
    | some (k+1),true=>match hi,c,Nat.beq (len l) (n*s) with
     | none,true,true=>some ⟨.v (.one (.slu nb (n - (k+1)))),[(b,none)],[⟨e,(0,0),s,l.drop ((k+1)*s)⟩],[b],[]⟩
     | _,_,_=>match Nat.beq (k+1) h with
      | true=>some ⟨.v (.one (.slt b ((k+1)*s) (k+1))),[],[],[b],[]⟩
      | false=>none
    | _,_=>none
   | _,_,_,_=>none
  | _,_=>none
 | _=>none
def yD (P:Program) (g:Nat→Option Blk) (t:TypeId) (x:LV) (lo:Option LV) (hi mx:LV):Option Dl:=
 match P.underlying t with
 | some (.slice e)=>match kB P e,x with
  | some _,.v (.one .nilsl)=>match kl (some mx) 0 0 with
   | some m=>match kl (some hi) 0 m with
    | some h=>match kl lo 0 h with
     | some _=>val1 .nilsl
     | none=>none
    | none=>none
   | none=>none
  | some s,.v (.one (.sl b o _ c))=>match kl (some mx) 0 c with
   | some m=>match kl (some hi) 0 m with
    | some h=>match kl lo 0 h with
     | some l=>match Nat.beq m l with
      | true=>val1 (.sl b o (h - l) (m - l))
      | false=>val1 (.sl b (o+l*s) (h - l) (m - l))
     | none=>none
    | none=>none
   | none=>none
  | some s,.v (.one (.slu b _))=>match g b with
   | some ⟨ty,(0,0),es,l⟩=>match Nat.beq ty e,Nat.beq es s,Nat.ble 1 s,kl (some mx) 0 (len l/s) with
    | true,true,true,some m=>match kl (some hi) 0 m with
     | some h=>match kl lo 0 h with
      | some l=>match Nat.beq m l with
       | true=>some ⟨.v (.one (.sl b 0 (h - l) (m - l))),[],[],[b],[]⟩
       | false=>some ⟨.v (.one (.sl b (0+l*s) (h - l) (m - l))),[],[],[b],[]⟩
      | none=>none
     | none=>none
    | _,_,_,_=>none
   | _=>none
  | _,_=>none
 | _=>none
def jkm:LV→Option (Nat×Nat)
 | .v (.one (.slu b n))=>some (b,n)
 | _=>none
def jkn:LV→Option (Nat×Nat)
 | .v (.one (.slv b n))=>some (b,n)
 | _=>none
def Kr (P:Program) (g:Nat→Option Blk) (nb:Nat) (t:TypeId) (c:Bool) (b n:Nat) (lo hi:Option LV):Option Dl:=
 match P.underlying t with
 | some (.slice e)=>match kB P e,g b with
  | some s,some ⟨ty,(0,0),es,l⟩=>match Nat.beq ty e,Nat.beq es s,Nat.ble 1 s,c,hi with
   | true,true,true,true,none=>match lo with
    | some (.v (.one (.int _ (.ofNat (k+1)))))=>some ⟨.v (.one (.slv nb (n - (k+1)))),[(b,none)],[⟨e,(0,0),s,l.drop ((k+1)*s)⟩],[b],[(decide (k+1≤n)&&decide (l.length=n*s),true)]⟩
    | _=>none
   | _,_,_,_,_=>none
  | _,_=>none
 | _=>none
def Ql (P:Program) (g:Nat→Option Blk) (nb:Nat) (t:TypeId) (c:Bool) (x:LV) (lo hi mx:Option LV):Option Dl:=
 match mx with
 | some m=>match hi with
  | some h=>yD P g t x lo h m
  | none=>none
 | none=>match jkm x with
  | some (b,n)=>yC P g nb t c b n lo hi
  | none=>match jkn x with
   | some (b,n)=>Kr P g nb t c b n lo hi
   | none=>Zt P t x lo hi
def unD (op:UnOp) (x:LV):Option Dl:=
 match op,x with
 | .neg,.v (.one (.int k n))=>val1 (.int k (wr k (0 - n)))
 | .xor,.v (.one (.int k n))=>match jdy .xor k (-1) n with
  | some r=>val1 (.int k r)
  | none=>none
 | .not,.v (.one (.bool b))=>val1 (.bool (!b))
 | _,_=>none
def jeR (P:Program) (t:TypeId) (u:TypeId) (x:LV):Option Dl:=
 match P.underlying t,P.underlying u,x with
 | some _,some (.int k),.v (.one (.int _ n))=>val1 (.int k (wr k n))
 | _,_,_=>none
def XF:List LV→Option (List (Nat×Nat))
 | []=>some []
 | .v (.one (.ptr b o))::l=>match XF l with
  | some r=>some ((b,o)::r)
  | none=>none
 | _::_=>none
def yN (f:Fn) (first:List Operand) (caps:List LV):Option Dl:=
 match f,first,XF caps with
 | .func f,[],some l=>val1 (.fn f l)
 | _,_,_=>none
def jeS (op:BinOp) (k:IntKind) (a:Int) (k':IntKind) (b:Int) (yc:Bool):Option Dl:=
 match op with
 | .shl=>jco .shl k a b yc
 | .shr=>jco .shr k a b yc
 | op=>match Qh k k' with
  | true=>jqB op k a b yc
  | false=>none
def jko (P:Program) (op:BinOp) (t:TypeId) (a b:V1):Option Dl:=
 match op with
 | .eql=>match P.eqGuardType P.depth t,eqV P 10000 t a b with
  | false,some r=>val1 (.bool r)
  | _,_=>none
 | .neq=>match P.eqGuardType P.depth t,eqV P 10000 t a b with
  | false,some r=>val1 (.bool (!r))
  | _,_=>none
 | _=>none
def intOf? :LV→Option (IntKind×Int)
 | .v (.one (.int k a))=>some (k,a)
 | _=>none
def v1Of? :LV→Option V1
 | .v x=>some x
 | .tup _=>none
def jnk (P:Program) (op:BinOp) (t:TypeId) (x y:LV) (yc:Bool):Option Dl:=
 match intOf? x with
 | some (k,a)=>match intOf? y with
  | some (k',b)=>jeS op k a k' b yc
  | none=>none
 | none=>match v1Of? x with
  | some a=>match v1Of? y with
   | some b=>jko P op t a b
   | none=>none
  | none=>none
def jnl (P:Program) (t:TypeId) (x:LV):Option Dl:=
 match P.underlying t,x with
 | some (.array n _),_=>val1 (.int .i64 n)
 | some (.slice _),.v (.one (.sl _ _ n _))=>val1 (.int .i64 n)
 | some (.slice _),.v (.one (.slu _ n))=>val1 (.int .i64 n)
 | some (.slice _),.v (.one (.slx _ _ n _))=>val1 (.int .i64 n)
 | some (.slice _),.v (.one (.slv _ n))=>val1 (.int .i64 n)
 | some (.slice _),.v (.one .nilsl)=>val1 (.int .i64 0)
 | some (.slice _),.v (.one (.slt _ _ _))=>val1 (.int .i64 0)
 | _,_=>none
def kH (mx:Bool):IntKind→Int→List LV→Option Dl
 | k,x,[]=>val1 (.int k x)
 | k,x,.v (.one (.int _ y))::l=>match mx with
  | true=>kH true k (if y>x then y else x) l
  | false=>kH false k (if y<x then y else x) l
 | _,_,_=>none
def yO (mx:Bool):List LV→Option Dl
 | .v (.one (.int k x))::l=>kH mx k x l
 | _=>none
def jho (τ:Nat→LV):Option Operand→Option (Option LV)
 | none=>some none
 | some x=>match ev τ x with
  | some v=>some (some v)
  | none=>none
def yi (τ:Nat→LV):List (Nat×Operand)→Option (List (Nat×LV))
 | []=>some []
 | (i,x)::l=>match ev τ x,yi τ l with
  | some v,some r=>some ((i,v)::r)
  | _,_=>none
structure Ans where
 val:LV
 wr:List Blk
 nw:List Blk
 cs:List (Bool×Bool)
structure Tch where
 rd:List Nat
 wr:List Nat
 go:List Blk→List Blk→Nat→Option Ans
abbrev Sum:=List LV→Option Tch
inductive SumK where
 | old (s:Sum)
 | peek (s:List LV→List (Nat×LV)→Option Tch)
 | gen (s:List LV→List Nat→List Blk→Nat→Option Dl)
def jz (g:Nat→Option Blk):List Nat→Option (List Blk)
 | []=>some []
 | b::l=>match g b,jz g l with
  | some k,some r=>some (k::r)
  | _,_=>none
def yH:List Nat→Nat→Bool
 | [],_=>false
 | a::l,b=>match Nat.beq a b with
  | true=>true
  | false=>yH l b
def xV:List Nat→Bool
 | []=>true
 | a::l=>match yH l a with
  | true=>false
  | false=>xV l
def Xi:List Nat→List Blk→Option (List (Nat×Option Blk))
 | [],[]=>some []
 | b::l,k::ks=>match Xi l ks with
  | some r=>some ((b,some k)::r)
  | none=>none
 | _,_=>none
def At.ok (p:Nat→Bool):At→Bool
 | .ptr b _=>p b
 | .sl b _ _ _=>p b
 | .slu b _=>p b
 | .slx b _ _ _=>p b
 | .ptx b _=>p b
 | .slt b _ _=>p b
 | .slv b _=>p b
 | .fn _ caps=>caps.all fun c=>p c.1
 | _=>true
def okL (p:Nat→Bool):List At→Bool
 | []=>true
 | a::l=>match a.ok p with
  | true=>okL p l
  | false=>false
def V1.ok (p:Nat→Bool):V1→Bool
 | .one a=>a.ok p
 | .agg l=>okL p l
def jmz (p:Nat→Bool):List V1→Bool
 | []=>true
 | a::l=>match a.ok p with
  | true=>jmz p l
  | false=>false
def LV.ok (p:Nat→Bool):LV→Bool
 | .v x=>x.ok p
 | .tup l=>jmz p l
def okBs (p:Nat→Bool):List Blk→Bool
 | []=>true
 | b::l=>match okL p b.cells with
  | true=>okBs p l
  | false=>false
def jaO:List Blk→Nat
 | []=>0
 | _::l=>jaO l+1
def yP (t:Tch) (nb n:Nat) (i:Nat):Bool:=
 match yH t.rd i with
 | true=>true
 | false=>match yH t.wr i with
  | true=>true
  | false=>match Nat.ble nb i with
   | true=>Nat.blt i (nb+n)
   | false=>false
def jdz:List Nat→List Nat→List Nat
 | [],m=>m
 | a::l,m=>a::jdz l m
def jqC:List (Nat×Nat)→List Nat
 | []=>[]
 | c::l=>c.1::jqC l
def Yh:At→List Nat
 | .ptr b _=>[b]
 | .sl b _ _ _=>[b]
 | .slu b _=>[b]
 | .slx b _ _ _=>[b]
 | .ptx b _=>[b]
 | .slt b _ _=>[b]
 | .fn _ caps=>jqC caps
 | _=>[]
def vrA:At→List Nat
 | .slv b _=>[b]
 | _=>[]
def vrL:List At→List Nat
 | []=>[]
 | a::l=>jdz (vrA a) (vrL l)
def jvc:V1→List Nat
 | .one a=>vrA a
 | .agg l=>vrL l
def jvd:LV→List Nat
 | .v x=>jvc x
 | .tup _=>[]
def jhp:List LV→List Nat
 | []=>[]
 | a::l=>jdz (jvd a) (jhp l)
def jnm:List Blk→List Nat
 | []=>[]
 | b::l=>jdz (vrL b.cells) (jnm l)
def jaP:List At→List Nat
 | []=>[]
 | a::l=>jdz (Yh a) (jaP l)
def jcq:List Blk→List Nat
 | []=>[]
 | b::l=>jdz (jaP b.cells) (jcq l)
def juB (t:Tch) (nb n:Nat) (ns:List Nat) (i:Nat):Bool:=
 match yP t nb n i with
 | true=>true
 | false=>yH ns i
def jg6 (t:Tch) (g:Nat→Option Blk) (nb:Nat):Option Dl:=
 match jz g t.rd,jz g t.wr,xV t.wr with
 | some r,some w,true=>match t.go r w nb with
  | some a=>match Xi t.wr a.wr with
   | some ws=>match a.val.ok (yP t nb (jaO a.nw)),okBs (juB t nb (jaO a.nw) (jdz (jcq w) (jnm w))) a.wr,okBs (yP t nb (jaO a.nw)) a.nw with
    | true,true,true=>some ⟨a.val,ws,a.nw,t.rd++t.wr,a.cs⟩
    | _,_,_=>none
   | none=>none
  | none=>none
 | _,_,_=>none
def jaQ:List LV→List Nat
 | []=>[]
 | .v (.one (.ptr b _))::l=>b::jaQ l
 | _::l=>jaQ l
def jnn:Option Blk→Option LV
 | some ⟨_,_,_,[.ptr b o]⟩=>some (.v (.one (.ptr b o)))
 | _=>none
def Yi (g:Nat→Option Blk):List Nat→List (Nat×LV)
 | []=>[]
 | b::l=>match jnn (g b) with
  | some v=>(b,v)::Yi g l
  | none=>Yi g l
def Zu:List Nat→List Nat→Bool
 | [],_=>true
 | a::l,m=>match yH m a with
  | true=>Zu l m
  | false=>false
def jjo:V1→List Nat
 | .one a=>Yh a
 | .agg l=>jaP l
def jeT:List V1→List Nat
 | []=>[]
 | a::l=>jdz (jjo a) (jeT l)
def jno:LV→List Nat
 | .v x=>jjo x
 | .tup l=>jeT l
def jaR:List LV→List Nat
 | []=>[]
 | a::l=>jdz (jno a) (jaR l)
def JY (g:Nat→Option Blk):Nat→List Nat→List Nat→Option (List Nat)
 | _,[],seen=>some seen
 | 0,_::_,_=>none
 | n+1,b::l,seen=>match yH seen b with
  | true=>JY g n l seen
  | false=>match g b with
   | some k=>JY g n (jdz (jaP k.cells) l) (b::seen)
   | none=>none
def Xj:List (Nat×Option Blk)→List Nat
 | []=>[]
 | x::l=>x.1::Xj l
def jkp (p:Nat→Bool):List (Nat×Option Blk)→Bool
 | []=>true
 | (_,none)::l=>jkp p l
 | (_,some b)::l=>match okL p b.cells with
  | true=>jkp p l
  | false=>false
def Zv (args:List LV) (seen:List Nat) (ks:List Blk) (nb n:Nat) (i:Nat):Bool:=
 match yP ⟨seen,[],fun _ _ _=>none⟩ nb n i with
 | true=>true
 | false=>match yH (jhp args) i with
  | true=>true
  | false=>yH (jnm ks) i
def jqD (args:List LV) (s:List LV→List Nat→List Blk→Nat→Option Dl) (seen:List Nat) (ks:List Blk) (nb:Nat):Option Dl:=
 match s args seen ks nb with
 | some d=>match xV (Xj d.wr),Zu (Xj d.wr) seen,d.val.ok (Zv args seen ks nb (jaO d.nw)) with
  | true,true,true=>match okBs (Zv args seen ks nb (jaO d.nw)) d.nw,jkp (Zv args seen ks nb (jaO d.nw)) d.wr with
   | true,true=>some ⟨d.val,d.wr,d.nw,seen,d.cs⟩
   | _,_=>none
  | _,_,_=>none
 | none=>none
def jdA (s:SumK) (args:List LV) (g:Nat→Option Blk) (nb:Nat):Option Dl:=
 match s with
 | .old s=>match s args with
  | some t=>jg6 t g nb
  | none=>none
 | .peek s=>match s args (Yi g (jaQ args)) with
  | some t=>match Zu (jaQ args) (t.rd++t.wr) with
   | true=>jg6 t g nb
   | false=>none
  | none=>none
 | .gen s=>match JY g 20000 (jaR args) [] with
  | some seen=>match jz g seen with
   | some ks=>jqD args s seen ks nb
   | none=>none
  | none=>none
def callee (τ:Nat→LV) (c:Call):Option (FuncId×List LV):=
 match c.callee with
 | .value f=>match ev τ f,evs τ c.args.toList with
  | some (.v (.one (.fn f caps))),some args=>some (f,args++caps.map fun p=> .v (.one (.ptr p.1 p.2)))
  | _,_=>none
 | _=>none
def Yj (P:Program) (b:Builtin) (ts:List TypeId) (args:List LV):Option Dl:=
 match b,ts,args with
 | .len,[t],[x]=>jnl P t x
 | .min,_,args=>yO false args
 | .max,_,args=>yO true args
 | _,_,_=>none
def jeU (τ:Nat→LV) (x:Operand):Option Dl:=
 match ev τ x with
 | some v=>some (.pure v)
 | none=>none
def yQ (v:LV):Option Dl:=
 match v with
 | .v (.one (.ptr b o))=>val1 (.ptr b o)
 | .v (.one (.ptx b o))=>val1 (.ptx b o)
 | .v (.one (.fn f caps))=>val1 (.fn f caps)
 | _=>none
def Qm (P:Program) (t:TypeId) (v:LV):Option Dl:=
 match P.underlying t,v with
 | some (.array n _),.v (.one (.sl b o m _))=>match Nat.ble n m with
  | true=>val1 (.ptr b o)
  | false=>none
 | _,_=>none
def on1 (τ:Nat→LV) (x:Operand) (k:LV→Option Dl):Option Dl:=
 match ev τ x with
 | some v=>k v
 | none=>none
def on2 (τ:Nat→LV) (x y:Operand) (k:LV→LV→Option Dl):Option Dl:=
 match ev τ x with
 | some v=>match ev τ y with
  | some w=>k v w
  | none=>none
 | none=>none
def onL (τ:Nat→LV) (xs:List Operand) (k:List LV→Option Dl):Option Dl:=
 match evs τ xs with
 | some l=>k l
 | none=>none
def onP (τ:Nat→LV) (xs:List (Nat×Operand)) (k:List (Nat×LV)→Option Dl):Option Dl:=
 match yi τ xs with
 | some l=>k l
 | none=>none
def jhq:Option Operand→Bool
 | some (.const _)=>true
 | _=>false
def slD (P:Program) (τ:Nat→LV) (g:Nat→Option Blk) (nb:Nat) (t:TypeId) (x:Operand) (lo hi mx:Option Operand):Option Dl:=
 match jho τ lo with
 | some l=>match jho τ hi with
  | some h=>match jho τ mx with
   | some m=>on1 τ x fun v=>Ql P g nb t (jhq lo) v l h m
   | none=>none
  | none=>none
 | none=>none
def yR (g:Nat→Option Blk) (s:Nat) (x:LV):Option (Nat×List At×Nat×List (Bool×Bool)):=
 match x with
 | .v (.one (.sl b o m _))=>match g b with
  | some k=>match cut k.cells o (m*s) with
   | some l=>match kK l with
    | true=>some (m,l,b,[])
    | false=>none
   | none=>none
  | none=>none
 | .v (.one (.slu b m))=>match g b with
  | some k=>match cut k.cells 0 (m*s) with
   | some l=>match kK l with
    | true=>some (m,l,b,[])
    | false=>none
   | none=>none
  | none=>none
 | .v (.one (.slx b o m _))=>match g b with
  | some k=>some (m,(k.cells.drop o).take (m*s),b,[(decide (o+m*s≤k.cells.length)&&kK ((k.cells.drop o).take (m*s)),true)])
  | none=>none
 | _=>none
def yE (g:Nat→Option Blk) (e:TypeId) (s:Nat) (x:LV):Option (Nat×List At×Option Nat):=
 match x with
 | .v (.one .nilsl)=>some (0,[],none)
 | .v (.one (.slu b n))=>match g b with
  | some ⟨ty,(0,0),es,l⟩=>match Nat.beq ty e,Nat.beq es s,cut l 0 (n*s) with
   | true,true,some r=>some (n,r,some b)
   | _,_,_=>none
  | _=>none
 | .v (.one (.sl _ _ 0 0))=>some (0,[],none)
 | .v (.one (.sl b 0 n c))=>match g b with
  | some ⟨ty,(0,0),0,l⟩=>match Nat.beq ty e,Nat.beq n c,Nat.beq (len l) (n*s) with
   | true,true,true=>some (n,l,some b)
   | _,_,_=>none
  | _=>none
 | _=>none
def XG:List At→List At→List At
 | [],m=>m
 | a::l,m=>a::XG l m
def KJ:Option Nat→List (Nat×Option Blk)
 | some b=>[(b,none)]
 | none=>[]
def jmA:Option Nat→List Nat
 | some b=>[b]
 | none=>[]
def Qn:Option Nat→Nat→Bool
 | none,m=>Nat.ble 1 m
 | some _,_=>true
def jjp:Option Nat→Nat→Bool
 | some a,b=>Nat.beq a b
 | none,_=>false
def xM (P:Program) (nb:Nat) (g:Nat→Option Blk) (ts:List TypeId) (args:List LV):Option Dl:=
 match ts,args with
 | [t,u],[s,x]=>match Nat.beq t u,P.underlying t with
  | true,some (.slice e)=>match P.info? e,KI P e with
   | some i,some z=>match yE g e i.size s,yR g i.size x with
    | some (n,old,kill),some (m,news,b,cs)=>match Nat.beq (len z) i.size,Nat.ble 1 i.size,jjp kill b with
     | true,true,false=>some ⟨.v (.one (.slu nb (n+m))),KJ kill,[⟨e,(0,0),i.size,XG old news⟩],b::jmA kill,(Nat.ble ((n+m)*(i.bytes+1)) 140737488355328&&Qn kill m,true)::cs⟩
     | _,_,_=>none
    | _,_=>none
   | _,_=>none
  | _,_=>none
 | _,_=>none
def Yk (P:Program) (g:Nat→Option Blk) (ts:List TypeId) (s:LV):Option Dl:=
 match ts with
 | [t,u]=>match Nat.beq t u,P.underlying t with
  | true,some (.slice e)=>match P.info? e with
   | some _=>match s with
    | .v (.one .nilsl)=>val1 .nilsl
    | .v (.one (.sl b o n c))=>match g b,Nat.ble n c with
     | some _,true=>some ⟨.v (.one (.sl b o n c)),[],[],[b],[]⟩
     | _,_=>none
    | .v (.one (.slu b n))=>match g b,kB P e with
     | some ⟨_,(0,0),es,l⟩,some s=>match Nat.beq es s,Nat.ble 1 s,Nat.ble (n*s) (len l) with
      | true,true,true=>some ⟨.v (.one (.slu b n)),[],[],[b],[]⟩
      | _,_,_=>none
     | _,_=>none
    | _=>none
   | none=>none
  | _,_=>none
 | _=>none
def jeV:List LV→Option LV
 | [s,.v (.one .nilsl)]=>some s
 | [s,.v (.one (.slt _ _ _))]=>some s
 | [s,.v (.one (.slu _ 0))]=>some s
 | [s,.v (.one (.sl _ _ 0 _))]=>some s
 | _=>none
def Zw (g:Nat→Option Blk) (s:Nat) (x:LV):Option (Nat×List At×Nat×List (Bool×Bool)):=
 match x with
 | .v (.one (.slv b m))=>match g b with
  | some k=>some (m,k.cells.take (m*s),b,[(decide (m*s≤k.cells.length)&&kK (k.cells.take (m*s)),true)])
  | none=>none
 | x=>yR g s x
def Yl (g:Nat→Option Blk) (e:TypeId) (s:Nat) (x:LV):Option (Nat×List At×Option Nat×Bool):=
 match x with
 | .v (.one .nilsl)=>some (0,[],none,true)
 | .v (.one (.slv b n))=>match g b with
  | some ⟨ty,(0,0),es,l⟩=>match Nat.beq ty e,Nat.beq es s with
   | true,true=>some (n,l.take (n*s),some b,decide (n*s≤l.length))
   | _,_=>none
  | _=>none
 | .v (.one (.sl _ _ 0 0))=>some (0,[],none,true)
 | _=>none
def yS (P:Program) (nb:Nat) (g:Nat→Option Blk) (ts:List TypeId) (args:List LV):Option Dl:=
 match ts,args with
 | [t,u],[s,x]=>match Nat.beq t u,P.underlying t with
  | true,some (.slice e)=>match P.info? e,KI P e with
   | some i,some z=>match Yl g e i.size s,Zw g i.size x with
    | some (n,old,kill,c),some (m,news,b,cs)=>match Nat.beq (len z) i.size,Nat.ble 1 i.size,jjp kill b with
     | true,true,false=>some ⟨.v (.one (.slv nb (n+m))),KJ kill,[⟨e,(0,0),i.size,XG old news⟩],b::jmA kill,(Nat.ble ((n+m)*(i.bytes+1)) 140737488355328&&Qn kill m,true)::(c,true)::cs⟩
     | _,_,_=>none
    | _,_=>none
   | _,_=>none
  | _,_=>none
 | _,_=>none
def juC:LV→Bool
 | .v (.one (.slv _ _))=>true
 | _=>false
def jve:List LV→Bool
 | [s,x]=>match juC s with
  | true=>true
  | false=>juC x
 | _=>false
def yT (P:Program) (nb:Nat) (g:Nat→Option Blk) (ts:List TypeId) (args:List LV):Option Dl:=
 match jeV args with
 | some s=>Yk P g ts s
 | none=>xM P nb g ts args
def yU (P:Program) (nb:Nat) (g:Nat→Option Blk) (ts:List TypeId) (args:List LV):Option Dl:=
 match jve args with
 | true=>yS P nb g ts args
 | false=>yT P nb g ts args
def Zx:LV→Option (Nat×Nat×Nat)
 | .v (.one (.sl b o n _))=>some (b,o,n)
 | .v (.one (.slu b n))=>some (b,0,n)
 | _=>none
def Ym (P:Program) (g:Nat→Option Blk) (ts:List TypeId) (args:List LV):Option Dl:=
 match ts,args with
 | t::_,[x,y]=>match P.underlying t,Zx x,Zx y with
  | some (.slice e),some (b,o,n),some (b',o',m)=>match kB P e,g b,g b' with
   | some s,some ⟨ty,(0,0),es,l⟩,some k=>match cut k.cells o' (Nat.min m n*s) with
    | some r=>match kK r,lay l o r with
     | true,some l'=>some ⟨.v (.one (.int .i64 (Int.ofNat (Nat.min m n)))),[(b,some ⟨ty,(0,0),es,l'⟩)],[],[b,b'],[]⟩
     | _,_=>none
    | none=>none
   | _,_,_=>none
  | _,_,_=>none
 | _,_=>none
def Jt (P:Program) (g:Nat→Option Blk) (ts:List TypeId) (args:List LV):Option Dl:=
 match ts,args with
 | [t],[x]=>match P.underlying t,Zx x with
  | some (.slice e),some (b,o,n)=>match kB P e,KI P e,g b with
   | some s,some z,some ⟨ty,(0,0),es,l⟩=>match Nat.beq (len z) s,Nat.ble 1 s,Nat.ble 1 n,lay l o (kC z n) with
    | true,true,true,some l'=>some ⟨.tup [],[(b,some ⟨ty,(0,0),es,l'⟩)],[],[b],[]⟩
    | _,_,_,_=>none
   | _,_,_=>none
  | _,_=>none
 | _,_=>none
def zu (P:Program) (g:Nat→Option Blk) (b:Builtin) (ts:List TypeId) (args:List LV):Option Dl:=
 match b with
 | .copy=>Ym P g ts args
 | .clear=>Jt P g ts args
 | b=>Yj P b ts args
def jhr (P:Program) (S:FuncId→Option SumK) (τ:Nat→LV) (g:Nat→Option Blk) (nb:Nat) (c:Call):Option Dl:=
 match c.callee with
 | .builtin .append=>onL τ c.args.toList fun l=>yU P nb g c.argTypes.toList l
 | .builtin b=>onL τ c.args.toList fun l=>zu P g b c.argTypes.toList l
 | _=>match callee τ c with
  | some (f,args)=>match S f with
   | some s=>jdA s args g nb
   | none=>none
  | none=>none
def opD (P:Program) (S:FuncId→Option SumK) (z:Bool) (τ:Nat→LV) (g:Nat→Option Blk) (nb:Nat) (pd:Option Bool) (op:Op):Option Dl:=
 match op with
 | .move x=>jeU τ x
 | .assign x=>jeU τ x
 | .pick c a b=>jaM τ pd c a b
 | .alloc t=>Zo P nb t
 | .box t x=>on1 τ x fun v=>jni nb t v
 | .build t parts=>onP τ parts.toList fun l=>Zq P t l
 | .buildSlice t n parts=>onP τ parts.toList fun l=>xq P nb t n l
 | .load t a=>on1 τ a fun v=>Ko P t v g
 | .store t a x=>on2 τ a x fun p v=>Kp P t p v g
 | .nilCheck x=>on1 τ x fun v=>yQ v
 | .sliceToArrayPointer t x=>on1 τ x fun v=>Qm P t v
 | .binOp op t x y _=>on2 τ x y fun a b=>jnk P op t a b (z||jnh y)
 | .unOp op _ x=>on1 τ x fun v=>unD op v
 | .convert t u x=>on1 τ x fun v=>jeR P t u v
 | .makeFunc f first caps=>onL τ caps.toList fun l=>yN f first.toList l
 | .slice t x lo hi mx=>slD P τ g nb t x lo hi mx
 | .fieldAddr t x i=>on1 τ x fun v=>xT P t v i
 | .field t x i=>on1 τ x fun v=>Zr P t v i
 | .indexAddr t x i=>on2 τ x i fun v k=>xU P t v k
 | .index t x i=>on2 τ x i fun v k=>Zs P t v k
 | .extract x i=>on1 τ x fun v=>extractD v i
 | .call c=>jhr P S τ g nb c
 | _=>none
end Go.Lr

/- The local evaluator: a body, its operations, its calls. Definitions alone. -/
namespace Go.Lr
structure Md where
 z:Bool
 y:Bool
 a:Bool:=false
structure St where
 tm:Tr
 sz:Nat
 mem:Mem
 nb:Nat
 dec:List (Option Bool)
 cs:List (Bool×Bool)
 lg:List Nat
def jf2:List (Option Bool)→Option Bool×List (Option Bool)
 | []=>(none,[])
 | d::l=>(d,l)
def qW (m:Mem):List (Nat×Option Blk)→Mem
 | []=>m
 | (i,s)::l=>qW (jdx m i s) l
def qX (m:Mem) (nb:Nat):List Blk→Mem
 | []=>m
 | b::l=>qX ((nb,b)::m) (nb+1) l
def jc9 {α β:Type}:List α→(List α→β)→β
 | [],k=>k []
 | x::l,k=>jc9 l fun r=>k (x::r)
def Z7 {β:Type}:Nat→(Nat→β)→β
 | 0,k=>k 0
 | n+1,k=>k (n+1)
def jf3 {β:Type}:Int→(Int→β)→β
 | .ofNat n,k=>Z7 n fun m=>k (.ofNat m)
 | .negSucc n,k=>Z7 n fun m=>k (.negSucc m)
def jjQ {β:Type}:Bool→(Bool→β)→β
 | true,k=>k true
 | false,k=>k false
def jda {β:Type}:At→(At→β)→β
 | .int i n,k=>jf3 n fun m=>k (.int i m)
 | .bool b,k=>jjQ b fun c=>k (.bool c)
 | a,k=>k a
def YN {β:Type}:List At→(List At→β)→β
 | [],k=>k []
 | a::l,k=>jda a fun a=>YN l fun r=>k (a::r)
def YO {β:Type}:V1→(V1→β)→β
 | .one a,k=>jda a fun a=>k (.one a)
 | .agg l,k=>YN l fun r=>k (.agg r)
def YP {β:Type}:List V1→(List V1→β)→β
 | [],k=>k []
 | a::l,k=>YO a fun a=>YP l fun r=>k (a::r)
def jdb {β:Type} (z:Bool) (v:LV) (k:LV→β):β:=
 match z with
 | false=>k v
 | true=>match v with
  | .v x=>YO x fun y=>k (.v y)
  | .tup l=>YP l fun r=>k (.tup r)
def jdU {β:Type} (s:St) (dst:Option Tmp) (v:LV) (k:Tr→Option β):Option β:=
 match dst with
 | some d=>match Nat.blt d s.sz with
  | true=>KH 16 s.tm d v k
  | false=>none
 | none=>k s.tm
def YQ {β:Type}:Mem→List (Nat×Option Blk)→(Mem→β)→β
 | m,[],k=>k m
 | m,(i,s)::l,k=>jhl m i s fun m=>YQ m l k
def YR {β:Type}:Mem→Nat→List Blk→(Mem→Nat→β)→β
 | m,nb,[],k=>k m nb
 | m,nb,b::l,k=>Z7 (nb+1) fun nb'=>YR ((nb,b)::m) nb' l k
def jpG {β:Type}:List Nat→List (Nat×Option Blk)→(List Nat→β)→β
 | lg,[],k=>k lg
 | lg,x::l,k=>match yH lg x.1 with
  | true=>jpG lg l k
  | false=>jpG (x.1::lg) l k
def csK {β:Type}:Bool→List (Bool×Bool)→List (Bool×Bool)→(List (Bool×Bool)→Option β)→Option β
 | _,[],old,k=>k old
 | false,c::l,old,k=>csK false l old fun r=>k (c::r)
 | true,(true,true)::l,old,k=>csK true l old k
 | true,(false,false)::l,old,k=>csK true l old k
 | true,(true,false)::_,_,_=>none
 | true,(false,true)::_,_,_=>none
def jio {β:Type} (z:Md) (s:St) (dst:Option Tmp) (d:Dl) (dec:List (Option Bool)) (cs:List (Bool×Bool)) (k:St→Option β):Option β:=
 Z7 s.sz fun sz=>jdb z.z d.val fun v=>jdU s dst v fun tm=>YQ s.mem d.wr fun mem=>YR mem s.nb d.nw fun mem nb=>jpG s.lg d.wr fun lg=>
  csK z.z d.cs s.cs fun c1=>csK z.z cs c1 fun c2=>k ⟨tm,sz,mem,nb,dec,c2,lg⟩
def Z8 (nb:Nat):Mem→Mem
 | []=>[]
 | (i,b)::m=>match Nat.blt i nb with
  | true=>(i,b)::Z8 nb m
  | false=>Z8 nb m
def jf4 {β:Type} (y:Bool) (nb:Nat) (v:LV) (m:Mem) (k:Mem→β):β:=
 match y with
 | false=>k m
 | true=>match v.ok fun i=>Nat.blt i nb with
  | true=>jc9 (Z8 nb m) k
  | false=>k m
def KX (all:List Oper) (j:Nat):Option Tmp:=
 match all[j]? with
 | some o=>o.dst
 | none=>none
def Xs (all:List Oper) (τ:Nat→LV) (o:Oper) (gd:Option Bool):Option (Bool×List (Bool×Bool)):=
 match o.guard with
 | none=>some (true,[])
 | some (j,want)=>match KX all j with
  | some t=>match τ t with
   | .v (.one (.bool b))=>match Zn gd b with
    | some (c,cs)=>some (c==want,cs)
    | none=>none
   | .v (.one (.opq (.tuple _)))=>some (false,[])
   | _=>none
  | none=>none
def jjR:Op→Bool
 | .pick _ _ _=>true
 | _=>false
def jtM (o:Oper) (dec:List (Option Bool)):Option Bool×Option Bool×List (Option Bool):=
 match o.guard with
 | none=>match jjR o.op with
  | true=>match jf2 dec with
   | (p,r)=>(none,p,r)
  | false=>(none,none,dec)
 | some _=>match jf2 dec with
  | (gd,r)=>match jjR o.op with
   | true=>match jf2 r with
    | (p,r')=>(gd,p,r')
   | false=>(gd,none,r)
def orD (dec:List (Option Bool)):Option Bool×List (Option Bool):=
 match dec with
 | []=>(some false,[])
 | d::l=>(d,l)
def jtN (o:Oper) (dec:List (Option Bool)):Option Bool×List (Option Bool):=
 match o.guard with
 | some (_,true)=>(some true,dec)
 | some (_,false)=>orD dec
 | none=>(none,dec)
def jtO (o:Oper) (dec:List (Option Bool)):Option Bool×List (Option Bool):=
 match o.op with
 | .pick _ _ (.const (.bool false))=>(some true,dec)
 | .pick _ (.const (.bool true)) _=>orD dec
 | _=>(none,dec)
def jra (z:Md) (o:Oper) (dec:List (Option Bool)):Option Bool×Option Bool×List (Option Bool):=
 match z.a with
 | false=>jtM o dec
 | true=>match jtN o dec with
  | (g,d1)=>match jtO o d1 with
   | (p,d2)=>(g,p,d2)
def Xt:List LV→Option (List V1)
 | []=>some []
 | .v x::l=>match Xt l with
  | some r=>some (x::r)
  | none=>none
 | .tup _::_=>none
def Z9 (P:Program) (τ:Nat→LV) (m:Mem):ResultVar→Option LV
 | .tmp t=>some (τ t)
 | .cell a t=>match Qj P t (τ a) (getM m) with
  | some d=>some d.val
  | none=>none
def yq (P:Program) (τ:Nat→LV) (m:Mem):List ResultVar→Option (List LV)
 | []=>some []
 | r::l=>match Z9 P τ m r,yq P τ m l with
  | some v,some vs=>some (v::vs)
  | _,_=>none
def km (P:Program) (rs:List ResultVar) (τ:Nat→LV) (m:Mem):Option LV:=
 match yq P τ m rs with
 | some [v]=>some v
 | some vs=>match Xt vs with
  | some l=>some (.tup l)
  | none=>none
 | none=>none
inductive Ex where
 | normal
 | exit (id:Nat)
 | ret
inductive Cmd where
 | code (c:Code)
 | ops (all rest:List Oper)
 | body (f:FuncId) (args:List LV)
inductive Out where
 | ex (e:Ex)
 | val (v:LV)
structure Rec where
 o:Oper
 gd:Option Bool
 pd:Option Bool
 nb:Nat
 gcs:List (Bool×Bool)
 d:Dl
def jdV:Dl:= .pure qr
def J8 (P:Program) (S:FuncId→Option SumK) (z:Md) (all:List Oper) (τ:Nat→LV) (g:Nat→Option Blk) (nb:Nat) (gd pd:Option Bool) (o:Oper):Option (Dl×List (Bool×Bool)):=
 match Xs all τ o gd with
 | some (true,cs)=>match opD P S z.z τ g nb pd o.op with
  | some d=>some (d,cs)
  | none=>none
 | some (false,cs)=>some (jdV,cs)
 | none=>none
def yr (P:Program) (S:FuncId→Option SumK) (z:Md) (all:List Oper):List Oper→St→List Rec→Option (St×List Rec)
 | [],s,acc=>some (s,acc)
 | o::rest,s,acc=>
  match jra z o s.dec with
  | (gd,pd,dec)=>match J8 P S z all (getT s.tm) (getM s.mem) s.nb gd pd o with
   | some (d,cs)=>jio z s o.dst d dec cs fun s'=>yr P S z all rest s' (⟨o,gd,pd,s.nb,cs,d⟩::acc)
   | none=>none
def qw:List Operand→List Tmp
 | []=>[]
 | .tmp t::l=>t::qw l
 | _::l=>qw l
def Rec.rT (all:List Oper) (r:Rec):List Tmp:=
 match r.o.guard with
 | some (j,_)=>match KX all j with
  | some t=>t::qw r.o.op.operands.toList
  | none=>qw r.o.op.operands.toList
 | none=>qw r.o.op.operands.toList
def jdc:Option Tmp→List Tmp→Bool
 | some t,l=>yH l t
 | none,_=>false
def jpH:Option Tmp→Option Tmp→Bool
 | some a,some b=>Nat.beq a b
 | _,_=>false
def keys:List (Nat×Option Blk)→List Nat
 | []=>[]
 | (i,_)::l=>i::keys l
def news (nb:Nat):List Blk→List Nat
 | []=>[]
 | _::l=>nb::news (nb+1) l
def Rec.wB (r:Rec):List Nat:=keys r.d.wr++news r.nb r.d.nw
def jaa:List Nat→List Nat→Bool
 | [],_=>false
 | a::l,m=>match yH m a with
  | true=>true
  | false=>jaa l m
def jlK (all:List Oper) (x y:Rec):Bool:=
 jdc x.o.dst (y.rT all)||jdc y.o.dst (x.rT all)||jpH x.o.dst y.o.dst ||
  jaa x.wB (y.d.rd++y.wB)||jaa y.wB (x.d.rd++x.wB)
def xu (masks:List Nat):List Edge→Nat
 | []=>0
 | e::l=>match Region.binds .any e with
  | true=>(1 <<< e.on) ||| masks.getD e.on 0 ||| xu masks l
  | false=>xu masks l
def kv:List Oper→List Nat→List Nat
 | [],acc=>acc
 | o::l,acc=>kv l (acc++[xu acc o.after.toList])
def XS (all:List Oper) (mask:Nat) (y:Rec):Nat→List Rec→Bool
 | _,[]=>true
 | i,x::l=>match mask.testBit i with
  | true=>XS all mask y (i+1) l
  | false=>match jlK all x y with
   | true=>false
   | false=>XS all mask y (i+1) l
def QK (all:List Oper) (masks:List Nat):Nat→List Rec→List Rec→Bool
 | _,_,[]=>true
 | j,done,y::l=>match XS all (masks.getD j 0) y 0 done with
  | true=>QK all masks (j+1) (done++[y]) l
  | false=>false
def zb:Nat→List Edge→Bool
 | _,[]=>true
 | j,e::l=>match Region.binds .any e with
  | true=>match Nat.blt e.on j with
   | true=>zb j l
   | false=>false
  | false=>zb j l
def xv:Nat→List Oper→Bool
 | _,[]=>true
 | j,o::l=>match zb j o.after.toList with
  | true=>xv (j+1) l
  | false=>false
def jjS:List Rec→List Rec→List Rec
 | [],acc=>acc
 | r::l,acc=>jjS l (r::acc)
def xQ (P:Program) (S:FuncId→Option SumK) (z:Md) (all:List Oper) (s:St):Option St:=
 match yr P S z all all s [] with
 | some (s',acc)=>match QK all (kv all []) 0 [] (jjS acc []),xv 0 all with
  | true,true=>some s'
  | _,_=>none
 | none=>none
def jmG:List LV→Nat
 | []=>0
 | _::l=>jmG l+1
def KL:Tr→Nat→List LV→Tr
 | t,_,[]=>t
 | t,i,v::l=>KL (KG 16 t i v) (i+1) l
def jdd {β:Type}:Tr→Nat→List LV→(Tr→β)→β
 | t,_,[],k=>k t
 | t,i,v::l,k=>KH 16 t i v fun t=>jdd t (i+1) l k
def jf5 (S:FuncId→Option SumK) (τ:Nat→LV) (op:Op):Option (FuncId×List LV):=
 match op with
 | .call c=>match callee τ c with
  | some (f,args)=>match S f with
   | some _=>none
   | none=>some (f,args)
  | none=>none
 | _=>none
abbrev Go1:=Cmd→St→Option (Out×St)
def YS (z:Md) (rec:Go1) (c:Operand) (a b:Code) (s:St):Option (Out×St):=
 match ev (getT s.tm) c with
 | some (.v (.one (.bool t)))=>match jf2 s.dec with
  | (d,dec)=>match Zn d t with
   | some (true,cs)=>csK z.z cs s.cs fun c1=>rec (.code a) ⟨s.tm,s.sz,s.mem,s.nb,dec,c1,s.lg⟩
   | some (false,cs)=>csK z.z cs s.cs fun c1=>rec (.code b) ⟨s.tm,s.sz,s.mem,s.nb,dec,c1,s.lg⟩
   | none=>none
 | _=>none
def xR (rec:Go1) (b:Code):Option (Out×St)→Option (Out×St)
 | some (.ex .normal,s')=>rec (.code b) s'
 | r=>r
def xX (id:Nat):Option (Out×St)→Option (Out×St)
 | some (.ex (.exit i),s')=>match Nat.beq i id with
  | true=>some (.ex .normal,s')
  | false=>some (.ex (.exit i),s')
 | r=>r
def qe:Option St→Option (Out×St)
 | some s'=>some (.ex .normal,s')
 | none=>none
def kP (P:Program) (S:FuncId→Option SumK) (z:Md) (rec:Go1) (c:Code) (s:St):Option (Out×St):=
 match c with
 | .skip=>some (.ex .normal,s)
 | .region _ ops draw=>match draw with
  | false=>rec (.ops ops.toList ops.toList) s
  | true=>qe (xQ P S z ops.toList s)
 | .seq a b=>xR rec b (rec (.code a) s)
 | .cond c a b=>YS z rec c a b s
 | .block id a=>xX id (rec (.code a) s)
 | .loop a=>xR rec (.loop a) (rec (.code a) s)
 | .exit id=>some (.ex (.exit id),s)
 | .ret=>some (.ex .ret,s)
 | _=>none
def jbx (z:Md) (rec:Go1) (all rest:List Oper) (o:Oper) (nb:Nat):Option (Out×St)→Option (Out×St)
 | some (.val v,s')=>jdb z.z v fun v=>jdU s' o.dst v fun tm=>jf4 z.y nb v s'.mem fun m=>rec (.ops all rest) ⟨tm,s'.sz,m,s'.nb,s'.dec,s'.cs,s'.lg⟩
 | _=>none
def jf6 (P:Program) (S:FuncId→Option SumK) (z:Md) (rec:Go1) (all rest:List Oper) (o:Oper) (s:St) (pd:Option Bool) (dec:List (Option Bool)) (cs:List (Bool×Bool)):Option (Out×St):=
 match jf5 S (getT s.tm) o.op with
 | some (f,args)=>csK z.z cs s.cs fun c1=>jbx z rec all rest o s.nb (rec (.body f args) ⟨s.tm,s.sz,s.mem,s.nb,dec,c1,s.lg⟩)
 | none=>match opD P S z.z (getT s.tm) (getM s.mem) s.nb pd o.op with
  | some d=>jio z s o.dst d dec cs fun s'=>rec (.ops all rest) s'
  | none=>none
def YT (P:Program) (S:FuncId→Option SumK) (z:Md) (rec:Go1) (all:List Oper) (l:List Oper) (s:St):Option (Out×St):=
 match l with
 | []=>some (.ex .normal,s)
 | o::rest=>match jra z o s.dec with
  | (gd,pd,dec)=>match Xs all (getT s.tm) o gd with
   | some (false,cs)=>jio z s o.dst jdV dec cs fun s'=>rec (.ops all rest) s'
   | some (true,cs)=>jf6 P S z rec all rest o s pd dec cs
   | none=>none
def YU (P:Program) (fn:Func) (s:St):Option (Out×St)→Option (Out×St)
 | some (.ex .normal,s')=>match km P fn.results.toList (getT s'.tm) s'.mem with
  | some v=>some (.val v,⟨s.tm,s.sz,s'.mem,s'.nb,s'.dec,s'.cs,s'.lg⟩)
  | none=>none
 | some (.ex .ret,s')=>match km P fn.results.toList (getT s'.tm) s'.mem with
  | some v=>some (.val v,⟨s.tm,s.sz,s'.mem,s'.nb,s'.dec,s'.cs,s'.lg⟩)
  | none=>none
 | _=>none
def KY (P:Program) (rec:Go1) (f:FuncId) (args:List LV) (s:St):Option (Out×St):=
 match P.funcs[f]? with
 | some fn=>match fn.body with
  | some c=>match Nat.ble (jmG args) fn.ntmps,Nat.ble fn.ntmps 60000 with
   | true,true=>jdd .nil 0 args fun tm=>YU P fn s (rec (.code c) ⟨tm,fn.ntmps,s.mem,s.nb,s.dec,s.cs,s.lg⟩)
   | _,_=>none
  | none=>none
 | none=>none
def jby (P:Program) (S:FuncId→Option SumK) (z:Md) (rec:Go1) (c:Cmd) (s:St):Option (Out×St):=
 match c with
 | .code c=>kP P S z rec c s
 | .ops all l=>YT P S z rec all l s
 | .body f args=>KY P rec f args s
def exec (P:Program) (S:FuncId→Option SumK) (z:Md):Nat→Cmd→St→Option (Out×St)
 | 0,_,_=>none
 | n+1,c,s=>jby P S z (exec P S z n) c s
def jG (P:Program) (S:FuncId→Option SumK) (z:Md) (n:Nat) (f:FuncId) (args:List LV) (m:Mem) (nb:Nat) (dec:List (Option Bool)):Option (LV×Mem×Nat×List (Bool×Bool)):=
 match exec P S z n (.body f args) ⟨.nil,0,m,nb,dec,[],[]⟩ with
 | some (.val v,s)=>some (v,s.mem,s.nb,s.cs)
 | _=>none
def jtP (P:Program) (S:FuncId→Option SumK) (z:Md) (n:Nat) (f:FuncId) (args:List LV) (m:Mem) (nb:Nat) (dec:List (Option Bool)):Option (LV×Mem×List (Bool×Bool)×List Nat):=
 match exec P S z n (.body f args) ⟨.nil,0,m,nb,dec,[],[]⟩ with
 | some (.val v,s)=>some (v,s.mem,s.cs,s.lg)
 | _=>none
end Go.Lr

/- The local evaluator: what its values, trees and memories mean. -/
namespace Go.Lr
theorem kX (a b:Nat):Nat.beq a b=decide (a=b):=by rw [Bool.eq_iff_iff,Nat.beq_eq];simp
theorem Kx (a b:Nat):Nat.ble a b=decide (a≤b):=by rw [Bool.eq_iff_iff,Nat.ble_eq];simp
theorem zT (a b:Nat):Nat.blt a b=decide (a<b):=by unfold Nat.blt;rw [Kx];rfl
theorem At.den_congr {p:Nat→Bool} {E E':Env} (h:∀i,p i=true→E' i=E i):∀{a:At},a.ok p=true→a.den E'=a.den E:=by
 intro a ha
 cases a with
 | ptr b o=>simp only [At.ok] at ha;simp [At.den,h b ha]
 | sl b o l c=>simp only [At.ok] at ha;simp [At.den,h b ha]
 | slu b l=>simp only [At.ok] at ha;simp [At.den,h b ha]
 | slx b o l c=>simp only [At.ok] at ha;simp [At.den,h b ha]
 | ptx b o=>simp only [At.ok] at ha;simp [At.den,h b ha]
 | slt b o n=>simp only [At.ok] at ha;simp [At.den,h b ha]
 | slv b n=>simp only [At.ok] at ha;simp [At.den,h b ha]
 | fn f caps=>
  simp only [At.ok,List.all_eq_true] at ha
  simp only [At.den,Value.func.injEq,true_and]
  congr 1
  exact List.map_congr_left fun c hc=>by rw [h _ (ha c hc)]
 | _=>rfl
theorem okL_iff {p:Nat→Bool}:∀{l:List At},okL p l=true↔∀a∈l,a.ok p=true
 | []=>by simp [okL]
 | a::l=>by
  simp only [okL,List.mem_cons,forall_eq_or_imp]
  cases h:a.ok p <;> simp [okL_iff (l:=l)]
theorem okVs_iff {p:Nat→Bool}:∀{l:List V1},jmz p l=true↔∀a∈l,a.ok p=true
 | []=>by simp [jmz]
 | a::l=>by
  simp only [jmz,List.mem_cons,forall_eq_or_imp]
  cases h:a.ok p <;> simp [okVs_iff (l:=l)]
theorem okBs_iff {p:Nat→Bool}:∀{l:List Blk},okBs p l=true↔∀a∈l,okL p a.cells=true
 | []=>by simp [okBs]
 | a::l=>by
  simp only [okBs,List.mem_cons,forall_eq_or_imp]
  cases h:okL p a.cells <;> simp [okBs_iff (l:=l)]
theorem jX {p:Nat→Bool} {E E':Env} (h:∀i,p i=true→E' i=E i) {l:List At} (hl:okL p l=true):l.map (At.den E')=l.map (At.den E):=
 List.map_congr_left fun a ha=>At.den_congr h (okL_iff.1 hl a ha)
theorem V1.den_congr {p:Nat→Bool} {E E':Env} (h:∀i,p i=true→E' i=E i):∀{a:V1},a.ok p=true→a.den E'=a.den E
 | .one _,ha=>At.den_congr h ha
 | .agg l,ha=>by simp only [V1.den];rw [jX h ha]
theorem LV.den_congr {p:Nat→Bool} {E E':Env} (h:∀i,p i=true→E' i=E i):∀{a:LV},a.ok p=true→a.den E'=a.den E
 | .v _,ha=>V1.den_congr h ha
 | .tup l,ha=>by
  simp only [LV.den]
  rw [List.map_congr_left fun a hm=>V1.den_congr h (okVs_iff.1 ha a hm)]
theorem At.ok_mono {p q:Nat→Bool} (h:∀i,p i=true→q i=true):∀{a:At},a.ok p=true→a.ok q=true:=by
 intro a ha
 cases a with
 | ptr b o=>exact h _ ha
 | sl b o l c=>exact h _ ha
 | slu b l=>exact h _ ha
 | slx b o l c=>exact h _ ha
 | ptx b o=>exact h _ ha
 | slt b o n=>exact h _ ha
 | slv b n=>exact h _ ha
 | fn f caps=>simp only [At.ok,List.all_eq_true] at ha ⊢;exact fun c hc=>h _ (ha c hc)
 | _=>rfl
theorem jn {p q:Nat→Bool} (h:∀i,p i=true→q i=true) {l:List At} (hl:okL p l=true):okL q l=true:=
 okL_iff.2 fun a ha=>At.ok_mono h (okL_iff.1 hl a ha)
theorem V1.ok_mono {p q:Nat→Bool} (h:∀i,p i=true→q i=true):∀{a:V1},a.ok p=true→a.ok q=true
 | .one _,ha=>At.ok_mono h ha
 | .agg _,ha=>jn h ha
theorem LV.ok_mono {p q:Nat→Bool} (h:∀i,p i=true→q i=true):∀{a:LV},a.ok p=true→a.ok q=true
 | .v _,ha=>V1.ok_mono h ha
 | .tup _,ha=>okVs_iff.2 fun a hm=>V1.ok_mono h (okVs_iff.1 ha a hm)
theorem jab {p q:Nat→Bool} (h:∀i,p i=true→q i=true) {l:List Blk} (hl:okBs p l=true):okBs q l=true:=
 okBs_iff.2 fun a ha=>jn h (okBs_iff.1 hl a ha)
theorem yt {v:Value} {a:At} (h:jcn v=some a):(∀E,a.den E=v)∧(∀p,a.ok p=true)∧a.cell=true:=by
 unfold jcn at h
 split at h <;> first
  | (cases h;refine ⟨fun _=>rfl,fun _=>rfl,rfl⟩)
  | cases h
theorem zd:∀{l:List Value} {r:List At},Qf l=some r→(∀E,r.map (At.den E)=l)∧(∀p,okL p r=true)∧kK r=true
 | [],r,h=>by simp only [Qf] at h;cases h;exact ⟨fun _=>rfl,fun _=>rfl,rfl⟩
 | v::l,r,h=>by
  simp only [Qf] at h
  split at h
  ·rename_i a r' ha hr
   cases h
   obtain ⟨h1,h2,h3⟩:=yt ha
   obtain ⟨g1,g2,g3⟩:=zd hr
   exact ⟨fun E=>by simp [h1 E,g1 E],fun p=>by simp [okL,h2 p,g2 p],by simp [kK,h3,g3]⟩
  ·cases h
theorem xh {v:Value} {x:V1} (h:jaK v=some x):(∀E,x.den E=v)∧(∀p,x.ok p=true):=by
 unfold jaK at h
 split at h
 ·rename_i cs
  split at h
  ·rename_i l hl
   cases h
   obtain ⟨g1,g2,_⟩:=zd hl
   exact ⟨fun E=>by simp [V1.den,g1 E],fun p=>g2 p⟩
  ·cases h
 ·split at h
  ·rename_i a ha
   cases h
   obtain ⟨h1,h2,_⟩:=yt ha
   exact ⟨h1,h2⟩
  ·cases h
theorem JC {β:Type}:∀(f:Nat) (t:Tr) (i:Nat) (v:LV) (k:Tr→β),KH f t i v k=k (KG f t i v)
 | 0,t,i,v,k=>by simp [KH,KG]
 | f+1,.nil,0,v,k=>by simp [KH,KG]
 | f+1,.nd _ l r,0,v,k=>by simp [KH,KG]
 | f+1,.nil,i+1,v,k=>by
  simp only [KH,KG]
  split <;> rw [JC f]
 | f+1,.nd u l r,i+1,v,k=>by
  simp only [KH,KG]
  split <;> rw [JC f]
theorem zH (i:Nat):getT .nil i=qr:=by cases i <;> rfl
theorem ko (v:LV) (l r:Tr) (i:Nat):getT (.nd v l r) (i+1)=if i%2=0 then getT l (i/2) else getT r (i/2):=by
 simp only [getT]
 by_cases h:i%2=0
 ·simp [h]
 ·have:Nat.beq (i%2) 0=false:=by rw [kX];simp [h]
  simp [h,this]
theorem jf7 (f:Nat) (t:Tr) (i:Nat) (v:LV):∃u l r,(∀j,getT t j=getT (.nd u l r) j)∧
  KG (f+1) t (i+1) v=if i%2=0 then .nd u (KG f l (i/2) v) r else .nd u l (KG f r (i/2) v):=by
 cases t with
 | nil=>
  refine ⟨qr,.nil,.nil,fun j=> ?_, ?_⟩
  ·cases j with
   | zero=>rfl
   | succ j=>rw [ko,zH,zH];simp
  ·simp only [KG]
   by_cases h:i%2=0
   ·simp [h]
   ·have:Nat.beq (i%2) 0=false:=by rw [kX];simp [h]
    simp [h,this]
 | nd u l r=>
  refine ⟨u,l,r,fun j=>rfl, ?_⟩
  simp only [KG]
  by_cases h:i%2=0
  ·simp [h]
  ·have:Nat.beq (i%2) 0=false:=by rw [kX];simp [h]
   simp [h,this]
theorem xY:∀(f:Nat) (t:Tr) (i:Nat) (v:LV) (j:Nat),i+1<2 ^ f→getT (KG f t i v) j=if j=i then v else getT t j
 | 0,_,i,_,_,h=>by simp at h
 | f+1,t,0,v,j,_=>by
  cases t with
  | nil=>
   cases j with
   | zero=>simp [KG,getT]
   | succ j=>simp only [KG];rw [ko,zH,zH];simp
  | nd u l r=>
   cases j with
   | zero=>simp [KG,getT]
   | succ j=>simp only [KG];rw [ko,ko];simp
 | f+1,t,i+1,v,j,h=>by
  have hf:i/2+1<2 ^ f:=by rw [Nat.pow_succ] at h;omega
  obtain ⟨u,l,r,e,hs⟩:=jf7 f t i v
  rw [hs,e j]
  cases j with
  | zero=>by_cases hi:i%2=0 <;> simp [hi,getT]
  | succ j=>
   have e1:=xY f l (i/2) v (j/2) hf
   have e2:=xY f r (i/2) v (j/2) hf
   by_cases hi:i%2=0
   ·rw [if_pos hi,ko,ko]
    by_cases hj:j%2=0
    ·rw [if_pos hj,if_pos hj,e1]
     by_cases hij:j=i
     ·subst hij;simp
     ·rw [if_neg (by omega),if_neg (by omega)]
    ·rw [if_neg hj,if_neg hj,if_neg (by omega)]
   ·rw [if_neg hi,ko,ko]
    by_cases hj:j%2=0
    ·rw [if_pos hj,if_pos hj,if_neg (by omega)]
    ·rw [if_neg hj,if_neg hj,e2]
     by_cases hij:j=i
     ·subst hij;simp
     ·rw [if_neg (by omega),if_neg (by omega)]
theorem QL {α β:Type}:∀(l:List α) (k:List α→β),jc9 l k=k l
 | [],k=>rfl
 | x::l,k=>by simp [jc9,QL l]
theorem JD {β:Type} (n:Nat) (k:Nat→β):Z7 n k=k n:=by cases n <;> rfl
theorem jf8 {β:Type} (n:Int) (k:Int→β):jf3 n k=k n:=by cases n <;> simp [jf3,JD]
theorem jf9 {β:Type} (b:Bool) (k:Bool→β):jjQ b k=k b:=by cases b <;> rfl
theorem jad {β:Type} (a:At) (k:At→β):jda a k=k a:=by cases a <;> simp [jda,jf8,jf9]
theorem XT {β:Type}:∀(l:List At) (k:List At→β),YN l k=k l
 | [],k=>rfl
 | x::l,k=>by simp [YN,XT l,jad]
theorem XU {β:Type} (a:V1) (k:V1→β):YO a k=k a:=by cases a <;> simp [YO,jad,XT]
theorem XV {β:Type}:∀(l:List V1) (k:List V1→β),YP l k=k l
 | [],k=>rfl
 | x::l,k=>by simp [YP,XV l,XU]
theorem JE {β:Type} (z:Bool) (v:LV) (k:LV→β):jdb z v k=k v:=by
 cases z <;> cases v <;> simp [jdb,XU,XV]
theorem jde {β:Type}:∀(m:Mem) (i:Nat) (s:Option Blk) (k:Mem→β),jhl m i s k=k (jdx m i s)
 | [],_,_,_=>rfl
 | (j,b)::m,i,s,k=>by
  simp only [jhl,jdx]
  cases Nat.beq j i
  ·simp [jde m]
  ·cases s <;> rfl
theorem jm (j:Nat) (b:Blk) (m:Mem) (i:Nat):getM ((j,b)::m) i=if i=j then some b else getM m i:=by
 simp only [getM,kX]
 by_cases h:j=i
 ·simp [h]
 ·rw [if_neg (fun e=>h e.symm)];simp [h]
def uniq:Mem→Prop
 | []=>True
 | (j,_)::m=>getM m j=none∧uniq m
theorem QM:∀(m:Mem) (i:Nat) (s:Option Blk) (k:Nat),uniq m→(getM m i).isSome→getM (jdx m i s) k=if k=i then s else getM m k
 | [],i,s,k,_,h=>by simp [getM] at h
 | (j,b)::m,i,s,k,hu,h=>by
  simp only [jdx,kX]
  by_cases hji:j=i
  ·subst hji
   cases s with
   | some c=>
    simp only [decide_true]
    rw [jm,jm]
    by_cases hk:k=j <;> simp [hk]
   | none=>
    simp only [decide_true]
    rw [jm]
    by_cases hk:k=j
    ·subst hk;simp [hu.1]
    ·simp [hk]
  ·simp only [hji,decide_false]
   rw [jm,jm]
   rw [jm,if_neg (fun e=>hji e.symm)] at h
   rw [QM m i s k hu.2 h]
   by_cases hk:k=j
   ·subst hk;simp [hji]
   ·simp [hk]
theorem QN:∀(m:Mem) (i:Nat) (s:Option Blk),uniq m→uniq (jdx m i s)
 | [],i,s,_=>trivial
 | (j,b)::m,i,s,hu=>by
  simp only [jdx,kX]
  by_cases hji:j=i
  ·cases s with
   | some c=>simpa [hji] using ⟨by simpa [hji] using hu.1,hu.2⟩
   | none=>simpa [hji] using hu.2
  ·simp only [hji,decide_false]
   refine ⟨?_,QN m i s hu.2⟩
   by_cases h:(getM m i).isSome
   ·rw [QM m i s j hu.2 h,if_neg hji];exact hu.1
   ·have:∀(m:Mem),¬(getM m i).isSome=true→jdx m i s=m:=by
     intro m
     induction m with
     | nil=>intro _;rfl
     | cons x m ih=>
      obtain ⟨j',b'⟩:=x
      intro hn
      rw [jm] at hn
      by_cases hj:i=j'
      ·simp [hj] at hn
      ·rw [if_neg hj] at hn
       simp only [jdx,kX]
       rw [decide_eq_false (fun e=>hj e.symm),ih hn]
    rw [this m h];exact hu.1
end Go.Lr

/- The local evaluator's operations on numbers, against the model's. -/
namespace Go.Lr
theorem jjU (n:Int):w64 n=IntKind.i64.wrap n:=by
 rw [IntKind.wrap_i64];unfold w64;omega
theorem jjV (n:Int):u64 n=IntKind.u64.wrap n:=by
 unfold u64 IntKind.wrap
 simp [IntKind.bits,IntKind.signed]
theorem jbF (k:IntKind) (n:Int):wr k n=k.wrap n:=by
 cases k <;> simp [wr,jjU,jjV]
theorem X3 {k l:IntKind}:Qh k l=true→k=l:=by
 cases k <;> cases l <;> simp [Qh,jkk,kX]
theorem jgb (n:Nat):jk n=(2:Int) ^ n:=by
 unfold jk
 rw [show Nat.pow 2 n=2 ^ n from rfl]
 simp
section
variable {P:Program} {E:Env} {τ:Nat→LV} {a:Act} {w:World}
theorem jW (hτ:∀t,a.eval (.tmp t)=(τ t).den E) {x:Operand} {v:LV} (h:ev τ x=some v):a.eval x=v.den E:=by
 cases x with
 | tmp t=>simp only [ev,Option.some.injEq] at h;subst h;exact hτ t
 | const c=>
  simp only [ev] at h
  split at h
  ·rename_i y hy;cases h;exact ((xh hy).1 E).symm
  ·cases h
 | func f=>cases h;rfl
 | global g=>cases h
theorem yJ {p:Nat→Bool} (hp:∀t,(τ t).ok p=true) {x:Operand} {v:LV} (h:ev τ x=some v):v.ok p=true:=by
 cases x with
 | tmp t=>simp only [ev,Option.some.injEq] at h;subst h;exact hp t
 | const c=>
  simp only [ev] at h
  split at h
  ·rename_i y hy;cases h;exact (xh hy).2 p
  ·cases h
 | func f=>cases h;rfl
 | global g=>cases h
theorem JL (hτ:∀t,a.eval (.tmp t)=(τ t).den E):∀{xs:List Operand} {l:List LV},evs τ xs=some l→xs.map a.eval=l.map (LV.den E)
 | [],l,h=>by cases h;rfl
 | x::xs,l,h=>by
  simp only [evs] at h
  split at h
  ·rename_i v r hv hr
   cases h
   simp [jW hτ hv,JL hτ hr]
  ·cases h
theorem jgc {p:Nat→Bool} (hp:∀t,(τ t).ok p=true):∀{xs:List Operand} {l:List LV},evs τ xs=some l→∀v∈l,v.ok p=true
 | [],l,h=>by cases h;simp
 | x::xs,l,h=>by
  simp only [evs] at h
  split at h
  ·rename_i v r hv hr
   cases h
   simp only [List.mem_cons,forall_eq_or_imp]
   exact ⟨yJ hp hv,jgc hp hr⟩
  ·cases h
theorem zg (hτ:∀t,a.eval (.tmp t)=(τ t).den E):∀{xs:List (Nat×Operand)} {l:List (Nat×LV)},yi τ xs=some l→
  xs.map (fun (i,x)=>(i,a.eval x))=l.map fun q=>(q.1,q.2.den E)
 | [],l,h=>by cases h;rfl
 | (i,x)::xs,l,h=>by
  simp only [yi] at h
  split at h
  ·rename_i v r hv hr
   cases h
   simp [jW hτ hv,zg hτ hr]
  ·cases h
theorem zI {p:Nat→Bool} (hp:∀t,(τ t).ok p=true):∀{xs:List (Nat×Operand)} {l:List (Nat×LV)},yi τ xs=some l→∀v∈l,v.2.ok p=true
 | [],l,h=>by cases h;simp
 | (i,x)::xs,l,h=>by
  simp only [yi] at h
  split at h
  ·rename_i v r hv hr
   cases h
   simp only [List.mem_cons,forall_eq_or_imp]
   exact ⟨yJ hp hv,zI hp hr⟩
  ·cases h
structure Pur (P:Program) (E:Env) (w:World) (s:Sem Value) (d:Dl):Prop where
 wr:d.wr=[]
 nw:d.nw=[]
 run:(∀c∈d.cs,c.1=c.2)→s.run P w = .ok (d.val.den E) w
theorem jK {s:Sem Value} {x:At} {d:Dl} (h:val1 x=some d) (hs:s.run P w = .ok (x.den E) w):Pur P E w s d:=by
 cases h;exact ⟨rfl,rfl,fun _=>hs⟩
theorem YY {s:Sem Value} {kn b:Bool} {x:At} {d:Dl} (h:(ask kn b false fun cs=>some ⟨.v (.one x),[],[],[],cs⟩)=some d)
  (hs:b=false→s.run P w = .ok (x.den E) w):Pur P E w s d:=by
 unfold ask at h
 cases kn <;> cases b <;> simp at h
 ·cases h;exact ⟨rfl,rfl,fun _=>hs rfl⟩
 ·cases h;exact ⟨rfl,rfl,fun hc=>absurd (hc (true,false) (by simp)) (by simp)⟩
 ·cases h;exact ⟨rfl,rfl,fun _=>hs rfl⟩
theorem KB (x:Int):(u64 x).toNat<18446744073709551616:=by unfold u64;omega
theorem jbG (x:Int):(BitVec.ofInt 64 x).toNat=(u64 x).toNat:=by
 rw [BitVec.toNat_ofInt];rfl
theorem jit {op:BinOp} {x y r:Nat} (h:jhm op x y=some r) (hx:x<18446744073709551616) (hy:y<18446744073709551616):r<18446744073709551616:=by
 have hx':x<2 ^ 64:=hx
 have hy':y<2 ^ 64:=hy
 show r<2 ^ 64
 cases op <;> simp only [jhm,Option.some.injEq,reduceCtorEq] at h <;> subst h
 ·exact Nat.and_lt_two_pow x hy'
 ·exact Nat.or_lt_two_pow hx' hy'
 ·exact Nat.xor_lt_two_pow hx' hy'
theorem X4 {op:BinOp} {k:IntKind} {x y r:Int} (h:jdy op k x y=some r):(Op.intBits op k x y).run P w = .ok (.int k r) w:=by
 unfold jdy at h
 split at h
 ·rename_i n hn
  have hlt:=jit hn (KB x) (KB y)
  have hb:(Op.intBits op k x y).run P w = .ok (.int k (k.wrap (n:Int))) w∨k.bits≠64:=by
   by_cases hk:k.bits=64
   ·left
    cases op <;> simp only [jhm,Option.some.injEq,reduceCtorEq] at hn <;> subst hn <;>
     (unfold Op.intBits;simp only [Sem.run_pure];rw [hk];simp only [BitVec.toNat_and,BitVec.toNat_or,BitVec.toNat_xor,jbG];rfl)
   ·right;exact hk
  cases k <;> simp only [Option.some.injEq,reduceCtorEq] at h
  ·subst h
   rcases hb with hb | hb
   ·rw [hb,←jjU];rfl
   ·exact absurd rfl hb
  ·subst h
   rcases hb with hb | hb
   ·rw [hb,←jjV]
    have:u64 (n:Int)=Int.ofNat n:=by unfold u64;simp;omega
    rw [this]
   ·exact absurd rfl hb
 ·cases h
theorem jgd {op:BinOp} {k:IntKind} {x y:Int} {kn:Bool} {d:Dl} (t:TypeId) (hop:op≠ .shl∧op≠ .shr) (h:jqB op k x y kn=some d):
  Pur P E w (binOp op t (.int k x) (.int k y)) d:=by
 cases op <;> simp only [jqB] at h <;> (try (exact absurd rfl hop.1)) <;> (try (exact absurd rfl hop.2))
 case add=>exact jK h (by simp [binOp,Op.intArith,At.den,jbF])
 case sub=>exact jK h (by simp [binOp,Op.intArith,At.den,jbF])
 case mul=>exact jK h (by simp [binOp,Op.intArith,At.den,jbF])
 case quo=>
  refine YY h fun hb=> ?_
  have hy:¬y=0:=by simpa using hb
  simp [binOp,Op.intDiv,At.den,jbF,hy]
 case rem=>
  refine YY h fun hb=> ?_
  have hy:¬y=0:=by simpa using hb
  simp [binOp,Op.intDiv,At.den,hy]
 case eql=>exact jK h (by simp [binOp,Op.intCmp,At.den])
 case neq=>exact jK h (by simp [binOp,Op.intCmp,At.den])
 case lss=>exact jK h (by simp [binOp,Op.intCmp,At.den])
 case leq=>exact jK h (by simp [binOp,Op.intCmp,At.den])
 case gtr=>exact jK h (by simp [binOp,Op.intCmp,At.den])
 case geq=>exact jK h (by simp [binOp,Op.intCmp,At.den])
 all_goals
  split at h
  ·rename_i r hr
   exact jK h (by simpa [binOp,At.den] using X4 hr)
  ·cases h
theorem QU {op:BinOp} {k k':IntKind} {x y:Int} {kn:Bool} {d:Dl} (t:TypeId) (h:jco op k x y kn=some d):
  Pur P E w (binOp op t (.int k x) (.int k' y)) d:=by
 cases op <;> simp only [jco,reduceCtorEq] at h
 ·refine YY h fun hb=> ?_
  have hy:¬y<0:=by simpa using hb
  simp [binOp,Op.shift,At.den,jbF,hy,jgb]
 ·refine YY h fun hb=> ?_
  have hy:¬y<0:=by simpa using hb
  have:x.fdiv (2 ^ min y.toNat k.bits)=x/2 ^ min y.toNat k.bits:=Int.fdiv_eq_ediv_of_nonneg _ (Int.pow_nonneg (by decide))
  simp [binOp,Op.shift,At.den,hy,jgb,this]
theorem jd3 {op:BinOp} {k k':IntKind} {x y:Int} {kn:Bool} {d:Dl} (t:TypeId) (h:jeS op k x k' y kn=some d):
  Pur P E w (binOp op t (.int k x) (.int k' y)) d:=by
 unfold jeS at h
 split at h
 ·exact QU t h
 ·exact QU t h
 ·rename_i h1 h2
  split at h
  ·rename_i hk
   have:=X3 hk
   subst this
   exact jgd t ⟨fun e=>h1 e,fun e=>h2 e⟩ h
  ·cases h
theorem jiu {op:UnOp} {x:LV} {d:Dl} (h:unD op x=some d):Pur P E w (Op.unary op (x.den E)) d:=by
 unfold unD at h
 split at h
 ·exact jK h (by simp [LV.den,V1.den,At.den,Op.unary,Op.intArith,jbF])
 ·rename_i k n
  split at h
  ·rename_i r hr
   refine jK h ?_
   simp only [LV.den,V1.den,At.den,Op.unary]
   have hk:jdy .xor k (if k.signed then -1 else k.max) n=some r:=by
    unfold jdy at hr ⊢
    cases k <;> simp [IntKind.signed] at hr ⊢ <;> exact hr
   exact X4 hk
  ·cases h
 ·exact jK h (by simp [LV.den,V1.den,At.den,Op.unary])
 ·cases h
theorem jd4 {t u:TypeId} {x:LV} {d:Dl} (h:jeR P t u x=some d):Pur P E w (convert t u (x.den E)) d:=by
 unfold jeR at h
 split at h
 ·rename_i ht hu
  refine jK h ?_
  simp [LV.den,V1.den,At.den,convert,run_underlying ht,run_underlying hu,Conv.intToInt,jbF]
 ·cases h
end
end Go.Lr

/- The local evaluator's operations on structs, arrays, addresses, slices, against the model's. -/
namespace Go.Lr
theorem JM:∀{l:List At} {o n:Nat} {r:List At},Xh l o n=some r→r=(l.drop o).take n∧o+n≤l.length
 | l,0,0,r,h=>by cases l <;> (simp only [Xh] at h;cases h;simp)
 | [],0,n+1,r,h=>by simp [Xh] at h
 | a::l,0,n+1,r,h=>by
  simp only [Xh] at h
  split at h
  ·rename_i r' hr
   cases h
   obtain ⟨h1,h2⟩:=JM hr
   subst h1
   simp at h2 ⊢;omega
  ·cases h
 | [],o+1,n,r,h=>by simp [Xh] at h
 | a::l,o+1,n,r,h=>by
  simp only [Xh] at h
  obtain ⟨h1,h2⟩:=JM h
  subst h1
  simp;omega
theorem jdg:∀{l:List At} {o:Nat},atS l o=l[o]?
 | [],_=>by simp [atS]
 | a::l,0=>by simp [atS]
 | a::l,o+1=>by simp [atS,jdg (l:=l)]
theorem jae:∀(q:Nat) (l:List At) (o n:Nat),(match jaL q l with | some r=>Xh r o n | none=>none)=Xh l (16*q+o) n
 | 0,l,o,n=>by simp only [jaL];rw [show 16*0+o=o by omega]
 | q+1,l,o,n=>by
  rw [show 16*(q+1)+o=(16*q+o)+16 by omega]
  match l with
  | _::_::_::_::_::_::_::_::_::_::_::_::_::_::_::_::r=>exact jae q r o n
  | [_,_,_,_,_,_,_,_,_,_,_,_,_,_,_]=>rfl
  | [_,_,_,_,_,_,_,_,_,_,_,_,_,_]=>rfl
  | [_,_,_,_,_,_,_,_,_,_,_,_,_]=>rfl
  | [_,_,_,_,_,_,_,_,_,_,_,_]=>rfl
  | [_,_,_,_,_,_,_,_,_,_,_]=>rfl
  | [_,_,_,_,_,_,_,_,_,_]=>rfl
  | [_,_,_,_,_,_,_,_,_]=>rfl
  | [_,_,_,_,_,_,_,_]=>rfl
  | [_,_,_,_,_,_,_]=>rfl
  | [_,_,_,_,_,_]=>rfl
  | [_,_,_,_,_]=>rfl
  | [_,_,_,_]=>rfl
  | [_,_,_]=>rfl
  | [_,_]=>rfl
  | [_]=>rfl
  | []=>rfl
theorem jdh:∀(q:Nat) (l:List At) (o:Nat),(match jaL q l with | some r=>atS r o | none=>none)=atS l (16*q+o)
 | 0,l,o=>by simp only [jaL];rw [show 16*0+o=o by omega]
 | q+1,l,o=>by
  rw [show 16*(q+1)+o=(16*q+o)+16 by omega]
  match l with
  | _::_::_::_::_::_::_::_::_::_::_::_::_::_::_::_::r=>exact jdh q r o
  | [_,_,_,_,_,_,_,_,_,_,_,_,_,_,_]=>rfl
  | [_,_,_,_,_,_,_,_,_,_,_,_,_,_]=>rfl
  | [_,_,_,_,_,_,_,_,_,_,_,_,_]=>rfl
  | [_,_,_,_,_,_,_,_,_,_,_,_]=>rfl
  | [_,_,_,_,_,_,_,_,_,_,_]=>rfl
  | [_,_,_,_,_,_,_,_,_,_]=>rfl
  | [_,_,_,_,_,_,_,_,_]=>rfl
  | [_,_,_,_,_,_,_,_]=>rfl
  | [_,_,_,_,_,_,_]=>rfl
  | [_,_,_,_,_,_]=>rfl
  | [_,_,_,_,_]=>rfl
  | [_,_,_,_]=>rfl
  | [_,_,_]=>rfl
  | [_,_]=>rfl
  | [_]=>rfl
  | []=>rfl
theorem jdi (l:List At) (o n:Nat):cut l o n=Xh l o n:=by
 unfold cut
 split
 ·rfl
 ·refine (jae (o/16) l (o%16) n).trans ?_
  rw [Nat.div_add_mod]
theorem jge (l:List At) (o:Nat):atL l o=atS l o:=by
 unfold atL
 split
 ·rfl
 ·refine (jdh (o/16) l (o%16)).trans ?_
  rw [Nat.div_add_mod]
theorem yu {l:List At} {o n:Nat} {r:List At} (h:cut l o n=some r):r=(l.drop o).take n∧o+n≤l.length:=by
 rw [jdi] at h
 exact JM h
theorem zJ {l:List At} {o:Nat}:atL l o=l[o]? :=by rw [jge,jdg]
theorem xa:∀(l:List At),len l=l.length
 | []=>rfl
 | a::l=>by simp [len,xa l]
theorem jbH:∀(l:List Blk),jaO l=l.length
 | []=>rfl
 | a::l=>by simp [jaO,jbH l]
theorem jbI:∀(l:List LV),jmG l=l.length
 | []=>rfl
 | a::l=>by simp [jmG,jbI l]
theorem qy:∀{l:List Field} {o:Nat},xb l o=l[o]?
 | [],_=>by simp [xb]
 | a::l,0=>by simp [xb]
 | a::l,o+1=>by simp [xb,qy (l:=l)]
theorem allCell_iff:∀{l:List At},kK l=true↔∀a∈l,a.cell=true
 | []=>by simp [kK]
 | a::l=>by
  simp only [kK,List.mem_cons,forall_eq_or_imp]
  cases h:a.cell <;> simp [allCell_iff (l:=l)]
theorem JN:∀{l:List At} {o:Nat} {vs r:List At},Qg l o vs=some r→r=l.take o++vs++l.drop (o+vs.length)∧o+vs.length≤l.length
 | l,0,[],r,h=>by cases l <;> (simp only [Qg] at h;cases h;simp)
 | [],0,v::vs,r,h=>by simp [Qg] at h
 | a::l,0,v::vs,r,h=>by
  simp only [Qg] at h
  split at h
  ·rename_i r' hr
   cases h
   obtain ⟨h1,h2⟩:=JN hr
   subst h1
   simp at h2 ⊢;omega
  ·cases h
 | [],o+1,vs,r,h=>by cases vs <;> simp [Qg] at h
 | a::l,o+1,vs,r,h=>by
  have h':∃r',Qg l o vs=some r'∧r=a::r':=by
   cases vs <;>
   ·simp only [Qg] at h
    split at h
    ·rename_i r' hr
     cases h
     exact ⟨r',hr,rfl⟩
    ·cases h
  obtain ⟨r',hr,rfl⟩:=h'
  obtain ⟨h1,h2⟩:=JN hr
  subst h1
  refine ⟨?_,by simp only [List.length_cons];omega⟩
  rw [show o+1+vs.length=(o+vs.length)+1 by omega]
  simp
theorem qz {vs:List At}:∀{l:List At} {o:Nat},l.length<o→Qg l o vs=none
 | [],o+1,_=>by cases vs <;> rfl
 | a::l,o+1,h=>by
  have:=qz (vs:=vs) (l:=l) (o:=o) (by simpa using h)
  cases vs <;> simp only [Qg,this]
theorem jaf (a:At) (l:List At) (o:Nat) (vs:List At):Qg (a::l) (o+1) vs=(match Qg l o vs with | some r=>some (a::r) | none=>none):=by
 cases vs <;> rfl
theorem jgf:∀(q:Nat) (l:List At) (o:Nat) (vs:List At),jng q l o vs=Qg l (8*q+o) vs
 | 0,l,o,vs=>by simp only [jng];rw [show 8*0+o=o by omega]
 | q+1,l,o,vs=>by
  rw [show 8*(q+1)+o=(8*q+o)+8 by omega]
  match l with
  | a0::a1::a2::a3::a4::a5::a6::a7::r=>
   simp only [jng,jgf q r o vs,jaf]
   cases Qg r (8*q+o) vs <;> rfl
  | [_,_,_,_,_,_,_]=>exact (qz (by simp;try omega)).symm
  | [_,_,_,_,_,_]=>exact (qz (by simp;try omega)).symm
  | [_,_,_,_,_]=>exact (qz (by simp;try omega)).symm
  | [_,_,_,_]=>exact (qz (by simp;try omega)).symm
  | [_,_,_]=>exact (qz (by simp;try omega)).symm
  | [_,_]=>exact (qz (by simp;try omega)).symm
  | [_]=>exact (qz (by simp;try omega)).symm
  | []=>exact (qz (by simp;try omega)).symm
theorem jgg (l:List At) (o:Nat) (vs:List At):lay l o vs=Qg l o vs:=by
 unfold lay
 split
 ·rfl
 ·rw [jgf,Nat.div_add_mod]
theorem zK {l:List At} {o:Nat} {vs r:List At} (h:lay l o vs=some r):r=l.take o++vs++l.drop (o+vs.length)∧o+vs.length≤l.length:=by
 rw [jgg] at h
 exact JN h
theorem jag {p:Nat→Bool} {l:List At} {o:Nat} {vs r:List At} (h:lay l o vs=some r) (h1:okL p l=true) (h2:okL p vs=true):okL p r=true:=by
 obtain ⟨e,_⟩:=zK h
 subst e
 rw [okL_iff] at *
 intro a ha
 simp only [List.mem_append] at ha
 rcases ha with (ha | ha) | ha
 ·exact h1 a (List.mem_of_mem_take ha)
 ·exact h2 a ha
 ·exact h1 a (List.mem_of_mem_drop ha)
theorem jah {p:Nat→Bool} {l:List At} {o n:Nat} {r:List At} (h:cut l o n=some r) (h1:okL p l=true):okL p r=true:=by
 obtain ⟨e,_⟩:=yu h
 subst e
 rw [okL_iff] at *
 exact fun a ha=>h1 a (List.mem_of_mem_drop (List.mem_of_mem_take ha))
section
variable {P:Program} {E:Env} {τ:Nat→LV} {a:Act} {w:World}
theorem jD {t:TypeId} {n:Nat} (h:kB P t=some n) (w:World):(sizeOf t).run P w = .ok n w:=by
 unfold kB at h
 split at h
 ·rename_i i hi
  cases h
  simp [sizeOf,typeInfo,hi]
 ·cases h
theorem JO {t:TypeId} {b:Bool} (h:jqA P t=some b) (w:World):(isAgg t).run P w = .ok b w:=by
 unfold jqA at h
 split at h
 ·rename_i hu;cases h;simp [isAgg,run_underlying hu]
 ·rename_i hu;cases h;simp [isAgg,run_underlying hu]
 ·rename_i d h1 h2 hu
  cases h
  simp only [isAgg,Sem.run_bind,run_underlying hu,Result.andThen_ok]
  cases d <;> simp
  all_goals first | exact absurd hu (h2 _ _) | exact absurd hu (h1 _)
 ·cases h
theorem xk {t:TypeId} {l:List At} {o:Nat} {x:V1} (h:xp P t l o=some x) (w:World):
  (part t (l.map (At.den E)).toArray o).run P w = .ok (x.den E) w:=by
 unfold xp at h
 split at h
 ·rename_i ha
  split at h
  ·rename_i n hn
   split at h
   ·rename_i r hr
    cases h
    obtain ⟨e,hl⟩:=yu hr
    simp only [part,Sem.run_bind,JO ha,Result.andThen_ok,if_true,jD hn,Sem.run_pure,V1.den]
    subst e
    congr 2
    simp [List.map_take,List.map_drop,List.take_drop]
   ·cases h
  ·cases h
 ·rename_i ha
  split at h
  ·rename_i y hy
   cases h
   rw [zJ] at hy
   simp only [part,Sem.run_bind,JO ha,Result.andThen_ok,V1.den]
   have:(l.map (At.den E)).toArray[o]? = some (y.den E):=by simp [hy]
   simp [this]
  ·cases h
 ·cases h
theorem KZ {p:Nat→Bool} {t:TypeId} {l:List At} {o:Nat} {x:V1} (h:xp P t l o=some x) (hl:okL p l=true):x.ok p=true:=by
 unfold xp at h
 split at h
 ·split at h
  ·split at h
   ·rename_i r hr
    cases h
    exact jah hr hl
   ·cases h
  ·cases h
 ·split at h
  ·rename_i y hy
   cases h
   rw [zJ] at hy
   exact okL_iff.1 hl y (List.mem_of_getElem? hy)
  ·cases h
 ·cases h
theorem Pur.of_run {s:Sem Value} {x:LV} (h:s.run P w = .ok (x.den E) w):Pur P E w s (.pure x):=⟨rfl,rfl,fun _=>h⟩
theorem jbJ {t:TypeId} {x:LV} {i:Nat} {d:Dl} (h:Zr P t x i=some d):Pur P E w (Instr.field t (x.den E) i) d:=by
 unfold Zr at h
 split at h
 ·rename_i fs l hu
  split at h
  ·rename_i f hf
   split at h
   ·rename_i v hv
    cases h
    rw [qy] at hf
    refine .of_run ?_
    have hf':fs[i]? = some f:=by simpa using hf
    have hpv:=xk (E:=E) hv w
    simp [Instr.field,run_underlying hu,hf',LV.den,V1.den,asAgg]
    exact hpv
   ·cases h
  ·cases h
 ·cases h
theorem K8 {i:Int} {n k:Nat} (h:inB i n=some k):i=(k:Int)∧k<n:=by
 unfold inB at h
 split at h
 ·split at h
  ·rename_i hk;cases h;rw [zT] at hk;exact ⟨rfl,by simpa using hk⟩
  ·cases h
 ·cases h
theorem jbK {t:TypeId} {x ix:LV} {d:Dl} (h:Zs P t x ix=some d):Pur P E w (Instr.index t (x.den E) (ix.den E)) d:=by
 unfold Zs at h
 split at h
 ·rename_i n e l k i hu
  split at h
  ·rename_i q s hq hs
   split at h
   ·rename_i v hv
    cases h
    obtain ⟨rfl,hlt⟩:=K8 hq
    refine .of_run ?_
    have hc:(0:Int)≤(q:Int)∧(q:Int)<(n:Int):=⟨by omega,by omega⟩
    have hpv:=xk (E:=E) hv w
    simp [Instr.index,run_underlying hu,LV.den,V1.den,At.den,asIntOf,hlt,jD hs]
    exact hpv
   ·cases h
  ·cases h
 ·cases h
theorem qM:∀{l:List V1} {i:Nat} {d:Dl},extractD.nth l i=some d→∃v,l[i]? = some v∧d = .pure (.v v)
 | [],_,_,h=>by simp [extractD.nth] at h
 | v::l,0,d,h=>by simp only [extractD.nth] at h;cases h;exact ⟨v,rfl,rfl⟩
 | v::l,i+1,d,h=>by
  simp only [extractD.nth] at h
  obtain ⟨u,h1,h2⟩:=qM h
  exact ⟨u,by simpa using h1,h2⟩
theorem YZ {x:LV} {i:Nat} {d:Dl} (h:extractD x i=some d):Pur P E w (Instr.extract (x.den E) i) d:=by
 unfold extractD at h
 split at h
 ·obtain ⟨v,hv,rfl⟩:=qM h
  refine .of_run ?_
  simp [Instr.extract,LV.den,hv]
 ·cases h
theorem j5 (b o n:Nat):(⟨b,o,none⟩:Addr).add n=⟨b,o+n,none⟩:=by
 unfold Addr.add
 split <;> simp_all
theorem QV {t:TypeId} {x:LV} {i:Nat} {d:Dl} (h:xT P t x i=some d):Pur P E w (Instr.fieldAt t (x.den E) i) d:=by
 unfold xT at h
 split at h
 ·rename_i fs b o hu
  split at h
  ·rename_i f hf
   split at h
   ·rename_i n hn
    refine jK h ?_
    rw [qy] at hf
    have hf':fs[i]? = some f:=by simpa using hf
    simp [Instr.fieldAt,run_underlying hu,hf',LV.den,V1.den,At.den,Instr.sureAddr,fieldPlace,jD hn,j5]
   ·cases h
  ·cases h
 ·rename_i fs b o hu
  split at h
  ·rename_i f hf
   split at h
   ·rename_i n hn
    refine jK h ?_
    rw [qy] at hf
    have hf':fs[i]? = some f:=by simpa using hf
    simp [Instr.fieldAt,run_underlying hu,hf',LV.den,V1.den,At.den,Instr.sureAddr,fieldPlace,jD hn,j5]
   ·cases h
  ·cases h
 ·cases h
theorem jai {t:TypeId} {x:LV} {d:Dl} (h:Qm P t x=some d):Pur P E w (Instr.arrayAt t (x.den E)) d:=by
 unfold Qm at h
 split at h
 ·rename_i n e b o m c hu
  split at h
  ·rename_i hq
   have hle:n≤m:=Nat.le_of_ble_eq_true hq
   have hn:¬m<n:=by omega
   refine jK h ?_
   simp [Instr.arrayAt,run_underlying hu,LV.den,V1.den,At.den,hn]
  ·cases h
 ·cases h
theorem QW {t:TypeId} {x ix:LV} {d:Dl} (h:xU P t x ix=some d):Pur P E w (Instr.indexAt t (x.den E) (ix.den E)) d:=by
 unfold xU at h
 split at h
 ·rename_i n e b o k i hu
  split at h
  ·rename_i q s hq hs
   obtain ⟨rfl,hlt⟩:=K8 hq
   refine jK h ?_
   simp [Instr.indexAt,run_underlying hu,LV.den,V1.den,At.den,asIntOf,Instr.sureAddr,hlt,jD hs,j5]
  ·cases h
 ·rename_i e b o n c k i hu
  split at h
  ·rename_i q s hq hs
   obtain ⟨rfl,hlt⟩:=K8 hq
   refine jK h ?_
   simp [Instr.indexAt,run_underlying hu,LV.den,V1.den,At.den,asIntOf,hlt,jD hs,j5]
  ·cases h
 ·rename_i e b n k i hu
  split at h
  ·rename_i q s hq hs
   obtain ⟨rfl,hlt⟩:=K8 hq
   refine jK h ?_
   simp [Instr.indexAt,run_underlying hu,LV.den,V1.den,At.den,asIntOf,hlt,jD hs,j5]
  ·cases h
 ·rename_i e b o n c k i hu
  split at h
  ·rename_i s hs
   cases h
   refine ⟨rfl,rfl,fun hc=> ?_⟩
   have:=hc _ (List.mem_singleton.2 rfl)
   simp only [Bool.and_eq_true,decide_eq_true_eq] at this
   obtain ⟨q,rfl⟩:=Int.eq_ofNat_of_zero_le this.1
   have hlt:q<n:=by omega
   simp [Instr.indexAt,run_underlying hu,LV.den,V1.den,At.den,asIntOf,hlt,jD hs,j5]
  ·cases h
 ·rename_i n e b o k i hu
  split at h
  ·rename_i s hs
   cases h
   refine ⟨rfl,rfl,fun hc=> ?_⟩
   have:=hc _ (List.mem_singleton.2 rfl)
   simp only [Bool.and_eq_true,decide_eq_true_eq] at this
   obtain ⟨q,rfl⟩:=Int.eq_ofNat_of_zero_le this.1
   have hlt:q<n:=by omega
   simp [Instr.indexAt,run_underlying hu,LV.den,V1.den,At.den,asIntOf,Instr.sureAddr,hlt,jD hs,j5]
  ·cases h
 ·rename_i e b n k i hu
  split at h
  ·rename_i s hs
   cases h
   refine ⟨rfl,rfl,fun hc=> ?_⟩
   have:=hc _ (List.mem_singleton.2 rfl)
   simp only [Bool.and_eq_true,decide_eq_true_eq] at this
   obtain ⟨q,rfl⟩:=Int.eq_ofNat_of_zero_le this.1
   have hlt:q<n:=by omega
   simp [Instr.indexAt,run_underlying hu,LV.den,V1.den,At.den,asIntOf,hlt,jD hs,j5]
  ·cases h
 ·cases h
theorem Jb {dflt:Nat} {i:Int} (h:Kq none dflt=some i):i=dflt:=by
 simp only [Kq,Option.some.injEq] at h;exact h.symm
theorem Jc {v:LV} {dflt:Nat} {i:Int} (h:Kq (some v) dflt=some i):∃k,v = .v (.one (.int k i)):=by
 unfold Kq at h
 split at h
 ·rename_i he;cases he
 ·rename_i k q he;cases he;cases h;exact ⟨k,rfl⟩
 ·cases h
theorem Kb {lo hi:Option LV} {n c h l:Nat} (hh:Kq hi n=some (h:Int)) (hl:Kq lo 0=some (l:Int)) (h1:l≤h) (h2:h≤c):
  (Instr.sliceBounds true n c (lo.map (LV.den E)) (hi.map (LV.den E)) none).run P w = .ok (l,h,c) w:=by
 cases hi with
 | none=>
  have:=Jb hh
  have:h=n:=by omega
  subst this
  cases lo with
  | none=>have:=Jb hl;have:l=0:=by omega
          subst this;simp [Instr.sliceBounds]
  | some v=>
   obtain ⟨i,rfl⟩:=Jc hl
   simp [Instr.sliceBounds,Instr.sliceBound,LV.den,V1.den,At.den,asIntOf,h1]
 | some u=>
  obtain ⟨i',rfl⟩:=Jc hh
  cases lo with
  | none=>have:=Jb hl;have:l=0:=by omega
          subst this;simp [Instr.sliceBounds,Instr.sliceBound,LV.den,V1.den,At.den,asIntOf,h2]
  | some v=>
   obtain ⟨i,rfl⟩:=Jc hl
   simp [Instr.sliceBounds,Instr.sliceBound,LV.den,V1.den,At.den,asIntOf,h1,h2]
theorem kQ {v:LV} {dflt n k:Nat} (h:kl (some v) dflt n=some k):∃i,v = .v (.one (.int i (k:Int)))∧k≤n:=by
 unfold kl at h
 split at h
 ·rename_i he;cases he
 ·rename_i i q he
  cases he
  split at h
  ·rename_i hk
   cases h
   rw [Kx] at hk
   exact ⟨i,rfl,by simpa using hk⟩
  ·cases h
 ·cases h
theorem kF (b:Bool) {lo hi:Option LV} {n c h l:Nat} (hh:kl hi n c=some h) (hl:kl lo 0 h=some l):
  (Instr.sliceBounds b n c (lo.map (LV.den E)) (hi.map (LV.den E)) none).run P w = .ok (l,h,c) w:=by
 cases hi with
 | none=>
  simp only [kl,Option.some.injEq] at hh
  subst hh
  cases lo with
  | none=>simp only [kl,Option.some.injEq] at hl;subst hl;simp [Instr.sliceBounds]
  | some v=>
   obtain ⟨i,rfl,hle⟩:=kQ hl
   simp [Instr.sliceBounds,Instr.sliceBound,LV.den,V1.den,At.den,asIntOf,hle]
 | some u=>
  obtain ⟨i',rfl,hle'⟩:=kQ hh
  cases lo with
  | none=>simp only [kl,Option.some.injEq] at hl;subst hl;simp [Instr.sliceBounds,Instr.sliceBound,LV.den,V1.den,At.den,asIntOf,hle']
  | some v=>
   obtain ⟨i,rfl,hle⟩:=kQ hl
   simp [Instr.sliceBounds,Instr.sliceBound,LV.den,V1.den,At.den,asIntOf,hle,hle']
theorem jbL {t:TypeId} {x:LV} {lo hi:Option LV} {d:Dl} (h:Zt P t x lo hi=some d):
  Pur P E w (Instr.sliceAt t (x.den E) (lo.map (LV.den E)) (hi.map (LV.den E)) none) d:=by
 unfold Zt at h
 split at h
 ·rename_i n e b o hu
  split at h
  ·rename_i hh s hb hs
   split at h
   ·rename_i l hl
    have h1:=kF (P:=P) (E:=E) (w:=w) false hb hl
    split at h <;> rename_i hq <;> rw [kX] at hq <;> refine jK h ?_
    ·have hq':n=l:=by simpa using hq
     subst hq'
     simp [Instr.sliceAt,run_underlying hu,LV.den,V1.den,At.den,Instr.sureAddr,jD hs,h1]
    ·have hq':¬n=l:=by simpa using hq
     simp [Instr.sliceAt,run_underlying hu,LV.den,V1.den,At.den,Instr.sureAddr,jD hs,h1,hq',j5]
   ·cases h
  ·cases h
 ·rename_i e b o n c hu
  split at h
  ·rename_i hh s hb hs
   split at h
   ·rename_i l hl
    have h1:=kF (P:=P) (E:=E) (w:=w) true hb hl
    split at h <;> rename_i hq <;> rw [kX] at hq <;> refine jK h ?_
    ·have hq':c=l:=by simpa using hq
     subst hq'
     simp [Instr.sliceAt,Instr.slice,run_underlying hu,LV.den,V1.den,At.den,jD hs,h1]
    ·have hq':¬c=l:=by simpa using hq
     simp [Instr.sliceAt,Instr.slice,run_underlying hu,LV.den,V1.den,At.den,jD hs,h1,hq',j5]
   ·cases h
  ·cases h
 ·rename_i e b o n c hu
  split at h
  ·rename_i s hs
   unfold jaN at h
   split at h
   ·rename_i l' h' hl hh
    cases h
    refine ⟨rfl,rfl,fun hc=> ?_⟩
    have:=hc _ (List.mem_singleton.2 rfl)
    simp only [Bool.and_eq_true,decide_eq_true_eq] at this
    obtain ⟨l,rfl⟩:=Int.eq_ofNat_of_zero_le this.1
    obtain ⟨h,rfl⟩:=Int.eq_ofNat_of_zero_le (show 0≤h' by omega)
    have h1:=Kb (P:=P) (E:=E) (w:=w) hh hl (by omega) (by omega:h≤c)
    simp only [Int.toNat_natCast]
    by_cases hq:c=l
    ·subst hq
     simp [Instr.sliceAt,Instr.slice,run_underlying hu,LV.den,V1.den,At.den,jD hs,h1]
    ·simp [Instr.sliceAt,Instr.slice,run_underlying hu,LV.den,V1.den,At.den,jD hs,h1,hq,j5]
   ·cases h
  ·cases h
 ·rename_i e hu
  split at h
  ·rename_i hh s hb hs
   split at h
   ·rename_i l hl
    have h1:=kF (P:=P) (E:=E) (w:=w) true hb hl
    have h0:hh=0:=by
     cases hi with
     | none=>simp only [kl,Option.some.injEq] at hb;omega
     | some u=>obtain ⟨i,_,hle⟩:=kQ hb;omega
    refine jK h ?_
    simp [Instr.sliceAt,Instr.slice,run_underlying hu,LV.den,V1.den,At.den,jD hs,h1,h0]
   ·cases h
  ·cases h
 ·rename_i n e b o hu
  split at h
  ·rename_i hh s hb hs
   split at h
   ·rename_i l hl
    have h1:=kF (P:=P) (E:=E) (w:=w) false hb hl
    split at h <;> rename_i hq <;> rw [kX] at hq <;> refine jK h ?_
    ·have hq':n=l:=by simpa using hq
     subst hq'
     simp [Instr.sliceAt,run_underlying hu,LV.den,V1.den,At.den,Instr.sureAddr,jD hs,h1]
    ·have hq':¬n=l:=by simpa using hq
     simp [Instr.sliceAt,run_underlying hu,LV.den,V1.den,At.den,Instr.sureAddr,jD hs,h1,hq',j5]
   ·cases h
  ·cases h
 ·cases h
theorem jgh {t ty:TypeId} {x:LV} {d:Dl} (h:jnl P t x=some d):Pur P E w (Builtin.len_ #[t] ty #[x.den E]) d:=by
 unfold jnl at h
 split at h <;> (try cases h;done) <;> rename_i hu <;> refine jK h ?_ <;>
  simp [Builtin.len_,run_underlying hu,LV.den,V1.den,At.den,goInt]
theorem yv:∀{mx:Bool} {l:List LV} {k:IntKind} {x:Int} {d:Dl},kH mx k x l=some d→
  Pur P E w ((l.map (LV.den E)).foldlM (if mx then Builtin.max2 else Builtin.min2) (.int k x)) d
 | mx,[],k,x,d,h=>by
  simp only [kH] at h
  exact jK h (by simp [At.den])
 | mx,.v (.one (.int k' y))::l,k,x,d,h=>by
  cases mx
  ·simp only [kH] at h
   have:=yv h
   refine ⟨this.wr,this.nw,fun hc=> ?_⟩
   have:=this.run hc
   simp [LV.den,V1.den,At.den,Builtin.min2] at this ⊢
   exact this
  ·simp only [kH] at h
   have:=yv h
   refine ⟨this.wr,this.nw,fun hc=> ?_⟩
   have:=this.run hc
   simp [LV.den,V1.den,At.den,Builtin.max2] at this ⊢
   exact this
 | mx,.v (.one (.bool _))::l,k,x,d,h=>by simp [kH] at h
 | mx,.v (.one (.ptr _ _))::l,k,x,d,h=>by simp [kH] at h
 | mx,.v (.one .nilp)::l,k,x,d,h=>by simp [kH] at h
 | mx,.v (.one (.sl _ _ _ _))::l,k,x,d,h=>by simp [kH] at h
 | mx,.v (.one (.slu _ _))::l,k,x,d,h=>by simp [kH] at h
 | mx,.v (.one (.slx _ _ _ _))::l,k,x,d,h=>by simp [kH] at h
 | mx,.v (.one (.ptx _ _))::l,k,x,d,h=>by simp [kH] at h
 | mx,.v (.one .nilsl)::l,k,x,d,h=>by simp [kH] at h
 | mx,.v (.one (.slt _ _ _))::l,k,x,d,h=>by simp [kH] at h
 | mx,.v (.one (.slv _ _))::l,k,x,d,h=>by simp [kH] at h
 | mx,.v (.one (.fn _ _))::l,k,x,d,h=>by simp [kH] at h
 | mx,.v (.one (.opq _))::l,k,x,d,h=>by simp [kH] at h
 | mx,.v (.agg _)::l,k,x,d,h=>by simp [kH] at h
 | mx,.tup _::l,k,x,d,h=>by simp [kH] at h
theorem jgi {ts:Array TypeId} {ty:TypeId} {l:List LV} {d:Dl} (h:yO false l=some d):Pur P E w (Builtin.min_ ts ty (l.map (LV.den E)).toArray) d:=by
 unfold yO at h
 split at h
 ·have:=yv (P:=P) (E:=E) (w:=w) h
  simpa [Builtin.min_,LV.den,V1.den,At.den] using this
 ·cases h
theorem jgj {ts:Array TypeId} {ty:TypeId} {l:List LV} {d:Dl} (h:yO true l=some d):Pur P E w (Builtin.max_ ts ty (l.map (LV.den E)).toArray) d:=by
 unfold yO at h
 split at h
 ·have:=yv (P:=P) (E:=E) (w:=w) h
  simpa [Builtin.max_,LV.den,V1.den,At.den] using this
 ·cases h
end
end Go.Lr

/- The local evaluator's memory, against the model's. -/
namespace Go.Lr
open Go.RowKit
def wrG (g:Nat→Option Blk):List (Nat×Option Blk)→Nat→Option Blk
 | []=>g
 | (i,s)::l=>wrG (fun j=>if j=i then s else g j) l
def nwG (g:Nat→Option Blk) (nb:Nat):List Blk→Nat→Option Blk
 | []=>g
 | b::l=>nwG (fun j=>if j=nb then some b else g j) (nb+1) l
def blkAt (E:Env) (i:Nat) (b:Blk) (w:World):Prop:=
 ∃r:List Value,w.heap[(E i).1]? = some (.cells ((E i).pre++b.cells.map (At.den E)++r++(E i).suf).toArray ((E i).ty.getD b.ty) b.fr)∧(b.es=0→r=[])∧(b.es≠0→b.cells.length+r.length=(E i).2*b.es)
structure Rel (E:Env) (g:Nat→Option Blk) (w:World):Prop where
 blk:∀i b,g i=some b→blkAt E i b w
 inj:∀i j,(g i).isSome→(g j).isSome→(E i).1=(E j).1→i=j
structure Post (w:World) (E:Env) (g:Nat→Option Blk) (nb:Nat) (d:Dl) (E':Env) (w':World):Prop where
 agree:∀i,i<nb∨nb+d.nw.length≤i→E' i=E i
 rel:Rel E' (nwG (wrG g d.wr) nb d.nw) w'
 os:w'.os=w.os
 tape:w'.tape=w.tape
 output:w'.output=w.output
 size:w.heap.size≤w'.heap.size
 frame:∀b,b<w.heap.size→(∀i,(g i).isSome→(E i).1≠b)→w'.heap[b]? = w.heap[b]?
 fresh:∀i,nb≤i→i<nb+d.nw.length→w.heap.size≤(E' i).1∨∃j,(g j).isSome∧(E' i).1=(E j).1
def StepOK (P:Program) (o:Oper) (a:Act) (w:World) (E:Env) (g:Nat→Option Blk) (nb:Nat) (d:Dl):Prop:=
 (∀c∈d.cs,c.1=c.2)→∀(K:Act→World→Prop) (Q:Exit→Act→World→Prop),
  (∀E' w',Post w E g nb d E' w'→K (a.put o.dst (d.val.den E')) w')→o.wp P a w K Q
section
variable {P:Program} {E:Env} {τ:Nat→LV} {a:Act} {w:World} {g:Nat→Option Blk} {nb:Nat}
theorem Post.refl {d:Dl} (h1:d.wr=[]) (h2:d.nw=[]) (hr:Rel E g w):Post w E g nb d E w:=by
 refine ⟨fun _ _=>rfl, ?_,rfl,rfl,rfl,Nat.le_refl _,fun _ _ _=>rfl,fun i h1' h2'=> ?_⟩
 ·rw [h1,h2];exact hr
 ·rw [h2] at h2';simp at h2';omega
theorem StepOK.of_pur {o:Oper} {s:Sem Value} {d:Dl} (hr:Rel E g w) (h:Pur P E w s d)
  (ho:execOp a.eval o=(do pure (.value (←s)))):StepOK P o a w E g nb d:=by
 intro hc K Q hk
 unfold Oper.wp
 rw [ho]
 simp only [Sem.run_bind,h.run hc,Result.andThen_ok,Sem.run_pure]
 exact hk E w (.refl h.wr h.nw hr)
theorem zL {x:At} (h:x.cell=true):(x.den E).cells = #[x.den E]∧(x.den E).oneCell'=true:=by
 cases x with
 | opq v=>cases v <;> simp_all [At.cell,At.den,Value.cells,Value.oneCell']
 | _=>exact ⟨rfl,rfl⟩
theorem xe {v:LV} {l:List At} (h:qs v=some l):(v.den E).cells=(l.map (At.den E)).toArray∧(∀x∈l.map (At.den E),x.oneCell'=true):=by
 unfold qs at h
 split at h
 ·split at h
  ·rename_i x hx
   cases h
   obtain ⟨h1,h2⟩:=zL (E:=E) hx
   exact ⟨by simp [LV.den,V1.den,h1],by simpa using h2⟩
  ·cases h
 ·split at h
  ·rename_i x hx
   cases h
   refine ⟨rfl,fun y hy=> ?_⟩
   obtain ⟨z,hz,rfl⟩:=List.mem_map.1 hy
   exact (zL (allCell_iff.1 hx z hz)).2
  ·cases h
 ·cases h
theorem qN {p:Nat→Bool} {v:LV} {l:List At} (h:qs v=some l) (hv:v.ok p=true):okL p l=true:=by
 unfold qs at h
 split at h
 ·split at h
  ·cases h;exact okL_iff.2 fun y hy=>by rw [List.mem_singleton] at hy;subst hy;exact hv
  ·cases h
 ·split at h
  ·cases h;exact hv
  ·cases h
 ·cases h
theorem kR {t:TypeId} {l:List At} (h:KI P t=some l) (w:World):
  ∃z,(zeroValue t).run P w = .ok z w∧(∀E,z.cells=(l.map (At.den E)).toArray)∧(∀p,okL p l=true):=by
 unfold KI at h
 split at h
 ·rename_i i hi
  split at h
  ·rename_i z hz
   have hrun:(zeroValue t).run P w = .ok z w:=by simp [zeroValue,typeInfo,hi,hz]
   split at h
   ·rename_i x hx
    cases h
    refine ⟨z,hrun,fun E=> ?_,fun p=> ?_⟩
    ·obtain ⟨h1,h2⟩:=xh hx
     have hc:x.cell=true:=by
      unfold jaK at hx
      split at hx
      ·split at hx <;> cases hx
      ·split at hx
       ·rename_i y hy;cases hx;exact (yt hy).2.2
       ·cases hx
     rw [←h1 E]
     simpa [V1.den] using (zL (E:=E) hc).1
    ·exact okL_iff.2 fun y hy=>by rw [List.mem_singleton] at hy;subst hy;exact (xh hx).2 p
   ·rename_i x hx
    cases h
    refine ⟨z,hrun,fun E=> ?_,fun p=>(xh hx).2 p⟩
    rw [←(xh hx).1 E]
    rfl
   ·cases h
  ·cases h
 ·cases h
theorem jlS {p:Nat→Bool} {b:Blk} (hr:Rel E g w) (hg:∀i c,g i=some c→p i=true∧okL p c.cells=true) (hn:p nb=false) (hb:okL p b.cells=true)
  (hes:b.es=0) (hfr:b.fr=(0,0)):
  Rel (fun i=>if i=nb then Loc.at w.heap.size 0 else E i) (fun j=>if j=nb then some b else g j) (w.alloc (.cells (b.cells.map (At.den E)).toArray b.ty)):=by
 have hag:∀i,p i=true→(fun i=>if i=nb then Loc.at w.heap.size 0 else E i) i=E i:=by
  intro i hi
  have:i≠nb:=fun e=>by rw [e,hn] at hi;cases hi
  simp [this]
 have hlt:∀i c,g i=some c→(E i).1<w.heap.size:=by
  intro i c hc
  obtain ⟨r,h1,_⟩:=hr.blk i c hc
  exact (Array.getElem?_eq_some_iff.1 h1).1
 refine ⟨fun i c hc=> ?_,fun i j hi hj he=> ?_⟩
 ·by_cases hin:i=nb
  ·subst hin
   simp only [if_true,Option.some.injEq] at hc
   subst hc
   refine ⟨[], ?_,fun _=>rfl,fun h=>absurd hes h⟩
   simp only [if_true,List.append_nil,List.nil_append,Option.getD_none]
   rw [jX hag hb,hfr]
   show (w.heap.push _)[w.heap.size]? = _
   simp
  ·simp only [if_neg hin] at hc
   obtain ⟨r,h1,h2,h3⟩:=hr.blk i c hc
   refine ⟨r, ?_,h2, ?_⟩
   ·rw [jX hag (hg i c hc).2]
    simp only [if_neg hin]
    rw [Below.heap_alloc _ _ _ (hlt i c hc)]
    exact h1
   ·simpa [if_neg hin] using h3
 ·by_cases hin:i=nb
  ·by_cases hjn:j=nb
   ·rw [hin,hjn]
   ·simp only [if_neg hjn,hin,if_true] at hj he
    obtain ⟨c,hc⟩:=Option.isSome_iff_exists.1 hj
    have:=hlt j c hc
    omega
  ·by_cases hjn:j=nb
   ·simp only [if_neg hin,hjn,if_true] at hi he
    obtain ⟨c,hc⟩:=Option.isSome_iff_exists.1 hi
    have:=hlt i c hc
    omega
   ·simp only [if_neg hin,if_neg hjn] at hi hj he
    exact hr.inj i j hi hj he
theorem Y0 {p:Nat→Bool} {b:Blk} {v:LV} {cs:List (Bool×Bool)} {rd:List Nat} (hr:Rel E g w) (hg:∀i c,g i=some c→p i=true∧okL p c.cells=true) (hn:p nb=false) (hb:okL p b.cells=true)
  (hes:b.es=0) (hfr:b.fr=(0,0)):
  Post w E g nb ⟨v,[],[b],rd,cs⟩ (fun i=>if i=nb then Loc.at w.heap.size 0 else E i) (w.alloc (.cells (b.cells.map (At.den E)).toArray b.ty)):=by
 refine ⟨fun i hi=> ?_,jlS hr hg hn hb hes hfr,rfl,rfl,rfl,by simp,fun k hk _=>Below.heap_alloc _ _ _ hk,fun i h1 h2=> ?_⟩
 ·simp at hi;rw [if_neg (by omega)]
 ·simp at h2;left;rw [if_pos (by omega)];exact Nat.le_refl _
theorem jbM {p:Nat→Bool} {o:Oper} {t:TypeId} {d:Dl} (ho:o.op = .alloc t) (h:Zo P nb t=some d) (hr:Rel E g w) (hg:∀i c,g i=some c→p i=true∧okL p c.cells=true) (hn:∀i,nb≤i→i<nb+d.nw.length→p i=false):
  StepOK P o a w E g nb d:=by
 unfold Zo at h
 split at h
 ·rename_i l hl
  cases h
  intro _ K Q hk
  obtain ⟨z,h1,h2,h3⟩:=kR hl w
  unfold Oper.wp execOp
  simp only [ho,Sem.run_bind,Instr.alloc,h1,Result.andThen_ok,newVar,newRow,run_newObj_alloc,Sem.run_pure,h2 E]
  have:=hk _ _ (Y0 (v:= .v (.one (.ptr nb 0))) (cs:=[]) (rd:=[]) (b:=⟨t,(0,0),0,l⟩) hr hg (hn nb (Nat.le_refl _) (by simp)) (h3 p) rfl rfl)
  simpa [LV.den,V1.den,At.den,Oper.upon] using this
 ·cases h
theorem jgk {p:Nat→Bool} {o:Oper} {t:TypeId} {x:Operand} {v:LV} {d:Dl} (ho:o.op = .box t x) (hx:a.eval x=v.den E) (hv:v.ok p=true) (h:jni nb t v=some d) (hr:Rel E g w)
  (hg:∀i c,g i=some c→p i=true∧okL p c.cells=true) (hn:∀i,nb≤i→i<nb+d.nw.length→p i=false):StepOK P o a w E g nb d:=by
 unfold jni at h
 split at h
 ·rename_i l hl
  cases h
  intro _ K Q hk
  obtain ⟨h1,_⟩:=xe (E:=E) hl
  unfold Oper.wp execOp
  simp only [ho,Sem.run_bind,Instr.box,hx,Result.andThen_ok,newVar,newRow,run_newObj_alloc,Sem.run_pure,h1]
  have:=hk _ _ (Y0 (v:= .v (.one (.ptr nb 0))) (cs:=[]) (rd:=[]) (b:=⟨t,(0,0),0,l⟩) hr hg (hn nb (Nat.le_refl _) (by simp)) (qN hl hv) rfl rfl)
  simpa [LV.den,V1.den,At.den,Oper.upon] using this
 ·cases h
theorem jbN (b o:Nat):(LV.v (V1.one (At.ptr b o))).den E = .pointer (some ⟨(E b).1,o+(E b).pre.length,none⟩):=rfl
theorem zM {i:Nat} {b:Blk} (h:blkAt E i b w) {o:Nat} {x:At} (hx:b.cells[o]? = some x):w.cell? ⟨(E i).1,o+(E i).pre.length,none⟩=some (x.den E):=by
 obtain ⟨r,h1,_⟩:=h
 have hlt:o<b.cells.length:=(List.getElem?_eq_some_iff.1 hx).1
 simp only [World.cell?,h1]
 have he:b.cells[o]=x:=by rw [List.getElem?_eq_getElem hlt] at hx;exact Option.some.inj hx
 rw [List.append_assoc,List.append_assoc,List.getElem?_toArray,List.getElem?_append_right (by omega),Nat.add_sub_cancel]
 simp [List.getElem?_append_left,hlt,he]
theorem zh {t:TypeId} {i o:Nat} {b:Blk} {x:V1} (hb:blkAt E i b w) (h:xp P t b.cells o=some x):(loadVar t ⟨(E i).1,o+(E i).pre.length,none⟩).run P w = .ok (x.den E) w:=by
 unfold xp at h
 split at h
 ·rename_i ha
  split at h
  ·rename_i n hn
   split at h
   ·rename_i r hr
    cases h
    obtain ⟨e,hl⟩:=yu hr
    have hlen:(r.map (At.den E)).length=n:=by rw [e];simp;omega
    have:=run_loadCells_list (P:=P) w ⟨(E i).1,o+(E i).pre.length,none⟩ (r.map (At.den E)) (fun j v hv=>by
     simp only [List.getElem?_map,Option.map_eq_some_iff] at hv
     obtain ⟨y,hy,rfl⟩:=hv
     rw [j5,show o+(E i).pre.length+j=o+j+(E i).pre.length by omega]
     refine zM hb ?_
     rw [e] at hy
     have hj:j<n:=by
      have:=(List.getElem?_eq_some_iff.1 hy).1
      simp at this;omega
     rw [List.getElem?_take_of_lt hj,List.getElem?_drop] at hy
     exact hy)
    rw [hlen] at this
    simp [loadVar,JO ha,jD hn,this,V1.den]
   ·cases h
  ·cases h
 ·rename_i ha
  split at h
  ·rename_i y hy
   cases h
   rw [zJ] at hy
   have:=zM hb hy
   simp [loadVar,JO ha,this,V1.den]
  ·cases h
 ·cases h
theorem jd5 {t:TypeId} {v:LV} {d:Dl} (hr:Rel E g w) (h:Qj P t v g=some d):Pur P E w (Instr.loadAt t (v.den E)) d:=by
 unfold Qj at h
 split at h
 ·rename_i b o
  split at h
  ·rename_i k hk
   split at h
   ·rename_i x hx
    cases h
    have:=zh (hr.blk b k hk) hx
    exact ⟨rfl,rfl,fun _=>by simp [Instr.loadAt,LV.den,V1.den,At.den,Instr.sureAddr,this]⟩
   ·cases h
  ·cases h
 ·cases h
theorem Jd {k l:IntKind} (h:Qh k l=true):k=l:=by
 cases k <;> cases l <;> first | rfl | (exact absurd h (by decide))
theorem jaj:∀(l:List At) (o n:Nat) (a:At) (r:List At),atS l o=some a→Xh l (o+1) n=some r→Xh l o (n+1)=some (a::r)
 | [],o,n,a,r,h,_=>by simp [atS] at h
 | b::l,0,n,a,r,h,h2=>by
  simp only [atS,Option.some.injEq] at h
  subst h
  simp only [Xh] at h2 ⊢
  rw [h2]
 | b::l,o+1,n,a,r,h,h2=>by
  simp only [atS] at h
  simp only [Xh] at h2 ⊢
  exact jaj l o n a r h h2
theorem jiv (l:List At) (o n:Nat) (a:At) (r:List At) (h:atL l o=some a) (k:cut l (o+1) n=some r):cut l o (n+1)=some (a::r):=by
 rw [jge] at h
 rw [jdi] at k ⊢
 exact jaj l o n a r h k
theorem zi {k:IntKind} {l:List At} {o:Nat} (h:isIntAt k l o=true):atL l o=some (.int k (intAt l o)):=by
 unfold isIntAt at h
 split at h
 ·rename_i k' n hn
  have:=Jd h
  subst this
  rw [hn]
  simp only [intAt,hn]
 ·cases h
theorem Y1 {l:List At} {o:Nat} (h:Ye l o=true):atL l o=some (.bool (Qk l o)):=by
 unfold Ye at h
 split at h
 ·rename_i n hn
  rw [hn]
  simp only [Qk,hn]
 ·cases h
theorem jak:∀(l:List At) (o:Nat),o≤l.length→Xh l o 0=some []
 | l,0,_=>by cases l <;> rfl
 | [],o+1,h=>by simp at h
 | b::l,o+1,h=>by simp only [Xh];exact jak l o (by simpa using h)
theorem jiw (l:List At) (o:Nat) (h:o≤l.length):cut l o 0=some []:=by rw [jdi];exact jak l o h
theorem jal {l:List At} {o:Nat} {a:At} (h:atL l o=some a):o<l.length:=by
 rw [zJ] at h
 exact (List.getElem?_eq_some_iff.1 h).1
theorem QX:∀(n o:Nat) (l:List At),o≤l.length→jV l o n=true→cut l o n=some (jp l o n)
 | 0,o,l,h,_=>jiw l o h
 | n+1,o,l,_,h=>by
  simp only [jV,Bool.and_eq_true] at h
  have ha:=zi h.1
  exact jiv l o n _ _ ha (QX n (o+1) l (jal ha) h.2)
theorem jd6 {t:TypeId} {l:List At} {o:Nat} {x:V1} {cs:List (Bool×Bool)} (h:jeQ P t l o=some (x,cs)) (hc:∀c∈cs,c.1=c.2):xp P t l o=some x:=by
 unfold jeQ at h
 unfold xp
 split at h
 ·rename_i ha
  split at h
  ·rename_i n hn
   cases h
   have h1:(jV l o n&&decide (n≠0))=true:=hc _ (List.mem_singleton.2 rfl)
   cases n with
   | zero=>exact absurd h1 (by simp)
   | succ n=>
    simp only [Bool.and_eq_true,decide_eq_true_eq] at h1
    have h2:o≤l.length:=by
     have:jV l o (n+1)=true:=h1.1
     simp only [jV,Bool.and_eq_true] at this
     exact Nat.le_of_lt (jal (zi this.1))
    simp only [QX (n+1) o l h2 h1.1]
  ·cases h
 ·rename_i ha
  split at h
  ·cases h
   simp only [zi (hc _ (List.mem_singleton.2 rfl))]
  ·cases h
   simp only [Y1 (hc _ (List.mem_singleton.2 rfl))]
  ·cases h
 ·cases h
theorem jbO {t:TypeId} {v:LV} {d:Dl} (hr:Rel E g w) (h:Ko P t v g=some d):Pur P E w (Instr.loadAt t (v.den E)) d:=by
 unfold Ko at h
 split at h
 ·rename_i b o
  split at h
  ·rename_i k hk
   split at h
   ·rename_i x cs hx
    cases h
    exact ⟨rfl,rfl,fun hc=>by
     have:=zh (hr.blk b k hk) (jd6 hx hc)
     simp [Instr.loadAt,LV.den,V1.den,At.den,Instr.sureAddr,this]⟩
   ·cases h
  ·cases h
 ·exact jd5 hr h
theorem jgl {pre l vs rest:List Value} {off:Nat} (hle:off+vs.length≤l.length):
  List.take (off+pre.length) (pre++(l++rest))++(vs++List.drop (off+pre.length+vs.length) (pre++(l++rest)))=pre++(List.take off l++(vs++(List.drop (off+vs.length) l++rest))):=by
 have e1:List.take (off+pre.length) (pre++(l++rest))=pre++List.take off l:=by
  rw [List.take_append,List.take_of_length_le (show pre.length≤off+pre.length by omega),Nat.add_sub_cancel,List.take_append_of_le_length (by omega)]
 have e2:List.drop (off+pre.length+vs.length) (pre++(l++rest))=List.drop (off+vs.length) l++rest:=by
  rw [List.drop_append,List.drop_of_length_le (show pre.length≤off+pre.length+vs.length by omega),List.nil_append,show off+pre.length+vs.length - pre.length=off+vs.length by omega,List.drop_append_of_le_length hle]
 rw [e1,e2,List.append_assoc]
theorem Je {o:Oper} {t:TypeId} {x y:Operand} {u v:LV} {d:Dl} (ho:o.op = .store t x y) (hx:a.eval x=u.den E) (hy:a.eval y=v.den E)
  (h:yB P t u v g=some d) (hr:Rel E g w):StepOK P o a w E g nb d:=by
 unfold yB at h
 split at h
 ·rename_i b off
  split at h
  ·rename_i ty es l hk
   split at h
   ·rename_i vs n hvs hn
    split at h
    ·rename_i r hlen hlay
     cases h
     intro _ K Q hk'
     obtain ⟨c1,c2⟩:=xe (E:=E) hvs
     obtain ⟨e,hle⟩:=zK hlay
     obtain ⟨rest,h1,h2,h3⟩:=hr.blk b _ hk
     rw [kX,xa] at hlen
     have hlen':vs.length=n:=by simpa using hlen
     have hst:=run_storeCells_at P (E b).1 (off+(E b).pre.length) ((E b).ty.getD ty) (vs.map (At.den E)) 0 ((E b).pre++l.map (At.den E)++rest++(E b).suf).toArray w h1 (by simp;omega) c2
     have hrun:(Instr.storeAt t (a.eval x) (a.eval y)).run P w = .ok () (w.setRow (E b).1 ((E b).pre++(r.map (At.den E))++rest++(E b).suf).toArray):=by
      rw [hx,hy,jbN]
      simp only [Instr.storeAt,Instr.sureAddr,Sem.run_bind,Sem.run_pure,Result.andThen_ok,storeVar,jD hn]
      rw [c1]
      simp only [List.size_toArray,List.length_map,hlen',ne_eq,not_true_eq_false,if_false]
      rw [hst]
      congr 3
      subst e
      have hl2:off+(vs.map (At.den E)).length≤(l.map (At.den E)).length:=by simpa using hle
      have:=jgl (pre:=(E b).pre) (rest:=rest++(E b).suf) hl2
      simpa using this
     unfold Oper.wp execOp
     simp only [ho,Sem.run_bind,hrun,Result.andThen_ok,Sem.run_pure]
     have hr2:Rel E (nwG (wrG g [(b,some ⟨ty,(0,0),es,r⟩)]) nb []) (w.setRow (E b).1 ((E b).pre++(r.map (At.den E))++rest++(E b).suf).toArray):=by
      refine ⟨fun i c hc=> ?_,fun i j hi hj he=>hr.inj i j ?_ ?_ he⟩
      ·simp only [nwG,wrG] at hc
       by_cases hib:i=b
       ·subst hib
        simp only [if_true,Option.some.injEq] at hc
        subst hc
        refine ⟨rest,setRow_heap w _ _ _ _ (0,0) h1,h2,fun hh=> ?_⟩
        have:=h3 hh
        subst e
        simp at this ⊢
        omega
       ·simp only [if_neg hib] at hc
        obtain ⟨r',g1,g2,g3⟩:=hr.blk i c hc
        refine ⟨r', ?_,g2,g3⟩
        rw [setRow_other]
        ·exact g1
        ·intro hh
         exact hib (hr.inj i b (by simp [hc]) (by simp [hk]) hh)
      ·simp only [nwG,wrG] at hi
       by_cases hib:i=b
       ·subst hib;simp [hk]
       ·simpa [if_neg hib] using hi
      ·simp only [nwG,wrG] at hj
       by_cases hib:j=b
       ·subst hib;simp [hk]
       ·simpa [if_neg hib] using hj
     exact hk' E _ ⟨fun _ _=>rfl,hr2,rfl,rfl,rfl,by simp [World.setRow],fun k _ hne=>setRow_other _ _ _ _ (fun hh=>hne b (by simp [hk]) hh.symm),fun i i1 i2=>by simp at i2;omega⟩
    ·cases h
   ·cases h
  ·cases h
 ·cases h
theorem jdj:∀(l:List At) (o:Nat) (x:At),o<l.length→Qg l o [x]=some (l.set o x)
 | [],o,x,h=>by simp at h
 | a::l,0,x,_=>by cases l <;> rfl
 | a::l,o+1,x,h=>by
  simp only [Qg,List.set_cons_succ]
  rw [jdj l o x (by simpa using h)]
theorem jlT (l:List At) (o:Nat) (x:At) (h:o<l.length):lay l o [x]=some (l.set o x):=by rw [jgg];exact jdj l o x h
theorem jd7 {u:LV} {b o:Nat} (h:jkl u=some (b,o)):u = .v (.one (.ptx b o)):=by
 unfold jkl at h
 split at h
 ·cases h;rfl
 ·cases h
theorem Jf {t:TypeId} {b o:Nat} {v:LV} {d:Dl} (h:jcp P t b o v g=some d):
  ∃ty es l x,g b=some ⟨ty,(0,0),es,l⟩∧v = .v (.one x)∧kB P t=some 1∧x.cell=true∧d=⟨qr,[(b,some ⟨ty,(0,0),es,l.set o x⟩)],[],[],[(decide (o<l.length),true)]⟩:=by
 unfold jcp at h
 split at h
 ·rename_i ty es l hk
  split at h
  ·rename_i x hs
   split at h
   ·rename_i hx
    cases h
    exact ⟨ty,es,l,x,hk,rfl,hs,hx,rfl⟩
   ·cases h
  ·cases h
 ·cases h
theorem QY:∀(l vs:List At) (o:Nat),o+vs.length≤l.length→∃r,Qg l o vs=some r
 | l,[],0,_=>by cases l <;> exact ⟨_,rfl⟩
 | [],v::vs,0,h=>by simp at h
 | a::l,v::vs,0,h=>by
  obtain ⟨r,hr⟩:=QY l vs 0 (by simp only [List.length_cons] at h;omega)
  exact ⟨v::r,by simp only [Qg,hr]⟩
 | [],vs,o+1,h=>by simp only [List.length_nil] at h;omega
 | a::l,vs,o+1,h=>by
  obtain ⟨r,hr⟩:=QY l vs o (by simp only [List.length_cons] at h;omega)
  exact ⟨a::r,by rw [jaf,hr]⟩
theorem jix (l vs:List At) (o:Nat) (h:o+vs.length≤l.length):Qg l o vs=some (l.take o++(vs++l.drop (o+vs.length))):=by
 obtain ⟨r,hr⟩:=QY l vs o h
 rw [hr,(JN hr).1,List.append_assoc]
theorem zj {t:TypeId} {b o:Nat} {v:LV} {d:Dl} (h:Yf P t b o v g=some d):
  ∃ty es l vs,g b=some ⟨ty,(0,0),es,l⟩∧qs v=some vs∧kB P t=some vs.length∧d=⟨qr,[(b,some ⟨ty,(0,0),es,l.take o++(vs++l.drop (o+vs.length))⟩)],[],[],[(decide (o+vs.length≤l.length),true)]⟩:=by
 unfold Yf at h
 split at h
 ·rename_i ty es l hk
  split at h
  ·rename_i vs n hv hs
   split at h
   ·rename_i hn
    rw [kX,xa] at hn
    simp only [decide_eq_true_eq] at hn
    subst hn
    cases h
    exact ⟨ty,es,l,vs,hk,hv,hs,rfl⟩
   ·cases h
  ·cases h
 ·cases h
theorem jbP {o:Oper} {t:TypeId} {x y:Operand} {u v:LV} {d:Dl} (ho:o.op = .store t x y) (hx:a.eval x=u.den E) (hy:a.eval y=v.den E)
  (h:Kp P t u v g=some d) (hr:Rel E g w):StepOK P o a w E g nb d:=by
 unfold Kp at h
 split at h
 ·rename_i b off hu
  have hu:=jd7 hu
  subst hu
  split at h
  ·obtain ⟨ty,es,l,vs,hk,hv,hs,rfl⟩:=zj h
   intro hc K Q hK
   have hlt:off+vs.length≤l.length:=by
    have:=hc _ (List.mem_singleton.2 rfl)
    simpa using this
   have h2:yB P t (.v (.one (.ptr b off))) v g=some ⟨qr,[(b,some ⟨ty,(0,0),es,l.take off++(vs++l.drop (off+vs.length))⟩)],[],[],[]⟩:=by
    unfold yB
    simp only [hk,hv,hs,jgg,jix l vs off hlt,xa,kX]
    simp
   refine Je (nb:=nb) (u:= .v (.one (.ptr b off))) (v:=v) ho (by rw [hx];rfl) hy h2 hr (by simp) K Q fun E' w' hp=> ?_
   exact hK E' w' ⟨hp.1,hp.2,hp.3,hp.4,hp.5,hp.6,hp.7,hp.8⟩
  obtain ⟨ty,es,l,z,hk,rfl,hs,hz,rfl⟩:=Jf h
  intro hc K Q hK
  have hlt:off<l.length:=by
   have:=hc _ (List.mem_singleton.2 rfl)
   simpa using this
  have h2:yB P t (.v (.one (.ptr b off))) (.v (.one z)) g=some ⟨qr,[(b,some ⟨ty,(0,0),es,l.set off z⟩)],[],[],[]⟩:=by
   unfold yB
   simp only [hk,qs,hz,hs,jlT l off z hlt]
   rfl
  refine Je (nb:=nb) (u:= .v (.one (.ptr b off))) (v:= .v (.one z)) ho (by rw [hx];rfl) hy h2 hr (by simp) K Q fun E' w' hp=> ?_
  exact hK E' w' ⟨hp.1,hp.2,hp.3,hp.4,hp.5,hp.6,hp.7,hp.8⟩
 ·exact Je ho hx hy h hr
theorem jgm {b off:Nat} {ty:TypeId} {es:Nat} {l vs r:List At} (hr:Rel E g w) (hk:g b=some ⟨ty,(0,0),es,l⟩) (hlay:lay l off vs=some r) (hall:∀u∈vs.map (At.den E),u.oneCell'=true):
  ∃w',(storeCells ⟨(E b).1,off+(E b).pre.length,none⟩ (vs.map (At.den E))).run P w = .ok () w'∧∀v rd cs,Post w E g nb ⟨v,[(b,some ⟨ty,(0,0),es,r⟩)],[],rd,cs⟩ E w':=by
 obtain ⟨e,hle⟩:=zK hlay
 obtain ⟨rest,h1,h2,h3⟩:=hr.blk b _ hk
 have hst:=run_storeCells_at P (E b).1 (off+(E b).pre.length) ((E b).ty.getD ty) (vs.map (At.den E)) 0 ((E b).pre++l.map (At.den E)++rest++(E b).suf).toArray w h1 (by simp;omega) hall
 refine ⟨w.setRow (E b).1 ((E b).pre++(r.map (At.den E))++rest++(E b).suf).toArray, ?_,fun v rd cs=> ?_⟩
 ·simp only [Nat.add_zero] at hst
  rw [hst]
  congr 3
  subst e
  have hl2:off+(vs.map (At.den E)).length≤(l.map (At.den E)).length:=by simpa using hle
  have:=jgl (pre:=(E b).pre) (rest:=rest++(E b).suf) hl2
  simpa using this
 ·have hr2:Rel E (nwG (wrG g [(b,some ⟨ty,(0,0),es,r⟩)]) nb []) (w.setRow (E b).1 ((E b).pre++(r.map (At.den E))++rest++(E b).suf).toArray):=by
   refine ⟨fun i c hc=> ?_,fun i j hi hj he=>hr.inj i j ?_ ?_ he⟩
   ·simp only [nwG,wrG] at hc
    by_cases hib:i=b
    ·subst hib
     simp only [if_true,Option.some.injEq] at hc
     subst hc
     refine ⟨rest,setRow_heap w _ _ _ _ (0,0) h1,h2,fun hh=> ?_⟩
     have:=h3 hh
     subst e
     simp at this ⊢
     omega
    ·simp only [if_neg hib] at hc
     obtain ⟨r',g1,g2,g3⟩:=hr.blk i c hc
     refine ⟨r', ?_,g2,g3⟩
     rw [setRow_other]
     ·exact g1
     ·intro hh
      exact hib (hr.inj i b (by simp [hc]) (by simp [hk]) hh)
   ·simp only [nwG,wrG] at hi
    by_cases hib:i=b
    ·subst hib;simp [hk]
    ·simpa [if_neg hib] using hi
   ·simp only [nwG,wrG] at hj
    by_cases hib:j=b
    ·subst hib;simp [hk]
    ·simpa [if_neg hib] using hj
  exact ⟨fun _ _=>rfl,hr2,rfl,rfl,rfl,by simp [World.setRow],fun k _ hne=>setRow_other _ _ _ _ (fun hh=>hne b (by simp [hk]) hh.symm),fun i i1 i2=>by simp at i2;omega⟩
theorem jbQ {b:Nat} {ty:TypeId} {es:Nat} {l:List At} (hr:Rel E g w) (hk:g b=some ⟨ty,(0,0),es,l⟩) (hes:1≤es):l.length≤(E b).2*es:=by
 obtain ⟨r,-,-,h3⟩:=hr.blk b _ hk
 have:=h3 (by show es≠0;omega)
 simp only at this
 omega
theorem K9 {v:Option LV} {dflt n k:Nat} (h:kl v dflt n=some k) (hd:dflt≤n):k≤n:=by
 cases v with
 | none=>simp only [kl,Option.some.injEq] at h;omega
 | some v=>obtain ⟨_,_,hle⟩:=kQ h;exact hle
theorem jd8 {t e:TypeId} {s:Nat} {a:Addr} {n c h k:Nat} {lo hi:Option LV} (hu:P.underlying t=some (.slice e)) (hs:kB P e=some s) (hb:kl hi n c=some h) (hl:kl lo 0 h=some k):
  (Instr.sliceAt t (.slice (some a) n c) (lo.map (LV.den E)) (hi.map (LV.den E)) none).run P w = .ok (.slice (some (if c=k then a else a.add (k*s))) (h - k) (c - k)) w:=by
 have h1:=kF (P:=P) (E:=E) (w:=w) true hb hl
 simp only [Instr.sliceAt,Instr.slice,Sem.run_bind,run_underlying hu,Result.andThen_ok,h1,jD hs,Sem.run_pure]
 by_cases hc:c=k
 ·simp [hc]
 ·simp [hc]
theorem X5 {v:Option LV} {dflt n m k:Nat} (h:kl v dflt n=some k) (hm:n≤m):kl v dflt m=some k:=by
 cases v with
 | none=>exact h
 | some v=>
  obtain ⟨i,rfl,hle⟩:=kQ h
  simp only [kl]
  have:Nat.ble k m=true:=by rw [Kx];simp;omega
  show (match Nat.ble k m with | true=>some k | false=>none)=some k
  rw [this]
theorem jgn {p:Nat→Bool} {b:Nat} {e:TypeId} {s:Nat} {l:List At} {n k:Nat} {v:LV} {cs:List (Bool×Bool)} {rd:List Nat} (hr:Rel E g w) (hg:∀i c,g i=some c→p i=true∧okL p c.cells=true) (hn:p nb=false)
  (hk:g b=some ⟨e,(0,0),s,l⟩) (hs:1≤s) (hl:l.length=n*s) (hkn:k≤n):
  ∃E',(∀i,p i=true→E' i=E i)∧Value.slice (some (if (E b).2=k then (⟨(E b).1,(E b).pre.length,none⟩:Addr) else (⟨(E b).1,(E b).pre.length,none⟩:Addr).add (k*s))) (n - k) ((E b).2 - k)=(At.slu nb (n - k)).den E'∧
   Post w E g nb ⟨v,[(b,none)],[⟨e,(0,0),s,l.drop (k*s)⟩],rd,cs⟩ E' w:=by
 obtain ⟨r,h1,h2,h3⟩:=hr.blk b _ hk
 have hcap:=h3 (by show s≠0;omega)
 simp only at hcap h1
 have hgne:∀j c,g j=some c→j≠nb:=fun j c hj e'=>by
  have:=(hg j c hj).1
  rw [e',hn] at this;cases this
 have hnb:g nb=none:=by
  cases h:g nb with
  | none=>rfl
  | some c=>exact absurd rfl (hgne nb c h)
 have key:∃L:Loc,L.blk=(E b).1∧Value.slice (some (if (E b).2=k then (⟨(E b).1,(E b).pre.length,none⟩:Addr) else (⟨(E b).1,(E b).pre.length,none⟩:Addr).add (k*s))) (n - k) ((E b).2 - k) = .slice (some ⟨L.blk,L.pre.length,none⟩) (n - k) L.cap∧
   ∃r':List Value,w.heap[L.blk]? = some (.cells (L.pre++(l.drop (k*s)).map (At.den E)++r'++L.suf).toArray (L.ty.getD e) (0,0))∧(l.drop (k*s)).length+r'.length=L.cap*s:=by
  by_cases hc:(E b).2=k
  ·have hlk:l.length≤k*s:=by rw [hl];exact Nat.mul_le_mul_right _ (by
    have:n*s≤k*s:=by rw [←hl,←hc];omega
    exact Nat.le_of_mul_le_mul_right this (by omega))
   refine ⟨⟨(E b).1,0,(E b).pre,l.map (At.den E)++r++(E b).suf,(E b).ty⟩,rfl, ?_,[], ?_, ?_⟩
   ·rw [if_pos hc,hc,Nat.sub_self]
   ·rw [List.drop_of_length_le hlk]
    simpa using h1
   ·rw [List.drop_of_length_le hlk];simp
  ·have hle:k*s≤l.length:=by rw [hl];exact Nat.mul_le_mul_right _ hkn
   refine ⟨⟨(E b).1,(E b).2 - k,(E b).pre++(l.take (k*s)).map (At.den E),(E b).suf,(E b).ty⟩,rfl, ?_,r, ?_, ?_⟩
   ·rw [if_neg hc,j5]
    simp [Nat.min_eq_left hle]
   ·show w.heap[(E b).1]? = _
    rw [h1]
    congr 3
    have:l.map (At.den E)=(l.take (k*s)).map (At.den E)++(l.drop (k*s)).map (At.den E):=by rw [←List.map_append,List.take_append_drop]
    rw [this]
    simp
   ·show _=((E b).2 - k)*s
    rw [List.length_drop,Nat.sub_mul]
    omega
 obtain ⟨L,hL1,hL2,r',hL3,hL4⟩:=key
 have hag:∀i,p i=true→(fun i=>if i=nb then L else E i) i=E i:=fun i hi=>by
  have:i≠nb:=fun e'=>by rw [e',hn] at hi;cases hi
  simp [this]
 refine ⟨fun i=>if i=nb then L else E i,hag, ?_,fun i hi=> ?_,⟨fun i c hc=> ?_,fun i j hi hj he=> ?_⟩,rfl,rfl,rfl,Nat.le_refl _,fun _ _ _=>rfl,fun i i1 i2=> ?_⟩
 ·rw [hL2];simp [At.den]
 ·simp at hi
  have:i≠nb:=by omega
  simp [this]
 ·simp only [nwG,wrG] at hc
  by_cases hin:i=nb
  ·subst hin
   simp only [if_true,Option.some.injEq] at hc
   subst hc
   refine ⟨r', ?_,fun h0=>absurd h0 (by show s≠0;omega),fun _=> ?_⟩
   ·simp only [if_true]
    rw [jX hag (okL_iff.2 fun a ha=>okL_iff.1 (hg b _ hk).2 a (List.mem_of_mem_drop ha))]
    exact hL3
   ·simp only [if_true];exact hL4
  ·simp only [if_neg hin] at hc
   by_cases hib:i=b
   ·rw [if_pos hib] at hc;cases hc
   ·rw [if_neg hib] at hc
    obtain ⟨r2,g1,g2,g3⟩:=hr.blk i c hc
    refine ⟨r2, ?_,g2, ?_⟩
    ·rw [jX hag (hg i c hc).2]
     simp only [if_neg hin];exact g1
    ·simpa [if_neg hin] using g3
 ·have hsome:∀q,(nwG (wrG g [(b,none)]) nb [⟨e,(0,0),s,l.drop (k*s)⟩] q).isSome→q≠nb→(g q).isSome∧q≠b:=by
   intro q hq hqn
   simp only [nwG,wrG,if_neg hqn] at hq
   by_cases hqb:q=b
   ·rw [if_pos hqb] at hq;cases hq
   ·rw [if_neg hqb] at hq;exact ⟨hq,hqb⟩
  by_cases hin:i=nb
  ·by_cases hjn:j=nb
   ·rw [hin,hjn]
   ·obtain ⟨q1,q2⟩:=hsome j hj hjn
    simp only [hin,if_true,if_neg hjn] at he
    exact absurd (hr.inj b j (by simp [hk]) q1 (hL1.symm.trans he)).symm q2
  ·obtain ⟨q1,q2⟩:=hsome i hi hin
   by_cases hjn:j=nb
   ·simp only [if_neg hin,hjn,if_true] at he
    exact absurd (hr.inj i b q1 (by simp [hk]) (he.trans hL1)) q2
   ·obtain ⟨q3,q4⟩:=hsome j hj hjn
    simp only [if_neg hin,if_neg hjn] at he
    exact hr.inj i j q1 q3 he
 ·simp at i2
  have:i=nb:=by omega
  subst this
  exact .inr ⟨b,by simp [hk],by simp [hL1]⟩
end
end Go.Lr

/- The local evaluator's literals, function values, choices; what its operations name. -/
namespace Go.Lr
open Go.RowKit
theorem jdk (o:Nat):∀(vs:List Value) (k:Nat) (l:List Value),o+k+vs.length≤l.length→
  (vs.zipIdx k).foldl (fun (cs:Array Value) (x:Value×Nat)=>cs.setIfInBounds (o+x.2) x.1) l.toArray=(l.take (o+k)++vs++l.drop (o+k+vs.length)).toArray
 | [],k,l,_=>by simp
 | v::vs,k,l,h=>by
  simp only [List.zipIdx_cons,List.foldl_cons,List.setIfInBounds_toArray]
  rw [jdk o vs (k+1) (l.set (o+k) v) (by simp at h ⊢;omega)]
  have e:=list_seg_step l (o+k) v vs (by simp at h ⊢;omega)
  simp only [List.length_cons]
  rw [show o+(k+1)=o+k+1 by omega,e,show o+k+(vs.length+1)=o+k+1+vs.length by omega]
section
variable {P:Program} {E:Env} {τ:Nat→LV} {a:Act} {w:World} {g:Nat→Option Blk} {nb:Nat}
theorem jdl {cells r vs:List At} {o:Nat} (h:lay cells o vs=some r):
  ((vs.map (At.den E)).toArray.zipIdx.foldl (fun (cs:Array Value) (x:Value×Nat)=>cs.setIfInBounds (o+x.2) x.1) (cells.map (At.den E)).toArray)=(r.map (At.den E)).toArray:=by
 obtain ⟨e,hl⟩:=zK h
 have:=jdk o (vs.map (At.den E)) 0 (cells.map (At.den E)) (by simpa using hl)
 rw [←Array.foldl_toList]
 simp only [Array.toList_zipIdx]
 rw [this]
 subst e
 simp
theorem X6 {fs:List Field} (places:Array (Nat×Nat)) (hp:∀(i:Nat) (f:Field) (n:Nat),fs[i]? = some f→kB P f.type=some n→places[i]? = some (f.offset,n)):
  ∀{parts:List (Nat×LV)} {cells r:List At},Zp P fs cells parts=some r→
   Instr.fill (places[·]?) (cells.map (At.den E)).toArray (parts.map fun q=>(q.1,q.2.den E))=some (r.map (At.den E)).toArray
 | [],cells,r,h=>by simp only [Zp] at h;cases h;rfl
 | (i,v)::rest,cells,r,h=>by
  simp only [Zp] at h
  split at h
  ·rename_i f vs hf hvs
   split at h
   ·rename_i n hn
    split at h
    ·rename_i r' hlen hlay
     rw [qy] at hf
     rw [kX,xa] at hlen
     have hlen':vs.length=n:=by simpa using hlen
     obtain ⟨c1,_⟩:=xe (E:=E) hvs
     have ih:=X6 places hp h
     simp only [List.map_cons,Instr.fill,hp i f n hf hn,c1]
     obtain ⟨_,hle⟩:=zK hlay
     rw [if_neg (by simp;omega)]
     rw [jdl hlay]
     exact ih
    ·cases h
   ·cases h
  ·cases h
theorem Kc {s:Nat}:∀{parts:List (Nat×LV)} {cells r:List At},Yg s cells parts=some r→
  Instr.fill (fun i=>some (i*s,s)) (cells.map (At.den E)).toArray (parts.map fun q=>(q.1,q.2.den E))=some (r.map (At.den E)).toArray
 | [],cells,r,h=>by simp only [Yg] at h;cases h;rfl
 | (i,v)::rest,cells,r,h=>by
  simp only [Yg] at h
  split at h
  ·rename_i vs hvs
   split at h
   ·rename_i r' hlen hlay
    rw [kX,xa] at hlen
    have hlen':vs.length=s:=by simpa using hlen
    obtain ⟨c1,_⟩:=xe (E:=E) hvs
    have ih:=Kc h
    simp only [List.map_cons,Instr.fill,c1]
    obtain ⟨_,hle⟩:=zK hlay
    rw [if_neg (by simp;omega)]
    rw [jdl hlay]
    exact ih
   ·cases h
  ·cases h
theorem jdm {p:Nat→Bool} {fs:List Field}:∀{parts:List (Nat×LV)} {cells r:List At},Zp P fs cells parts=some r→okL p cells=true→(∀q∈parts,q.2.ok p=true)→okL p r=true
 | [],cells,r,h,hc,_=>by simp only [Zp] at h;cases h;exact hc
 | (i,v)::rest,cells,r,h,hc,hq=>by
  simp only [Zp] at h
  split at h
  ·rename_i f vs hf hvs
   split at h
   ·split at h
    ·rename_i r' hlen hlay
     exact jdm h (jag hlay hc (qN hvs (hq (i,v) (by simp)))) fun q hm=>hq q (by simp [hm])
    ·cases h
   ·cases h
  ·cases h
theorem Qa {p:Nat→Bool} {s:Nat}:∀{parts:List (Nat×LV)} {cells r:List At},Yg s cells parts=some r→okL p cells=true→(∀q∈parts,q.2.ok p=true)→okL p r=true
 | [],cells,r,h,hc,_=>by simp only [Yg] at h;cases h;exact hc
 | (i,v)::rest,cells,r,h,hc,hq=>by
  simp only [Yg] at h
  split at h
  ·rename_i vs hvs
   split at h
   ·rename_i r' hlen hlay
    exact Qa h (jag hlay hc (qN hvs (hq (i,v) (by simp)))) fun q hm=>hq q (by simp [hm])
   ·cases h
  ·cases h
theorem jd9:∀{fs:List Field},jhn P fs=true→∃sz:Field→Nat,∀f∈fs,kB P f.type=some (sz f):=by
 intro fs h
 refine ⟨fun f=>(kB P f.type).getD 0, ?_⟩
 induction fs with
 | nil=>simp
 | cons f l ih=>
  simp only [jhn] at h
  split at h
  ·rename_i n hn
   intro f' hf'
   rcases List.mem_cons.1 hf' with rfl | hf'
   ·simp [hn]
   ·exact ih h f' hf'
  ·cases h
theorem jdn {α β:Type} (f:α→Sem β) (r:α→β) (w:World):∀(l:List α),(∀x∈l,(f x).run P w = .ok (r x) w)→(l.mapM f).run P w = .ok (l.map r) w
 | [],_=>by simp
 | x::l,h=>by
  simp only [List.mapM_cons,Sem.run_bind,h x (by simp),Result.andThen_ok,jdn f r w l fun y hy=>h y (by simp [hy]),Sem.run_pure,List.map_cons]
theorem jgo {α β:Type} (f:α→Sem β) (r:α→β) (w:World) (l:Array α) (h:∀x∈l.toList,(f x).run P w = .ok (r x) w):(l.mapM f).run P w = .ok (l.map r) w:=by
 rw [Array.mapM_eq_mapM_toList]
 have:=jdn (P:=P) f r w l.toList h
 rcases l with ⟨l⟩
 simp at this
 simp [this]
theorem jbR {t:TypeId} {parts:List (Nat×LV)} {d:Dl} (h:Zq P t parts=some d):Pur P E w (Instr.build t (parts.map fun q=>(q.1,q.2.den E)).toArray) d:=by
 unfold Zq at h
 split at h
 ·rename_i z hz
  obtain ⟨zv,h1,h2,_⟩:=kR hz w
  split at h
  ·rename_i fs hu
   split at h
   ·rename_i l hsz hl
    cases h
    refine .of_run ?_
    obtain ⟨sz,hszs⟩:=jd9 hsz
    have hm:=jgo (P:=P) (fun f:Field=>(do pure (f.offset,←sizeOf f.type):Sem (Nat×Nat))) (fun f=>(f.offset,sz f)) w fs (fun f hf=>by simp [jD (hszs f hf)])
    have hf:=X6 (P:=P) (E:=E) (fs.map fun f=>(f.offset,sz f)) (fs:=fs.toList) (fun i f n hi hn=>by
     have hi':fs[i]? = some f:=by simpa using hi
     have:=hszs f (List.mem_of_getElem? hi)
     rw [hn] at this
     simp [hi',Option.some.inj this]) hl
    simp only [Instr.build,Sem.run_bind,h1,Result.andThen_ok,run_underlying hu,hm,h2 E]
    rw [hf]
    rfl
   ·cases h
  ·rename_i n e hu
   split at h
   ·rename_i s hs
    split at h
    ·rename_i l hl
     cases h
     refine .of_run ?_
     have hf:=Kc (E:=E) hl
     simp only [Instr.build,Sem.run_bind,h1,Result.andThen_ok,run_underlying hu,jD hs,h2 E]
     rw [hf]
     rfl
    ·cases h
   ·cases h
  ·cases h
 ·cases h
theorem Jg (z:List At) (hz:0<z.length):∀(n i:Nat),i<n*z.length→(kC z n)[i]? = z[i%z.length]?
 | 0,i,h=>by omega
 | n+1,i,h=>by
  simp only [kC]
  by_cases hi:i<z.length
  ·rw [List.getElem?_append_left hi,Nat.mod_eq_of_lt hi]
  ·have e:i%z.length=(i - z.length)%z.length:=Nat.mod_eq_sub_mod (by omega)
   rw [Nat.add_mul,Nat.one_mul] at h
   rw [List.getElem?_append_right (by omega),Jg z hz n (i - z.length) (by omega),e]
theorem xz (z:List At):∀n,(kC z n).length=n*z.length
 | 0=>by simp [kC]
 | n+1=>by simp [kC,xz z n,Nat.add_mul,Nat.add_comm]
theorem zN {p:Nat→Bool} {z:List At} (h:okL p z=true):∀n,okL p (kC z n)=true
 | 0=>rfl
 | n+1=>by
  rw [okL_iff] at *
  intro x hx
  simp only [kC,List.mem_append] at hx
  rcases hx with hx | hx
  ·exact h x hx
  ·exact okL_iff.1 (zN (okL_iff.2 h) n) x hx
theorem KM {p:Nat→Bool} {o:Oper} {t:TypeId} {n:Nat} {ps:Array (Nat×Operand)} {parts:List (Nat×LV)} {d:Dl} (ho:o.op = .buildSlice t n ps)
  (hps:ps.toList.map (fun (i,x)=>(i,a.eval x))=parts.map fun q=>(q.1,q.2.den E)) (hpo:∀q∈parts,q.2.ok p=true)
  (h:xq P nb t n parts=some d) (hr:Rel E g w) (hg:∀i c,g i=some c→p i=true∧okL p c.cells=true) (hn:∀i,nb≤i→i<nb+d.nw.length→p i=false):StepOK P o a w E g nb d:=by
 unfold xq at h
 split at h
 ·rename_i e hu
  split at h
  ·rename_i s z hs hz
   split at h
   ·rename_i l hb hzl hs1 hl
    cases h
    intro _ K Q hk
    rw [Kx] at hb hs1
    rw [kX,xa] at hzl
    have hb':n*s≤16777216:=by simpa using hb
    have hs1':1≤s:=by simpa using hs1
    have hzl':z.length=s:=by simpa using hzl
    obtain ⟨zv,h1,h2,h3⟩:=kR hz w
    have hf:=Kc (E:=E) hl
    have hps':(ps.map fun (i,x)=>(i,a.eval x)).toList=parts.map fun q=>(q.1,q.2.den E):=by rw [←hps];simp
    have hzero:(Array.range (n*s)).map ((z.map (At.den E)).toArray[· % (z.map (At.den E)).toArray.size]!)=((kC z n).map (At.den E)).toArray:=by
     apply Array.ext
     ·simp [xz,hzl']
     ·intro i hi1 hi2
      have hi:i<n*s:=by simpa using hi1
      have hlt:i%s<z.length:=by rw [hzl'];exact Nat.mod_lt _ hs1'
      have hget:=Jg z (by omega) n i (by rw [hzl'];exact hi)
      rw [hzl',List.getElem?_eq_getElem hlt] at hget
      have hlt2:i<(kC z n).length:=by rw [xz,hzl'];exact hi
      rw [List.getElem?_eq_getElem hlt2] at hget
      have hget':=Option.some.inj hget
      have hsz:i%(z.map (At.den E)).toArray.size<(z.map (At.den E)).toArray.size:=by simpa [hzl'] using Nat.mod_lt i hs1'
      simp only [Array.getElem_map,Array.getElem_range]
      rw [getElem!_pos (z.map (At.den E)).toArray (i%(z.map (At.den E)).toArray.size) hsz]
      simp only [List.getElem_toArray,List.getElem_map,hget']
      simp [hzl']
    have hrun:(Instr.buildSlice t n (ps.map fun (i,x)=>(i,a.eval x))).run P w = .ok (.slice (some ⟨w.heap.size,0,none⟩) n n) (w.alloc (.cells (l.map (At.den E)).toArray e)):=by
     simp only [Instr.buildSlice,Sem.run_bind,run_underlying hu,Result.andThen_ok,jD hs]
     rw [if_neg (by omega)]
     simp only [Sem.run_bind,Sem.run_ite,Sem.run_pure,h1,Result.andThen_ok,h2 E]
     by_cases h0:n*s=0
     ·have hn0:n=0:=by
       rcases Nat.mul_eq_zero.1 h0 with h | h
       ·exact h
       ·omega
      subst hn0
      simp only [Nat.zero_mul,if_true]
      simp only [kC,List.map_nil] at hf
      rw [hps']
      have he:(Array.range 0).map (fun x=>(#[]:Array Value)[x%(#[]:Array Value).size]!) = #[]:=by simp
      rw [he,hf]
      rfl
     ·simp only [if_neg h0]
      rw [hzero,hps',hf]
      rfl
    unfold Oper.wp execOp
    simp only [ho,Sem.run_bind,hrun,Result.andThen_ok,Sem.run_pure]
    have:=hk _ _ (Y0 (v:= .v (.one (.sl nb 0 n n))) (cs:=[]) (rd:=[]) (b:=⟨e,(0,0),0,l⟩) hr hg (hn nb (Nat.le_refl _) (by simp)) (Qa hl (zN (h3 p) n) hpo) rfl rfl)
    simpa [LV.den,V1.den,At.den,Oper.upon] using this
   ·cases h
  ·cases h
 ·cases h
theorem QZ:∀{l:List LV} {r:List (Nat×Nat)},XF l=some r→l.map (LV.den E)=r.map fun p=>Value.pointer (some ⟨(E p.1).1,p.2+(E p.1).pre.length,none⟩)
 | [],r,h=>by cases h;rfl
 | x::l,r,h=>by
  unfold XF at h
  split at h
  ·rename_i he;cases he
  ·rename_i b o l' he
   cases he
   split at h
   ·rename_i r' hr
    cases h
    simp [QZ hr,jbN]
   ·cases h
  ·cases h
theorem jam {p:Nat→Bool}:∀{l:List LV} {r:List (Nat×Nat)},XF l=some r→(∀v∈l,v.ok p=true)→∀q∈r,p q.1=true
 | [],r,h,_=>by cases h;simp
 | x::l,r,h,hl=>by
  unfold XF at h
  split at h
  ·rename_i he;cases he
  ·rename_i b o l' he
   cases he
   split at h
   ·rename_i r' hr
    cases h
    simp only [List.mem_cons,forall_eq_or_imp]
    exact ⟨hl (.v (.one (.ptr b o))) (by simp),jam hr fun v hv=>hl v (by simp [hv])⟩
   ·cases h
  ·cases h
theorem Xv {f:Fn} {first:List Operand} {caps:List LV} {d:Dl} (h:yN f first caps=some d):
  Pur P E w (Instr.makeFunc f (first.map a.eval).toArray (caps.map (LV.den E)).toArray) d:=by
 unfold yN at h
 split at h
 ·rename_i f' l hl
  refine jK h ?_
  simp [Instr.makeFunc,At.den,QZ (E:=E) hl]
 ·cases h
theorem xA {pd:Option Bool} {t b:Bool} {cs:List (Bool×Bool)} (h:Zn pd t=some (b,cs)) (hc:∀c∈cs,c.1=c.2):t=b:=by
 unfold Zn at h
 split at h
 ·cases h;exact hc (t,b) (by simp)
 ·cases h;rfl
 ·cases h;rfl
theorem jea (hτ:∀t,a.eval (.tmp t)=(τ t).den E) {pd:Option Bool} {c x y:Operand} {d:Dl} (h:jaM τ pd c x y=some d):
  d.wr=[]∧d.nw=[]∧((∀c∈d.cs,c.1=c.2)→(do pure (.value (if ←asBool (a.eval c) then a.eval x else a.eval y)):Sem Next).run P w = .ok (.value (d.val.den E)) w):=by
 unfold jaM at h
 split at h
 ·rename_i t ht
  have hcv:=jW hτ ht
  split at h
  ·rename_i cs hb
   split at h
   ·rename_i v hv
    cases h
    refine ⟨rfl,rfl,fun hc=> ?_⟩
    have:=xA hb hc
    subst this
    rw [hcv,←jW hτ hv]
    simp [LV.den,V1.den,At.den,asBool]
   ·cases h
  ·rename_i cs hb
   split at h
   ·rename_i v hv
    cases h
    refine ⟨rfl,rfl,fun hc=> ?_⟩
    have:=xA hb hc
    subst this
    rw [hcv,←jW hτ hv]
    simp [LV.den,V1.den,At.den,asBool]
   ·cases h
  ·cases h
 ·cases h
theorem Xw (t ty e ty0:TypeId) (i:TypeInfo) (ht:P.underlying t=some (.slice e)) (hi:P.info? e=some i) (G off n cap:Nat) (cells:Array Value) (hG:w.heap[G]? = some (.cells cells ty0 (0,0)))
  (A:Addr) (m c:Nat) (news:List Value) (hl:news.length=m*i.size) (hnews:∀j u,news[j]? = some u→w.cell? (A.add j)=some u) (h1:∀u∈news,u.oneCell'=true) (hroom:n+m≤cap) (hfit:off+n*i.size+news.length≤cells.size):
  (Builtin.append_ #[t,t] ty #[.slice (some ⟨G,off,none⟩) n cap,.slice (some A) m c]).run P w = .ok (.slice (some ⟨G,off,none⟩) (n+m) cap) (w.setRow G (cells.toList.take (off+n*i.size)++news++cells.toList.drop (off+n*i.size+news.length)).toArray):=by
 have hfc:=run_firstCells_some (P:=P) w i.size m A m c news hl hnews
 have hst:=run_storeCells_at P G (off+n*i.size) ty0 news 0 cells w hG (by simpa using hfit) h1
 simp only [Nat.add_zero] at hst
 simp [Builtin.append_,run_underlying ht,sizeOf,typeInfo,hi,Builtin.lenOf,hroom,hfc,Addr.add_lit,hst]
theorem jeb (t ty e:TypeId) (i:TypeInfo) (z:Value) (ht:P.underlying t=some (.slice e)) (hi:P.info? e=some i) (hz:i.zero=some z) (hzs:z.cells.size=i.size)
  (row:Option Nat) (v:Value) (n:Nat) (xs:List Value) (hx:xs.length=n*i.size)
  (hrow:(row=none∧(∃a0,v = .slice a0 0 0)∧n=0)∨(∃(L:Loc) (r:List Value),row=some L.blk∧v = .slice (some ⟨L.blk,L.pre.length,none⟩) n L.cap∧w.heap[L.blk]? = some (.cells (L.pre++xs++r++L.suf).toArray (L.ty.getD e) (0,0))∧xs.length+r.length=L.cap*i.size))
  (A:Addr) (m c:Nat) (news:List Value) (hl:news.length=m*i.size) (hnews:∀j u,news[j]? = some u→w.cell? (A.add j)=some u) (h1:∀u∈news,u.oneCell'=true)
  (hb:(n+m)*(i.bytes+1)≤140737488355328) (hm:row=none→1≤m):
  ∃(L:Loc) (r':List Value) (w':World),(Builtin.append_ #[t,t] ty #[v,.slice (some A) m c]).run P w = .ok (.slice (some ⟨L.blk,L.pre.length,none⟩) (n+m) L.cap) w'∧
   w'.heap[L.blk]? = some (.cells (L.pre++(xs++news)++r'++L.suf).toArray (L.ty.getD e) (0,0))∧xs.length+news.length+r'.length=L.cap*i.size∧w.grownBy w' row∧(row=some L.blk∨w.heap.size≤L.blk):=by
 have hb1:(n+m)*i.bytes≤140737488355328:=by rw [Nat.mul_add] at hb;omega
 have hb2:n+m≤140737488355328:=by rw [Nat.mul_add] at hb;omega
 rcases hrow with ⟨rfl,⟨a0,rfl⟩,rfl⟩ | ⟨⟨G,cap,pre,suf,oty⟩,r,rfl,rfl,hG,hcap⟩
 ·have hxs:xs=[]:=List.eq_nil_of_length_eq_zero (by simpa using hx)
  subst hxs
  have hm1:=hm rfl
  have hr:(Builtin.append_ #[t,t] ty #[.slice a0 0 0,.slice (some A) m c]).run P w = .ok (.slice (some ⟨w.heap.size,0,none⟩) m (grownCap w m 0 e)) (w.drew.alloc (.cells (news.toArray++Builtin.zeroCells z.cells (grownCap w m 0 e - m)) e)):=by
   cases a0 with
   | none=>exact run_append_nil (P:=P) w t ty e i z ht hi hz A m c news hl hnews (by omega) (by omega) (by have:=hb1;simp only [Nat.zero_add] at this;omega)
   | some a1=>
    have:=run_append_grow (P:=P) w t ty e i z ht hi hz a1 0 0 [] (by simp) (by simp) A m c news hl hnews (by omega) (by simp;omega) (growslice_fits (by omega) (by have:=hb1;simp only [Nat.zero_add] at this ⊢;omega))
    simpa only [Nat.zero_add,List.toArray,Array.empty_append] using this
  have hge:=grownCap_ge w m 0 e
  have hzl:(Builtin.zeroCells z.cells (grownCap w m 0 e - m)).toList.length=(grownCap w m 0 e - m)*i.size:=by rw [Array.length_toList,size_zeroCells,hzs]
  refine ⟨Loc.at w.heap.size (grownCap w m 0 e),(Builtin.zeroCells z.cells (grownCap w m 0 e - m)).toList,w.drew.alloc (.cells (news.toArray++Builtin.zeroCells z.cells (grownCap w m 0 e - m)) e),by rw [Nat.zero_add];exact hr, ?_, ?_,⟨rfl,rfl,rfl,by simp,fun k hk _=>Below.heap_alloc w.drew _ k hk⟩,.inr (Nat.le_refl _)⟩
  ·show (w.drew.alloc _).heap[w.drew.heap.size]? = _
   rw [heap_alloc_new]
   congr 2
   apply Array.ext'
   simp
  ·rw [hzl,hl]
   simp only [List.length_nil,Nat.zero_add]
   rw [←Nat.add_mul]
   show _=grownCap w m 0 e*i.size
   congr 1
   omega
 ·simp only at hG hcap
  by_cases hroom:n+m≤cap
  ·have hfit:pre.length+n*i.size+news.length≤(pre++xs++r++suf).toArray.size:=by
    simp only [List.size_toArray,List.length_append]
    have:(n+m)*i.size≤cap*i.size:=Nat.mul_le_mul_right _ hroom
    rw [Nat.add_mul] at this
    omega
   have hr:=Xw (P:=P) (w:=w) t ty e (oty.getD e) i ht hi G pre.length n cap (pre++xs++r++suf).toArray hG A m c news hl hnews h1 hroom hfit
   have hrl:news.length≤r.length:=by
    have:(n+m)*i.size≤cap*i.size:=Nat.mul_le_mul_right _ hroom
    rw [Nat.add_mul] at this
    omega
   have hlist:(pre++xs++r++suf).toArray.toList.take (pre.length+n*i.size)++news++(pre++xs++r++suf).toArray.toList.drop (pre.length+n*i.size+news.length)=pre++(xs++news)++r.drop news.length++suf:=by
    have e1:(pre++xs++r++suf).toArray.toList=(pre++xs)++(r++suf):=by simp
    have e2:(pre++xs).length=pre.length+n*i.size:=by simp [hx]
    rw [e1,←e2,List.take_left,List.drop_append,List.drop_of_length_le (by omega),List.nil_append,Nat.add_sub_cancel_left,List.drop_append_of_le_length hrl]
    simp
   rw [hlist] at hr
   refine ⟨⟨G,cap,pre,suf,oty⟩,r.drop news.length,w.setRow G (pre++(xs++news)++r.drop news.length++suf).toArray,hr,setRow_heap w G _ _ _ _ hG, ?_,⟨rfl,rfl,rfl,by simp [World.setRow],fun k _ hk=>setRow_other w G k _ (fun e=>hk (by simp [e]))⟩,.inl rfl⟩
   simp only [List.length_drop]
   omega
  ·have holds:∀j u,xs[j]? = some u→w.cell? ((⟨G,pre.length,none⟩:Addr).add j)=some u:=by
    intro j u hu
    rw [j5,cell_of_row w G (pre.length+j) _ _ (0,0) hG]
    obtain ⟨hlt,hu'⟩:=List.getElem?_eq_some_iff.1 hu
    rw [List.append_assoc,List.append_assoc,List.getElem?_toArray,List.getElem?_append_right (by omega),Nat.add_sub_cancel_left]
    simp [List.getElem?_append_left,hlt,hu']
   have hr:=run_append_grow (P:=P) w t ty e i z ht hi hz ⟨G,pre.length,none⟩ n cap xs hx holds A m c news hl hnews (by omega) (by omega) (growslice_fits (by omega) hb1)
   have hge:=grownCap_ge w (n+m) cap e
   have hzl:(Builtin.zeroCells z.cells (grownCap w (n+m) cap e - (n+m))).toList.length=(grownCap w (n+m) cap e - (n+m))*i.size:=by rw [Array.length_toList,size_zeroCells,hzs]
   refine ⟨Loc.at w.heap.size (grownCap w (n+m) cap e),(Builtin.zeroCells z.cells (grownCap w (n+m) cap e - (n+m))).toList,w.drew.alloc (.cells (xs.toArray++news.toArray++Builtin.zeroCells z.cells (grownCap w (n+m) cap e - (n+m))) e),hr, ?_, ?_,⟨rfl,rfl,rfl,by simp,fun k hk _=>Below.heap_alloc w.drew _ k hk⟩,.inr (Nat.le_refl _)⟩
   ·show (w.drew.alloc _).heap[w.drew.heap.size]? = _
    rw [heap_alloc_new]
    congr 2
    apply Array.ext'
    simp
   ·show _=grownCap w (n+m) cap e*i.size
    rw [hzl,hl,hx,←Nat.add_mul,←Nat.add_mul]
    congr 1
    omega
theorem jbS {s:Nat} {x:LV} {m b:Nat} {news:List At} {cs:List (Bool×Bool)} (hr:Rel E g w) (h:yR g s x=some (m,news,b,cs)) (hc:∀c∈cs,c.1=c.2):
  ∃A c,x.den E = .slice (some A) m c∧news.length=m*s∧(∀j u,(news.map (At.den E))[j]? = some u→w.cell? (A.add j)=some u)∧(∀u∈news.map (At.den E),u.oneCell'=true)∧(∃k,g b=some k∧∀a∈news,a∈k.cells):=by
 have key:∀(b o m c:Nat) (k:Blk),g b=some k→o+m*s≤k.cells.length→kK ((k.cells.drop o).take (m*s))=true→
   ∃A c',Value.slice (some ⟨(E b).1,o+(E b).pre.length,none⟩) m c = .slice (some A) m c'∧((k.cells.drop o).take (m*s)).length=m*s∧
    (∀j u,(((k.cells.drop o).take (m*s)).map (At.den E))[j]? = some u→w.cell? (A.add j)=some u)∧(∀u∈((k.cells.drop o).take (m*s)).map (At.den E),u.oneCell'=true)∧(∃k',g b=some k'∧∀a∈(k.cells.drop o).take (m*s),a∈k'.cells):=by
  intro b o m c k hk hle hall
  refine ⟨_,c,rfl, ?_,fun j u hu=> ?_,fun u hu=> ?_,k,hk,fun a ha=>List.mem_of_mem_drop (List.mem_of_mem_take ha)⟩
  ·simp only [List.length_take,List.length_drop];omega
  ·rw [j5,show o+(E b).pre.length+j=o+j+(E b).pre.length by omega]
   rw [List.getElem?_map] at hu
   obtain ⟨x,hx,rfl⟩:=Option.map_eq_some_iff.1 hu
   refine zM (hr.blk b k hk) ?_
   rw [List.getElem?_take] at hx
   split at hx
   ·rw [List.getElem?_drop] at hx;exact hx
   ·cases hx
  ·obtain ⟨x,hx,rfl⟩:=List.mem_map.1 hu
   exact (zL (allCell_iff.1 hall x hx)).2
 unfold yR at h
 split at h
 ·rename_i b o m c
  split at h
  ·rename_i k hk
   split at h
   ·rename_i l hcut
    split at h
    ·rename_i hall
     cases h
     obtain ⟨h1,h2⟩:=yu hcut
     subst h1
     exact key b o m c k hk h2 hall
    ·cases h
   ·cases h
  ·cases h
 ·rename_i b m
  split at h
  ·rename_i k hk
   split at h
   ·rename_i l hcut
    split at h
    ·rename_i hall
     cases h
     obtain ⟨h1,h2⟩:=yu hcut
     subst h1
     have:=key b 0 m (E b).2 k hk h2 hall
     rw [Nat.zero_add] at this
     exact this
    ·cases h
   ·cases h
  ·cases h
 ·rename_i b o m c
  split at h
  ·rename_i k hk
   cases h
   have:=hc _ (List.mem_singleton.2 rfl)
   simp only [Bool.and_eq_true,decide_eq_true_eq] at this
   exact key b o m c k hk this.1 this.2
  ·cases h
 ·cases h
theorem yw:∀(l m:List At),XG l m=l++m
 | [],_=>rfl
 | a::l,m=>by simp [XG,yw l m]
theorem jbT {e:TypeId} {s:Nat} {x:LV} {n:Nat} {old:List At} {kill:Option Nat} (hr:Rel E g w) (h:yE g e s x=some (n,old,kill)) (hs:1≤s):
  old.length=n*s∧(∀b,kill=some b→∃k,g b=some k∧∀a∈old,a∈k.cells)∧
  ((kill.map fun b=>(E b).1)=none∧(∃a0,x.den E = .slice a0 0 0)∧n=0∨
    ∃(L:Loc) (r:List Value),(kill.map fun b=>(E b).1)=some L.blk∧x.den E = .slice (some ⟨L.blk,L.pre.length,none⟩) n L.cap∧w.heap[L.blk]? = some (.cells (L.pre++old.map (At.den E)++r++L.suf).toArray (L.ty.getD e) (0,0))∧(old.map (At.den E)).length+r.length=L.cap*s):=by
 unfold yE at h
 split at h
 ·cases h;exact ⟨by simp,by simp,.inl ⟨rfl,⟨none,rfl⟩,rfl⟩⟩
 ·rename_i b n'
  split at h
  ·rename_i ty es l hk
   split at h
   ·rename_i old' h1 h2 h3
    rw [kX] at h1 h2
    obtain ⟨h3,h4⟩:=yu h3
    simp only [decide_eq_true_eq] at h1 h2
    rw [List.drop_zero] at h3
    subst h1
    subst h2
    cases h
    obtain ⟨r,g1,g2,g3⟩:=hr.blk b _ hk
    have hlen:old.length=n*es:=by rw [h3,List.length_take];omega
    refine ⟨hlen,fun b' hb=>by cases hb;exact ⟨_,hk,fun a ha=>by rw [h3] at ha;exact List.mem_of_mem_take ha⟩,.inr ⟨E b,(l.drop (n*es)).map (At.den E)++r,rfl,rfl, ?_, ?_⟩⟩
    ·rw [g1]
     congr 3
     have:l.map (At.den E)=old.map (At.den E)++(l.drop (n*es)).map (At.den E):=by rw [h3,←List.map_append,List.take_append_drop]
     rw [this]
     simp
    ·have:=g3 (by show es≠0;omega)
     simp only at this
     simp only [List.length_map,List.length_append,List.length_drop,hlen]
     omega
   ·cases h
  ·cases h
 ·cases h;exact ⟨by simp,by simp,.inl ⟨rfl,⟨_,rfl⟩,rfl⟩⟩
 ·rename_i b n' c _
  split at h
  ·rename_i ty l hk
   split at h
   ·rename_i h1 h2 h3
    rw [kX] at h1 h2 h3
    rw [xa] at h3
    simp only [decide_eq_true_eq] at h1 h2 h3
    subst h1
    subst h2
    cases h
    obtain ⟨r,g1,g2,g3⟩:=hr.blk b _ hk
    have hr0:=g2 rfl
    subst hr0
    refine ⟨h3,fun b' hb=>by cases hb;exact ⟨_,hk,fun a ha=>ha⟩,.inr ⟨⟨(E b).1,n,(E b).pre,(E b).suf,(E b).ty⟩,[],rfl,by simp [LV.den,V1.den,At.den],g1,by simpa using h3⟩⟩
   ·cases h
  ·cases h
 ·cases h
theorem KC {p:Nat→Bool} {o:Oper} {c:Call} {args:List LV} {d:Dl} (ho:o.op = .call c) (hb:c.callee = .builtin .append) (hargs:c.args.map a.eval=(args.map (LV.den E)).toArray)
  (h:xM P nb g c.argTypes.toList args=some d) (hr:Rel E g w) (hg:∀i c,g i=some c→p i=true∧okL p c.cells=true) (hn:∀i,nb≤i→i<nb+d.nw.length→p i=false):StepOK P o a w E g nb d:=by
 unfold xM at h
 split at h
 ·rename_i t u s x hts
  split at h
  ·rename_i e htu hu
   rw [kX] at htu
   simp only [decide_eq_true_eq] at htu
   subst htu
   split at h
   ·rename_i i z hi hz
    split at h
    ·rename_i n old kill m news b cs hold hnews
     split at h
     ·rename_i q1 q2 q3
      cases h
      intro hc K Q hk
      rw [kX,xa] at q1
      rw [Kx] at q2
      simp only [decide_eq_true_eq] at q1 q2
      obtain ⟨zv,z1,z2,_⟩:=kR hz w
      have hcs:∀c∈cs,c.1=c.2:=fun c' hc'=>hc c' (List.mem_cons_of_mem _ hc')
      have hask:=hc _ (List.mem_cons_self ..)
      simp only [Bool.and_eq_true,Kx,decide_eq_true_eq] at hask
      obtain ⟨A,ca,hx,n1,n2,n3,kb,hkb,hmem⟩:=jbS hr hnews hcs
      obtain ⟨o1,o2,o3⟩:=jbT hr hold q2
      have hzero:∃z',i.zero=some z'∧z'.cells.size=i.size:=by
       unfold KI at hz
       rw [hi] at hz
       simp only at hz
       split at hz
       ·rename_i z' hz'
        refine ⟨z',hz', ?_⟩
        have e1:(zeroValue e).run P w = .ok z' w:=by simp [zeroValue,typeInfo,hi,hz']
        rw [e1] at z1
        cases z1
        rw [z2 E]
        simpa using q1
       ·cases hz
      obtain ⟨z',hz',hzs⟩:=hzero
      have hm:(kill.map fun b=>(E b).1)=none→1≤m:=by
       intro hk0
       cases kill with
       | none=>have:=hask.2;simp only [Qn,Kx,decide_eq_true_eq] at this;exact this
       | some b=>cases hk0
      obtain ⟨L,r',w',hrun,h1,h2,h3,h4⟩:=jeb (P:=P) (w:=w) t o.type e i z' hu hi hz' hzs (kill.map fun b=>(E b).1) (s.den E) n (old.map (At.den E)) (by simpa using o1) o3
       A m ca (news.map (At.den E)) (by simpa using n1) n2 n3 hask.1 hm
      have hat:c.argTypes = #[t,t]:=by
       rcases c with ⟨_,_,⟨l⟩⟩
       simpa using hts
      have hex:(execOp a.eval o).run P w = .ok (.value (.slice (some ⟨L.blk,L.pre.length,none⟩) (n+m) L.cap)) w':=by
       have:execOp a.eval o=(do pure (.value (←Builtin.append_ #[t,t] o.type #[s.den E,x.den E]))):=by
        simp [execOp,ho,resolve,hb,hargs,hat,invoke,builtin]
       rw [this,hx]
       simp only [Sem.run_bind,hrun,Result.andThen_ok,Sem.run_pure]
      unfold Oper.wp
      rw [hex]
      have hpnb:p nb=false:=hn nb (Nat.le_refl _) (by simp)
      have hgnb:∀j,(g j).isSome→j≠nb:=fun j hj e=>by
       obtain ⟨b',hb'⟩:=Option.isSome_iff_exists.1 hj
       rw [e] at hb'
       have:=(hg nb b' hb').1
       rw [hpnb] at this
       cases this
      have hold_lt:∀j b',g j=some b'→(E j).1<w.heap.size:=fun j b' hj=>by
       obtain ⟨r,g1,_⟩:=hr.blk j b' hj
       exact (Array.getElem?_eq_some_iff.1 g1).1
      have hokN:okL p news=true:=okL_iff.2 fun a' ha'=>okL_iff.1 (hg b kb hkb).2 a' (hmem a' ha')
      have hokO:okL p old=true:=by
       cases kill with
       | none=>
        rcases o3 with ⟨_,_,hn0⟩ | ⟨L0,r,he,_⟩
        ·have:old=[]:=List.eq_nil_of_length_eq_zero (by rw [o1,hn0];simp)
         rw [this];rfl
        ·cases he
       | some kb'=>
        obtain ⟨k,hk1,hk2⟩:=o2 kb' rfl
        exact okL_iff.2 fun a' ha'=>okL_iff.1 (hg kb' k hk1).2 a' (hk2 a' ha')
      have hagE:∀j,p j=true→(if j=nb then L else E j)=E j:=fun j hj=>by
       rw [if_neg];intro e;rw [e,hpnb] at hj;cases hj
      have hlive:∀j b',nwG (wrG g (KJ kill)) nb [⟨e,(0,0),i.size,XG old news⟩] j=some b'→j≠nb→g j=some b'∧∀q,kill=some q→j≠q:=by
       intro j b' hj hne
       simp only [nwG,if_neg hne] at hj
       cases kill with
       | none=>exact ⟨hj,fun q hq=>by cases hq⟩
       | some q=>
        simp only [KJ,wrG] at hj
        split at hj
        ·cases hj
        ·rename_i hjq;exact ⟨hj,fun q' hq'=>by cases hq';exact hjq⟩
      have hrowne:∀j b',g j=some b'→(∀q,kill=some q→j≠q)→some (E j).1≠kill.map fun b=>(E b).1:=by
       intro j b' hj hq he
       cases kill with
       | none=>cases he
       | some q=>
        obtain ⟨k,hk1,_⟩:=o2 q rfl
        simp only [Option.map_some,Option.some.injEq] at he
        exact hq q rfl (hr.inj j q (by simp [hj]) (by simp [hk1]) he)
      have hGne:∀j b',g j=some b'→(∀q,kill=some q→j≠q)→(E j).1≠L.blk:=by
       intro j b' hj hq he
       rcases h4 with h4 | h4
       ·exact hrowne j b' hj hq (by rw [h4,he])
       ·have:=hold_lt j b' hj;omega
      have hpost:Post w E g nb ⟨.v (.one (.slu nb (n+m))),KJ kill,[⟨e,(0,0),i.size,XG old news⟩],b::jmA kill,(Nat.ble ((n+m)*(i.bytes+1)) 140737488355328&&Qn kill m,true)::cs⟩
        (fun j=>if j=nb then L else E j) w':=by
       refine ⟨fun j hj=> ?_,⟨fun j b' hj=> ?_,fun j k hj hk he=> ?_⟩,h3.os,h3.tape,h3.output,h3.size,fun k hk hne=>h3.block k hk ?_,fun j j1 j2=> ?_⟩
       ·simp only [List.length_cons,List.length_nil] at hj
        rw [if_neg (by omega)]
       ·by_cases hjn:j=nb
        ·subst hjn
         simp only [nwG,if_true,Option.some.injEq] at hj
         subst hj
         refine ⟨r', ?_,fun h0=> ?_,fun _=> ?_⟩
         ·simp only [if_true]
          rw [h1,yw,List.map_append,jX hagE hokO,jX hagE hokN]
         ·exact absurd h0 (by show i.size≠0;omega)
         ·simp only [if_true,yw]
          simpa using h2
        ·obtain ⟨hj1,hj2⟩:=hlive j b' hj hjn
         obtain ⟨r,g1,g2,g3⟩:=hr.blk j b' hj1
         refine ⟨r, ?_,g2, ?_⟩
         ·simp only [if_neg hjn]
          rw [h3.block _ (hold_lt j b' hj1) (hrowne j b' hj1 hj2),jX hagE (hg j b' hj1).2]
          exact g1
         ·simp only [if_neg hjn];exact g3
       ·obtain ⟨bj,hbj⟩:=Option.isSome_iff_exists.1 hj
        obtain ⟨bk,hbk⟩:=Option.isSome_iff_exists.1 hk
        by_cases hjn:j=nb
        ·by_cases hkn:k=nb
         ·rw [hjn,hkn]
         ·obtain ⟨k1,k2⟩:=hlive k bk hbk hkn
          simp only [if_pos hjn,if_neg hkn] at he
          exact absurd he.symm (hGne k bk k1 k2)
        ·obtain ⟨j1,j2⟩:=hlive j bj hbj hjn
         by_cases hkn:k=nb
         ·simp only [if_pos hkn,if_neg hjn] at he
          exact absurd he (hGne j bj j1 j2)
         ·obtain ⟨k1,k2⟩:=hlive k bk hbk hkn
          simp only [if_neg hjn,if_neg hkn] at he
          exact hr.inj j k (by simp [j1]) (by simp [k1]) he
       ·cases kill with
        | none=>simp
        | some q=>
         obtain ⟨kq,hk1,_⟩:=o2 q rfl
         simp only [Option.map_some,ne_eq,Option.some.injEq]
         exact fun he=>hne q (by simp [hk1]) he.symm
       ·simp only [List.length_cons,List.length_nil] at j2
        have:j=nb:=by omega
        subst this
        simp only [if_true]
        rcases h4 with h4 | h4
        ·right
         cases kill with
         | none=>cases h4
         | some q=>
          obtain ⟨kq,hk1,_⟩:=o2 q rfl
          simp only [Option.map_some,Option.some.injEq] at h4
          exact ⟨q,by simp [hk1],h4.symm⟩
        ·exact .inl h4
      have:=hk _ _ hpost
      simpa [LV.den,V1.den,At.den,Oper.upon] using this
     ·cases h
    ·cases h
   ·cases h
  ·cases h
 ·cases h
theorem Q2 (t ty e:TypeId) (i:TypeInfo) (ht:P.underlying t=some (.slice e)) (hi:P.info? e=some i) (b:Option Addr) (n c:Nat) (hc:n≤c) (b':Option Addr) (c':Nat) (w:World):
  (Builtin.append_ #[t,t] ty #[.slice b n c,.slice b' 0 c']).run P w = .ok (.slice b n c) w:=by
 have hl:∀a w,(loadCells a 0).run P w = .ok #[] w:=fun a w=>by simpa using run_loadCells_list (P:=P) w a [] (by simp)
 cases b <;> cases b' <;> simp [Builtin.append_,run_underlying ht,sizeOf,typeInfo,hi,Builtin.lenOf,hc,Builtin.firstCells,storeCells,hl]
theorem jbU {args:List LV} {s:LV} (h:jeV args=some s):∃x,args=[s,x]∧∀E:Env,∃b c,x.den E = .slice b 0 c:=by
 unfold jeV at h
 split at h <;> (try (cases h;done)) <;> cases h <;> exact ⟨_,rfl,fun E=>⟨_,_,rfl⟩⟩
theorem zk {ts:List TypeId} {s:LV} {d:Dl} (h:Yk P g ts s=some d):
  ∃t e i,ts=[t,t]∧P.underlying t=some (.slice e)∧P.info? e=some i∧((s = .v (.one .nilsl)∧val1 .nilsl=some d)∨(∃b o n c k,s = .v (.one (.sl b o n c))∧g b=some k∧n≤c∧d=⟨.v (.one (.sl b o n c)),[],[],[b],[]⟩)∨
   ∃b n ty es l,s = .v (.one (.slu b n))∧g b=some ⟨ty,(0,0),es,l⟩∧1≤es∧n*es≤l.length∧d=⟨.v (.one (.slu b n)),[],[],[b],[]⟩):=by
 unfold Yk at h
 split at h
 ·rename_i t u
  split at h
  ·rename_i e htu hu
   rw [kX] at htu
   simp only [decide_eq_true_eq] at htu
   subst htu
   split at h
   ·rename_i i hi
    split at h
    ·exact ⟨_,e,i,rfl,hu,hi,.inl ⟨rfl,h⟩⟩
    ·rename_i b o n c
     split at h
     ·rename_i k hk hnc
      cases h
      rw [Kx] at hnc
      exact ⟨_,e,i,rfl,hu,hi,.inr (.inl ⟨b,o,n,c,k,rfl,hk,by simpa using hnc,rfl⟩)⟩
     ·cases h
    ·rename_i b n
     split at h
     ·rename_i ty es l s hk hs
      split at h
      ·rename_i q1 q2 q3
       cases h
       rw [kX] at q1
       rw [Kx] at q2 q3
       rw [xa] at q3
       simp only [decide_eq_true_eq] at q1 q2 q3
       subst q1
       exact ⟨_,e,i,rfl,hu,hi,.inr (.inr ⟨b,n,ty,es,l,rfl,hk,q2,q3,rfl⟩)⟩
      ·cases h
     ·cases h
    ·cases h
   ·cases h
  ·cases h
 ·cases h
theorem jan {p:Nat→Bool} {o:Oper} {c:Call} {args:List LV} {d:Dl} (ho:o.op = .call c) (hb:c.callee = .builtin .append) (hargs:c.args.map a.eval=(args.map (LV.den E)).toArray)
  (h:yT P nb g c.argTypes.toList args=some d) (hr:Rel E g w) (hg:∀i c,g i=some c→p i=true∧okL p c.cells=true) (hn:∀i,nb≤i→i<nb+d.nw.length→p i=false):StepOK P o a w E g nb d:=by
 unfold yT at h
 split at h
 ·rename_i s hs
  obtain ⟨x,hs,hx⟩:=jbU hs
  subst hs
  obtain ⟨b',c',hx⟩:=hx E
  obtain ⟨t,e,i,hts,hu,hi,hd⟩:=zk h
  have hat:c.argTypes = #[t,t]:=by
   rcases c with ⟨_,_,⟨l⟩⟩
   simpa using hts
  have hex:∀(b:Option Addr) (n cp:Nat),s.den E = .slice b n cp→n≤cp→(execOp a.eval o).run P w = .ok (.value (.slice b n cp)) w:=by
   intro b n cp hsd hnc
   have hrun:=Q2 (P:=P) t o.type e i hu hi b n cp hnc b' c' w
   have:execOp a.eval o=(do pure (.value (←Builtin.append_ #[t,t] o.type #[s.den E,x.den E]))):=by
    simp [execOp,ho,resolve,hb,hargs,hat,invoke,builtin]
   rw [this,hsd,hx]
   simp only [Sem.run_bind,hrun,Result.andThen_ok,Sem.run_pure]
  rcases hd with ⟨rfl,hd⟩ | ⟨b,o',n,cp,k,rfl,hk,hnc,rfl⟩ | ⟨b,n,ty,es,l,rfl,hk,hes,hle,rfl⟩
  ·cases hd
   intro hc K Q hK
   unfold Oper.wp
   rw [hex none 0 0 rfl (Nat.le_refl _)]
   exact hK E w (.refl rfl rfl hr)
  ·intro hc K Q hK
   unfold Oper.wp
   rw [hex _ n cp rfl hnc]
   exact hK E w (.refl rfl rfl hr)
  ·intro hc K Q hK
   unfold Oper.wp
   have hcap:=jbQ hr hk hes
   have hn:n≤(E b).2:=Nat.le_of_mul_le_mul_right (Nat.le_trans hle hcap) (by omega)
   rw [hex _ n _ rfl hn]
   exact hK E w (.refl rfl rfl hr)
 ·exact KC ho hb hargs h hr hg hn
def unV:LV→LV
 | .v (.one (.slv b n))=> .v (.one (.slu b n))
 | x=>x
theorem jlU (x:LV):(unV x).den E=x.den E:=by
 unfold unV
 split <;> rfl
theorem jao:∀(l:List At) (n:Nat),n≤l.length→∃r,Xh l 0 n=some r
 | l,0,_=>by cases l <;> exact ⟨_,rfl⟩
 | [],n+1,h=>by simp at h
 | a::l,n+1,h=>by
  obtain ⟨r,hr⟩:=jao l n (by simpa using h)
  exact ⟨a::r,by simp only [Xh,hr]⟩
theorem jdo {l:List At} {n:Nat} (h:n≤l.length):cut l 0 n=some (l.take n):=by
 obtain ⟨r,hr⟩:=jao l n h
 rw [jdi,hr,(JM hr).1,List.drop_zero]
theorem jec {s:Nat} {x:LV} {m b:Nat} {news:List At} {cs:List (Bool×Bool)} (h:Zw g s x=some (m,news,b,cs)) (hc:∀c∈cs,c.1=c.2):
  ∃cs',yR g s (unV x)=some (m,news,b,cs')∧∀c∈cs',c.1=c.2:=by
 unfold Zw at h
 split at h
 ·rename_i b' m'
  split at h
  ·rename_i k hk
   cases h
   have:=hc _ (List.mem_singleton.2 rfl)
   simp only [Bool.and_eq_true,decide_eq_true_eq] at this
   refine ⟨[], ?_,by simp⟩
   simp only [unV,yR,hk,jdo this.1,this.2]
  ·cases h
 ·rename_i hx
  refine ⟨cs, ?_,hc⟩
  have:unV x=x:=by
   unfold unV
   split
   ·rename_i b' n';exact absurd rfl (hx b' n')
   ·rfl
  rw [this];exact h
theorem jed {e:TypeId} {s:Nat} {x:LV} {n:Nat} {old:List At} {kill:Option Nat} {c:Bool} (h:Yl g e s x=some (n,old,kill,c)) (hc:c=true):yE g e s (unV x)=some (n,old,kill):=by
 subst hc
 unfold Yl at h
 split at h
 ·cases h;rfl
 ·rename_i b' n'
  split at h
  ·rename_i ty es l hk
   split at h
   ·rename_i h1 h2
    simp only [Option.some.injEq,Prod.mk.injEq] at h
    obtain ⟨rfl,rfl,rfl,h3⟩:=h
    simp only [decide_eq_true_eq] at h3
    simp only [unV,yE,hk,h1,h2,jdo h3]
   ·cases h
  ·cases h
 ·cases h;rfl
 ·cases h
theorem jap {p:Nat→Bool} {o:Oper} {c:Call} {args:List LV} {d:Dl} (ho:o.op = .call c) (hb:c.callee = .builtin .append) (hargs:c.args.map a.eval=(args.map (LV.den E)).toArray)
  (h:yS P nb g c.argTypes.toList args=some d) (hr:Rel E g w) (hg:∀i c,g i=some c→p i=true∧okL p c.cells=true) (hn:∀i,nb≤i→i<nb+d.nw.length→p i=false):StepOK P o a w E g nb d:=by
 unfold yS at h
 split at h
 ·rename_i t u s x hts
  split at h
  ·rename_i e htu hu
   split at h
   ·rename_i i z hi hz
    split at h
    ·rename_i n old kill ca m news b cs hold hnews
     split at h
     ·rename_i q1 q2 q3
      cases h
      intro hc K Q hK
      have c1:=hc (ca,true) (by simp)
      have c0:=hc _ (List.mem_cons_self ..)
      obtain ⟨cs',hn',hc'⟩:=jec hnews fun c' hc'=>hc c' (by simp [hc'])
      have ho':=jed hold c1
      have h2:xM P nb g c.argTypes.toList [unV s,unV x]=some ⟨.v (.one (.slu nb (n+m))),KJ kill,[⟨e,(0,0),i.size,XG old news⟩],b::jmA kill,(Nat.ble ((n+m)*(i.bytes+1)) 140737488355328&&Qn kill m,true)::cs'⟩:=by
       unfold xM
       simp only [hts,htu,hu,hi,hz,ho',hn',q1,q2,q3]
      refine KC (E:=E) (p:=p) ho hb (args:=[unV s,unV x]) (by rw [hargs];simp [jlU]) h2 hr hg hn (fun c' hc2=> ?_) K Q fun E' w' hp=> ?_
      ·rcases List.mem_cons.1 hc2 with rfl | hc2
       ·exact c0
       ·exact hc' c' hc2
      ·exact hK E' w' ⟨hp.1,hp.2,hp.3,hp.4,hp.5,hp.6,hp.7,hp.8⟩
     ·cases h
    ·cases h
   ·cases h
  ·cases h
 ·cases h
theorem jaq {p:Nat→Bool} {o:Oper} {c:Call} {args:List LV} {d:Dl} (ho:o.op = .call c) (hb:c.callee = .builtin .append) (hargs:c.args.map a.eval=(args.map (LV.den E)).toArray)
  (h:yU P nb g c.argTypes.toList args=some d) (hr:Rel E g w) (hg:∀i c,g i=some c→p i=true∧okL p c.cells=true) (hn:∀i,nb≤i→i<nb+d.nw.length→p i=false):StepOK P o a w E g nb d:=by
 unfold yU at h
 split at h
 ·exact jap ho hb hargs h hr hg hn
 ·exact jan ho hb hargs h hr hg hn
theorem Q3 {p:Nat→Bool} {o:Oper} {t:TypeId} {c:Bool} {b n:Nat} {lo hi:Option LV} {d:Dl} {s:Sem Value} (ho:execOp a.eval o=(do pure (.value (←s))))
  (hs0:s=Instr.sliceAt t ((At.slu b n).den E) (lo.map (LV.den E)) (hi.map (LV.den E)) none) (h:yC P g nb t c b n lo hi=some d) (hr:Rel E g w)
  (hg:∀i c,g i=some c→p i=true∧okL p c.cells=true) (hn:∀i,nb≤i→i<nb+d.nw.length→p i=false):StepOK P o a w E g nb d:=by
 unfold yC at h
 split at h
 ·rename_i e hu
  split at h
  ·rename_i s' ty es l hs hk
   split at h
   ·rename_i hh q1 q2 q3 hb
    rw [kX] at q1 q2
    rw [Kx] at q3
    simp only [decide_eq_true_eq] at q1 q2 q3
    rw [xa] at hb
    subst q1
    subst q2
    have hcap:=jbQ hr hk q3
    have hdiv:l.length/es≤(E b).2:=by
     have:l.length/es*es≤(E b).2*es:=Nat.le_trans (Nat.div_mul_le_self _ _) hcap
     exact Nat.le_of_mul_le_mul_right this (by omega)
    have hb':=X5 hb hdiv
    have run:∀k,kl lo 0 hh=some k→(execOp a.eval o).run P w = .ok (.value (.slice (some (if (E b).2=k then (⟨(E b).1,(E b).pre.length,none⟩:Addr) else (⟨(E b).1,(E b).pre.length,none⟩:Addr).add (k*es))) (hh - k) ((E b).2 - k))) w:=by
     intro k hl
     rw [ho,hs0]
     have:=jd8 (P:=P) (E:=E) (w:=w) (a:=(⟨(E b).1,(E b).pre.length,none⟩:Addr)) (n:=n) hu hs hb' hl
     simp only [At.den,Sem.run_bind,this,Result.andThen_ok,Sem.run_pure]
    split at h
    ·rename_i hl _
     cases h
     intro hc K Q hK
     unfold Oper.wp
     rw [run 0 hl]
     have:=hK E w (.refl rfl rfl hr)
     have e:(if (E b).2=0 then (⟨(E b).1,(E b).pre.length,none⟩:Addr) else (⟨(E b).1,(E b).pre.length,none⟩:Addr).add (0*es))=⟨(E b).1,(E b).pre.length,none⟩:=by
      by_cases h0:(E b).2=0
      ·rw [if_pos h0]
      ·rw [if_neg h0,Nat.zero_mul,j5,Nat.add_zero]
     rw [e]
     exact this
    ·rename_i k hl _
     split at h
     ·rename_i q4
      cases h
      rw [kX,xa] at q4
      simp only [decide_eq_true_eq] at q4
      simp only [kl,Option.some.injEq] at hb
      subst hb
      have hkn:k+1≤n:=K9 hl (Nat.zero_le _)
      intro hc K Q hK
      obtain ⟨E',-,h1,h2⟩:=jgn (p:=p) (v:= .v (.one (.slu nb (n - (k+1))))) (cs:=[]) (rd:=[b]) hr hg (hn nb (Nat.le_refl _) (by simp)) hk q3 q4 hkn
      unfold Oper.wp
      rw [run (k+1) hl,h1]
      exact hK E' w h2
     ·split at h
      ·rename_i q4
       cases h
       rw [kX] at q4
       simp only [decide_eq_true_eq] at q4
       intro hc K Q hK
       unfold Oper.wp
       rw [run (k+1) hl]
       have:=hK E w (.refl rfl rfl hr)
       have e:Value.slice (some (if (E b).2=k+1 then (⟨(E b).1,(E b).pre.length,none⟩:Addr) else (⟨(E b).1,(E b).pre.length,none⟩:Addr).add ((k+1)*es))) (hh - (k+1)) ((E b).2 - (k+1))=(At.slt b ((k+1)*es) (k+1)).den E:=by
        simp only [At.den]
        rw [←q4,Nat.sub_self]
        by_cases h0:(E b).2=k+1
        ·simp [h0]
        ·simp only [if_neg h0];rw [j5,Nat.add_comm]
       rw [e]
       exact this
      ·cases h
    ·cases h
   ·cases h
  ·cases h
 ·cases h
theorem Jh {t:TypeId} {c:Bool} {b n:Nat} {lo hi:Option LV} {d:Dl} (h:Kr P g nb t c b n lo hi=some d):
  ∃k e s l,g b=some ⟨e,(0,0),s,l⟩∧d=⟨.v (.one (.slv nb (n - (k+1)))),[(b,none)],[⟨e,(0,0),s,l.drop ((k+1)*s)⟩],[b],[(decide (k+1≤n)&&decide (l.length=n*s),true)]⟩∧
   (k+1≤n→l.length=n*s→yC P g nb t c b n lo hi=some ⟨.v (.one (.slu nb (n - (k+1)))),[(b,none)],[⟨e,(0,0),s,l.drop ((k+1)*s)⟩],[b],[]⟩):=by
 unfold Kr at h
 split at h
 ·rename_i e hu
  split at h
  ·rename_i s ty es l hs hk
   split at h
   ·rename_i q1 q2 q3
    split at h
    ·rename_i kk k
     cases h
     rw [kX] at q1 q2
     simp only [decide_eq_true_eq] at q1 q2
     subst q1
     subst q2
     refine ⟨k,ty,es,l,hk,rfl,fun h1 h2=> ?_⟩
     unfold yC
     have e1:Nat.ble (k+1) n=true:=by rw [Kx];simpa using h1
     have e2:Nat.ble (n*es) (len l)=true:=by rw [Kx,xa];simp;omega
     have e3:Nat.beq (len l) (n*es)=true:=by rw [kX,xa];simpa using h2
     have e4:Nat.beq ty ty=true:=by rw [kX];simp
     have e5:Nat.beq es es=true:=by rw [kX];simp
     simp only [hu,hs,hk,e4,e5,q3,kl,e1,e2,e3]
    ·cases h
   ·cases h
  ·cases h
 ·cases h
theorem jbV {p:Nat→Bool} {o:Oper} {t:TypeId} {c:Bool} {b n:Nat} {lo hi:Option LV} {d:Dl} {s:Sem Value} (ho:execOp a.eval o=(do pure (.value (←s))))
  (hs0:s=Instr.sliceAt t ((At.slv b n).den E) (lo.map (LV.den E)) (hi.map (LV.den E)) none) (h:Kr P g nb t c b n lo hi=some d) (hr:Rel E g w)
  (hg:∀i c,g i=some c→p i=true∧okL p c.cells=true) (hn:∀i,nb≤i→i<nb+d.nw.length→p i=false):StepOK P o a w E g nb d:=by
 obtain ⟨k,e,z,l,hk,rfl,h2⟩:=Jh h
 intro hc K Q hK
 have:=hc _ (List.mem_singleton.2 rfl)
 simp only [Bool.and_eq_true,decide_eq_true_eq] at this
 refine Q3 (E:=E) (p:=p) ho hs0 (h2 this.1 this.2) hr hg hn (by simp) K Q fun E' w' hp=> ?_
 exact hK E' w' ⟨hp.1,hp.2,hp.3,hp.4,hp.5,hp.6,hp.7,hp.8⟩
theorem Kd {lo:Option LV} {hi mx:LV} {n c m h l:Nat} (hm:kl (some mx) 0 c=some m) (hh:kl (some hi) 0 m=some h) (hl:kl lo 0 h=some l):
  (Instr.sliceBounds true n c (lo.map (LV.den E)) ((some hi).map (LV.den E)) ((some mx).map (LV.den E))).run P w = .ok (l,h,m) w:=by
 obtain ⟨i1,rfl,m1⟩:=kQ hm
 obtain ⟨i2,rfl,m2⟩:=kQ hh
 cases lo with
 | none=>simp only [kl,Option.some.injEq] at hl;subst hl;simp [Instr.sliceBounds,Instr.sliceBound,LV.den,V1.den,At.den,asIntOf,m1,m2]
 | some v=>
  obtain ⟨i3,rfl,m3⟩:=kQ hl
  simp [Instr.sliceBounds,Instr.sliceBound,LV.den,V1.den,At.den,asIntOf,m1,m2,m3]
theorem x5 {t e:TypeId} {s:Nat} {x:Value} {a:Option Addr} {n c m h l:Nat} {lo:Option LV} {hi mx:LV} (hu:P.underlying t=some (.slice e)) (hs:kB P e=some s) (hx:x = .slice a n c)
  (hm:kl (some mx) 0 c=some m) (hh:kl (some hi) 0 m=some h) (hl:kl lo 0 h=some l):
  (Instr.sliceAt t x (lo.map (LV.den E)) ((some hi).map (LV.den E)) ((some mx).map (LV.den E))).run P w = .ok (.slice (if m=l then a else a.map (·.add (l*s))) (h - l) (m - l)) w:=by
 subst hx
 have h1:=Kd (P:=P) (E:=E) (w:=w) (n:=n) hm hh hl
 simp only [Instr.sliceAt,Instr.slice,Sem.run_bind,run_underlying hu,Result.andThen_ok,h1,jD hs,Sem.run_pure]
theorem jbW {t:TypeId} {x:LV} {lo:Option LV} {hi mx:LV} {d:Dl} (hr:Rel E g w) (h:yD P g t x lo hi mx=some d):
  Pur P E w (Instr.sliceAt t (x.den E) (lo.map (LV.den E)) ((some hi).map (LV.den E)) ((some mx).map (LV.den E))) d:=by
 unfold yD at h
 split at h
 ·rename_i e hu
  split at h
  ·rename_i s hs
   split at h
   ·rename_i m hm
    split at h
    ·rename_i hh hb
     split at h
     ·rename_i l hl
      have hm0:m=0:=by have:=K9 hm (Nat.le_refl _);omega
      subst hm0
      have hh0:hh=0:=by have:=K9 hb (Nat.le_refl _);omega
      subst hh0
      have hl0:l=0:=by have:=K9 hl (Nat.le_refl _);omega
      subst hl0
      refine jK h ?_
      rw [x5 hu hs (x:=(LV.v (V1.one At.nilsl)).den E) (a:=none) (n:=0) rfl hm hb hl]
      rfl
     ·cases h
    ·cases h
   ·cases h
  ·rename_i s b o n c hs
   split at h
   ·rename_i m hm
    split at h
    ·rename_i hh hb
     split at h
     ·rename_i l hl
      split at h <;> rename_i hq <;> rw [kX] at hq <;> refine jK h ?_
      ·have hq':m=l:=by simpa using hq
       rw [x5 hu hs (x:=(LV.v (V1.one (At.sl b o n c))).den E) (a:=some ⟨(E b).1,o+(E b).pre.length,none⟩) (n:=n) rfl hm hb hl,if_pos hq']
       rfl
      ·have hq':¬m=l:=by simpa using hq
       rw [x5 hu hs (x:=(LV.v (V1.one (At.sl b o n c))).den E) (a:=some ⟨(E b).1,o+(E b).pre.length,none⟩) (n:=n) rfl hm hb hl,if_neg hq']
       simp only [Option.map_some,j5,At.den]
       rw [show o+(E b).pre.length+l*s=o+l*s+(E b).pre.length by omega]
     ·cases h
    ·cases h
   ·cases h
  ·rename_i s b n hs
   split at h
   ·rename_i ty es l hk
    split at h
    ·rename_i m q1 q2 q3 hm
     rw [kX] at q1 q2
     rw [Kx] at q3
     simp only [decide_eq_true_eq] at q1 q2 q3
     rw [xa] at hm
     subst q1
     subst q2
     have hcap:=jbQ hr hk q3
     have hdiv:l.length/es≤(E b).2:=by
      have:l.length/es*es≤(E b).2*es:=Nat.le_trans (Nat.div_mul_le_self _ _) hcap
      exact Nat.le_of_mul_le_mul_right this (by omega)
     have hm':=X5 hm hdiv
     split at h
     ·rename_i hh hb
      split at h
      ·rename_i l' hl
       split at h <;> rename_i hq <;> rw [kX] at hq <;> cases h <;> refine ⟨rfl,rfl,fun _=> ?_⟩
       ·have hq':m=l':=by simpa using hq
        rw [x5 hu hs (x:=(LV.v (V1.one (At.slu b n))).den E) (a:=some ⟨(E b).1,(E b).pre.length,none⟩) (n:=n) rfl hm' hb hl,if_pos hq']
        simp only [LV.den,V1.den,At.den,Nat.zero_add]
       ·have hq':¬m=l':=by simpa using hq
        rw [x5 hu hs (x:=(LV.v (V1.one (At.slu b n))).den E) (a:=some ⟨(E b).1,(E b).pre.length,none⟩) (n:=n) rfl hm' hb hl,if_neg hq']
        simp only [Option.map_some,j5,LV.den,V1.den,At.den,Nat.zero_add]
        rw [Nat.add_comm]
      ·cases h
     ·cases h
    ·cases h
   ·cases h
  ·cases h
 ·cases h
theorem Ji {x:LV} {b o n:Nat} (h:Zx x=some (b,o,n)):∃c,x.den E = .slice (some ⟨(E b).1,o+(E b).pre.length,none⟩) n c:=by
 unfold Zx at h
 split at h
 ·cases h;exact ⟨_,rfl⟩
 ·cases h;exact ⟨_,by simp only [LV.den,V1.den,At.den,Nat.zero_add];rfl⟩
 ·cases h
theorem jee {o:Oper} {c:Call} {args:List LV} {d:Dl} (ho:o.op = .call c) (hb:c.callee = .builtin .copy) (hargs:c.args.map a.eval=(args.map (LV.den E)).toArray)
  (h:Ym P g c.argTypes.toList args=some d) (hr:Rel E g w):StepOK P o a w E g nb d:=by
 unfold Ym at h
 split at h
 ·rename_i t tl x y hts
  split at h
  ·rename_i e b off n b' off' m hu hx hy
   split at h
   ·rename_i s ty es l k hs hk hk'
    split at h
    ·rename_i r hcut
     split at h
     ·rename_i l' hall hlay
      cases h
      obtain ⟨cx,ex⟩:=Ji (E:=E) hx
      obtain ⟨cy,ey⟩:=Ji (E:=E) hy
      obtain ⟨e1,e2⟩:=yu hcut
      have hone:∀u∈r.map (At.den E),u.oneCell'=true:=fun u hu=>by
       obtain ⟨q,hq,rfl⟩:=List.mem_map.1 hu
       exact (zL (allCell_iff.1 hall q hq)).2
      obtain ⟨w',hst,hpost⟩:=jgm (P:=P) (nb:=nb) hr hk hlay hone
      have hlr:(r.map (At.den E)).length=Nat.min m n*s:=by rw [List.length_map,e1];simp only [List.length_take,List.length_drop];omega
      have hfc:=run_firstCells_some (P:=P) w s (Nat.min m n) ⟨(E b').1,off'+(E b').pre.length,none⟩ m cy (r.map (At.den E)) hlr (fun j u hu=>by
       rw [j5,show off'+(E b').pre.length+j=off'+j+(E b').pre.length by omega]
       rw [List.getElem?_map] at hu
       obtain ⟨q,hq,rfl⟩:=Option.map_eq_some_iff.1 hu
       refine zM (hr.blk b' k hk') ?_
       rw [e1,List.getElem?_take] at hq
       split at hq
       ·rw [List.getElem?_drop] at hq;exact hq
       ·cases hq)
      have hrun:(Builtin.copy_ c.argTypes o.type #[x.den E,y.den E]).run P w = .ok (goInt (Nat.min m n)) w':=by
       have ha0:c.argTypes[0]? = some t:=by
        rcases c with ⟨_,_,⟨q⟩⟩
        simp only at hts
        rw [hts];rfl
       rw [ex,ey]
       simp [Builtin.copy_,ha0,run_underlying hu,Builtin.lenOf,jD hs,hfc,hst]
      intro hc K Q hK
      unfold Oper.wp
      have hex:(execOp a.eval o).run P w = .ok (.value (goInt (Nat.min m n))) w':=by
       have:execOp a.eval o=(do pure (.value (←Builtin.copy_ c.argTypes o.type #[x.den E,y.den E]))):=by
        simp [execOp,ho,resolve,hb,hargs,invoke,builtin]
       rw [this]
       simp only [Sem.run_bind,hrun,Result.andThen_ok,Sem.run_pure]
      rw [hex]
      exact hK E w' (hpost _ _ _)
     ·cases h
    ·cases h
   ·cases h
  ·cases h
 ·cases h
theorem Y2 {z:List At} (hz:1≤z.length) (n:Nat):(Builtin.zeroCells (z.map (At.den E)).toArray n).toList=(kC z n).map (At.den E):=by
 unfold Builtin.zeroCells
 have:((Array.range (n*(z.map (At.den E)).toArray.size)).map fun i=>(z.map (At.den E)).toArray[i%(z.map (At.den E)).toArray.size]!)=((kC z n).map (At.den E)).toArray:=by
  apply Array.ext
  ·simp [xz]
  ·intro i hi1 hi2
   have hi:i<n*z.length:=by simpa using hi1
   have hlt:i%z.length<z.length:=Nat.mod_lt _ hz
   have hget:=Jg z (by omega) n i hi
   rw [List.getElem?_eq_getElem hlt] at hget
   have hlt2:i<(kC z n).length:=by rw [xz];exact hi
   rw [List.getElem?_eq_getElem hlt2] at hget
   have hget':=Option.some.inj hget
   have hsz:i%(z.map (At.den E)).toArray.size<(z.map (At.den E)).toArray.size:=by simpa using hlt
   simp only [Array.getElem_map,Array.getElem_range]
   rw [getElem!_pos (z.map (At.den E)).toArray (i%(z.map (At.den E)).toArray.size) hsz]
   simp only [List.getElem_toArray,List.getElem_map,hget']
   simp
 rw [this]
theorem Q4 (z:List At):∀(n:Nat) (q:At),q∈kC z n→q∈z
 | 0,q,h=>by cases h
 | n+1,q,h=>by
  simp only [kC,List.mem_append] at h
  rcases h with h | h
  ·exact h
  ·exact Q4 z n q h
theorem jef {t:TypeId} {l:List At} (h:KI P t=some l):∀q∈l,q.cell=true:=by
 unfold KI at h
 split at h
 ·split at h
  ·rename_i z hz
   split at h
   ·rename_i x hx
    cases h
    intro q hq
    rw [List.mem_singleton] at hq
    subst hq
    unfold jaK at hx
    split at hx
    ·split at hx <;> cases hx
    ·split at hx
     ·rename_i y hy;cases hx;exact (yt hy).2.2
     ·cases hx
   ·rename_i x hx
    cases h
    unfold jaK at hx
    split at hx
    ·split at hx
     ·rename_i l' hl
      cases hx
      exact allCell_iff.1 (zd hl).2.2
     ·cases hx
    ·split at hx <;> cases hx
   ·cases h
  ·cases h
 ·cases h
theorem jbX {o:Oper} {c:Call} {args:List LV} {d:Dl} (ho:o.op = .call c) (hb:c.callee = .builtin .clear) (hargs:c.args.map a.eval=(args.map (LV.den E)).toArray)
  (h:Jt P g c.argTypes.toList args=some d) (hr:Rel E g w):StepOK P o a w E g nb d:=by
 unfold Jt at h
 split at h
 ·rename_i t x hts
  split at h
  ·rename_i e b off n hu hx
   split at h
   ·rename_i s z ty es l hs hz hk
    split at h
    ·rename_i l' q1 q2 q3 hlay
     cases h
     rw [kX,xa] at q1
     rw [Kx] at q2 q3
     simp only [decide_eq_true_eq] at q1 q2 q3
     obtain ⟨cx,ex⟩:=Ji (E:=E) hx
     obtain ⟨zv,z1,z2,z3⟩:=kR hz w
     have hcell:=jef hz
     have hone:∀u∈(kC z n).map (At.den E),u.oneCell'=true:=fun u hu=>by
      obtain ⟨q,hq,rfl⟩:=List.mem_map.1 hu
      exact (zL (hcell q (Q4 z n q hq))).2
     obtain ⟨w',hst,hpost⟩:=jgm (P:=P) (nb:=nb) hr hk hlay hone
     have hzc:=Y2 (E:=E) (z:=z) (by omega) n
     have hrun:(Builtin.clear_ c.argTypes o.type #[x.den E]).run P w = .ok (.tuple #[]) w':=by
      have ha0:c.argTypes[0]? = some t:=by
       rcases c with ⟨_,_,⟨q⟩⟩
       simp only at hts
       rw [hts];rfl
      rw [ex]
      obtain ⟨n',rfl⟩:∃n',n=n'+1:=⟨n - 1,by omega⟩
      simp [Builtin.clear_,ha0,run_underlying hu,z1,z2 E,hzc,hst]
     intro hc K Q hK
     unfold Oper.wp
     have hex:(execOp a.eval o).run P w = .ok (.value (.tuple #[])) w':=by
      have:execOp a.eval o=(do pure (.value (←Builtin.clear_ c.argTypes o.type #[x.den E]))):=by
       simp [execOp,ho,resolve,hb,hargs,invoke,builtin]
      rw [this]
      simp only [Sem.run_bind,hrun,Result.andThen_ok,Sem.run_pure]
     rw [hex]
     exact hK E w' (hpost _ _ _)
    ·cases h
   ·cases h
  ·cases h
 ·cases h
end
end Go.Lr

/- The local evaluator: every operation, and calls that are told of. -/
namespace Go.Lr
open Go.RowKit
def pn (p:Nat→Bool) (nb k:Nat):Nat→Bool:=fun i=>p i||(decide (nb≤i)&&decide (i<nb+k))
theorem xf {p:Nat→Bool} {nb k i:Nat} (h:p i=true):pn p nb k i=true:=by simp [pn,h]
structure OkD (p:Nat→Bool) (g:Nat→Option Blk) (nb:Nat) (d:Dl):Prop where
 val:d.val.ok (pn p nb d.nw.length)=true
 wr:∀x∈d.wr,∀b,x.2=some b→okL (pn p nb d.nw.length) b.cells=true
 nw:okBs (pn p nb d.nw.length) d.nw=true
 live:∀x∈d.wr,(g x.1).isSome
 nd:(d.wr.map (·.1)).Nodup
theorem OkD.plain {p:Nat→Bool} {g:Nat→Option Blk} {nb:Nat} {d:Dl} (h1:d.wr=[]) (h2:d.nw=[]) (hv:d.val.ok p=true):OkD p g nb d:=
 ⟨LV.ok_mono (fun _ h=>xf h) hv,by simp [h1],by simp [h2,okBs],by simp [h1],by simp [h1]⟩
theorem OkD.val1 {p:Nat→Bool} {g:Nat→Option Blk} {nb:Nat} {d:Dl} {x:At} (h:val1 x=some d) (hx:x.ok p=true):OkD p g nb d:=by
 cases h;exact .plain rfl rfl hx
theorem OkD.ask {p:Nat→Bool} {g:Nat→Option Blk} {nb:Nat} {d:Dl} {x:At} {kn b:Bool} (h:(ask kn b false fun cs=>some ⟨.v (.one x),[],[],[],cs⟩)=some d) (hx:x.ok p=true):OkD p g nb d:=by
 unfold Go.Lr.ask at h
 cases kn <;> cases b <;> simp at h
 ·cases h;exact .plain rfl rfl hx
 ·cases h;exact .plain rfl rfl hx
 ·cases h;exact .plain rfl rfl hx
section
variable {P:Program} {E:Env} {τ:Nat→LV} {a:Act} {w:World} {g:Nat→Option Blk} {nb:Nat} {p:Nat→Bool}
theorem jiy {op:BinOp} {k k':IntKind} {x y:Int} {kn:Bool} {d:Dl} (h:jeS op k x k' y kn=some d):OkD p g nb d:=by
 unfold jeS at h
 split at h
 ·exact .ask h rfl
 ·exact .ask h rfl
 ·split at h
  ·unfold jqB at h
   split at h <;> first
    | exact .val1 h rfl
    | exact .ask h rfl
    | (split at h <;> first | exact .val1 h rfl | cases h)
  ·cases h
theorem jpJ {op:UnOp} {x:LV} {d:Dl} (h:unD op x=some d):OkD p g nb d:=by
 unfold unD at h
 split at h
 ·exact .val1 h rfl
 ·split at h
  ·exact .val1 h rfl
  ·cases h
 ·exact .val1 h rfl
 ·cases h
theorem jiz {t u:TypeId} {x:LV} {d:Dl} (h:jeR P t u x=some d):OkD p g nb d:=by
 unfold jeR at h
 split at h
 ·exact .val1 h rfl
 ·cases h
theorem jgp {t:TypeId} {x:LV} {i:Nat} {d:Dl} (h:Zr P t x i=some d) (hx:x.ok p=true):OkD p g nb d:=by
 unfold Zr at h
 split at h
 ·split at h
  ·split at h
   ·rename_i v hv
    cases h
    exact .plain rfl rfl (KZ hv hx)
   ·cases h
  ·cases h
 ·cases h
theorem jgq {t:TypeId} {x ix:LV} {d:Dl} (h:Zs P t x ix=some d) (hx:x.ok p=true):OkD p g nb d:=by
 unfold Zs at h
 split at h
 ·split at h
  ·split at h
   ·rename_i v hv
    cases h
    exact .plain rfl rfl (KZ hv hx)
   ·cases h
  ·cases h
 ·cases h
theorem jbY {x:LV} {i:Nat} {d:Dl} (h:extractD x i=some d) (hx:x.ok p=true):OkD p g nb d:=by
 unfold extractD at h
 split at h
 ·obtain ⟨v,hv,rfl⟩:=qM h
  exact .plain rfl rfl (okVs_iff.1 hx v (List.mem_of_getElem? hv))
 ·cases h
theorem Y3 {t:TypeId} {x:LV} {i:Nat} {d:Dl} (h:xT P t x i=some d) (hx:x.ok p=true):OkD p g nb d:=by
 unfold xT at h
 split at h
 ·split at h
  ·split at h
   ·exact .val1 h hx
   ·cases h
  ·cases h
 ·split at h
  ·split at h
   ·exact .val1 h hx
   ·cases h
  ·cases h
 ·cases h
theorem jeg {t:TypeId} {x:LV} {d:Dl} (h:Qm P t x=some d) (hx:x.ok p=true):OkD p g nb d:=by
 unfold Qm at h
 split at h
 ·split at h
  ·exact .val1 h hx
  ·cases h
 ·cases h
theorem Y4 {t:TypeId} {x ix:LV} {d:Dl} (h:xU P t x ix=some d) (hx:x.ok p=true):OkD p g nb d:=by
 unfold xU at h
 split at h
 ·split at h
  ·exact .val1 h hx
  ·cases h
 ·split at h
  ·exact .val1 h hx
  ·cases h
 ·split at h
  ·exact .val1 h hx
  ·cases h
 ·split at h
  ·cases h;exact .plain rfl rfl hx
  ·cases h
 ·split at h
  ·cases h;exact .plain rfl rfl hx
  ·cases h
 ·split at h
  ·cases h;exact .plain rfl rfl hx
  ·cases h
 ·cases h
theorem jgr {t:TypeId} {x:LV} {lo hi:Option LV} {d:Dl} (h:Zt P t x lo hi=some d) (hx:x.ok p=true):OkD p g nb d:=by
 unfold Zt at h
 split at h
 ·split at h
  ·split at h
   ·split at h <;> exact .val1 h hx
   ·cases h
  ·cases h
 ·split at h
  ·split at h
   ·split at h <;> exact .val1 h hx
   ·cases h
  ·cases h
 ·split at h
  ·unfold jaN at h
   split at h
   ·cases h;exact .plain rfl rfl hx
   ·cases h
  ·cases h
 ·split at h
  ·split at h
   ·exact .val1 h rfl
   ·cases h
  ·cases h
 ·split at h
  ·split at h
   ·split at h <;> exact .val1 h hx
   ·cases h
  ·cases h
 ·cases h
theorem jgs {t:TypeId} {c:Bool} {b n:Nat} {lo hi:Option LV} {d:Dl} (hg:∀i c,g i=some c→p i=true∧okL p c.cells=true) (h:yC P g nb t c b n lo hi=some d):OkD p g nb d:=by
 unfold yC at h
 split at h
 ·split at h
  ·rename_i s ty es l hs hk
   have hb:=(hg b _ hk).1
   split at h
   ·split at h
    ·cases h;exact .plain rfl rfl hb
    ·split at h
     ·cases h
      refine ⟨by show pn p nb 1 nb=true;unfold pn;simp,fun x hx c hc=> ?_, ?_,fun x hx=> ?_,by simp⟩
      ·rw [List.mem_singleton] at hx;subst hx;cases hc
      ·refine okBs_iff.2 fun x hx=> ?_
       rw [List.mem_singleton] at hx
       subst hx
       exact jn (fun _ h=>xf h) (okL_iff.2 fun a ha=>okL_iff.1 (hg b _ hk).2 a (List.mem_of_mem_drop ha))
      ·rw [List.mem_singleton] at hx;subst hx;simp [hk]
     ·split at h
      ·cases h;exact .plain rfl rfl hb
      ·cases h
    ·cases h
   ·cases h
  ·cases h
 ·cases h
theorem jgt {t:TypeId} {x:LV} {lo:Option LV} {hi mx:LV} {d:Dl} (h:yD P g t x lo hi mx=some d) (hx:x.ok p=true):OkD p g nb d:=by
 unfold yD at h
 split at h
 ·split at h
  ·split at h
   ·split at h
    ·split at h
     ·exact .val1 h rfl
     ·cases h
    ·cases h
   ·cases h
  ·split at h
   ·split at h
    ·split at h
     ·split at h <;> exact .val1 h hx
     ·cases h
    ·cases h
   ·cases h
  ·split at h
   ·split at h
    ·split at h
     ·split at h
      ·split at h <;> (cases h;exact .plain rfl rfl hx)
      ·cases h
     ·cases h
    ·cases h
   ·cases h
  ·cases h
 ·cases h
theorem jeh {x:LV} {b n:Nat} (h:jkm x=some (b,n)):x = .v (.one (.slu b n)):=by
 unfold jkm at h
 split at h
 ·cases h;rfl
 ·cases h
theorem jei {x:LV} {b n:Nat} (h:jkn x=some (b,n)):x = .v (.one (.slv b n)):=by
 unfold jkn at h
 split at h
 ·cases h;rfl
 ·cases h
theorem jgu {t:TypeId} {c:Bool} {b n:Nat} {lo hi:Option LV} {d:Dl} (hg:∀i c,g i=some c→p i=true∧okL p c.cells=true) (h:Kr P g nb t c b n lo hi=some d):OkD p g nb d:=by
 obtain ⟨k,e,z,l,hk,rfl,-⟩:=Jh h
 refine ⟨by show pn p nb 1 nb=true;unfold pn;simp,fun x hx c hc=> ?_, ?_,fun x hx=> ?_,by simp⟩
 ·rw [List.mem_singleton] at hx;subst hx;cases hc
 ·refine okBs_iff.2 fun x hx=> ?_
  rw [List.mem_singleton] at hx
  subst hx
  exact jn (fun _ h=>xf h) (okL_iff.2 fun a ha=>okL_iff.1 (hg b _ hk).2 a (List.mem_of_mem_drop ha))
 ·rw [List.mem_singleton] at hx;subst hx;simp [hk]
theorem jgv {t:TypeId} {c:Bool} {x:LV} {lo hi mx:Option LV} {d:Dl} (hg:∀i c,g i=some c→p i=true∧okL p c.cells=true) (h:Ql P g nb t c x lo hi mx=some d) (hx:x.ok p=true):OkD p g nb d:=by
 unfold Ql at h
 split at h
 ·split at h
  ·exact jgt h hx
  ·cases h
 ·split at h
  ·exact jgs hg h
  ·split at h
   ·exact jgu hg h
   ·exact jgr h hx
theorem jlV {t:TypeId} {x:LV} {d:Dl} (h:jnl P t x=some d):OkD p g nb d:=by
 unfold jnl at h
 split at h <;> first | exact .val1 h rfl | cases h
theorem jgw:∀{mx:Bool} {l:List LV} {k:IntKind} {x:Int} {d:Dl},kH mx k x l=some d→OkD p g nb d:=by
 intro mx l
 induction l with
 | nil=>intro k x d h;simp only [kH] at h;exact .val1 h rfl
 | cons y l ih=>
  intro k x d h
  unfold kH at h
  split at h
  ·rename_i he;cases he
  ·rename_i he
   cases he
   split at h <;> exact ih h
  ·cases h
theorem X7 {mx:Bool} {l:List LV} {d:Dl} (h:yO mx l=some d):OkD p g nb d:=by
 unfold yO at h
 split at h
 ·exact jgw h
 ·cases h
theorem jgx {t:TypeId} {parts:List (Nat×LV)} {d:Dl} (h:Zq P t parts=some d) (hp:∀q∈parts,q.2.ok p=true):OkD p g nb d:=by
 unfold Zq at h
 split at h
 ·rename_i z hz
  obtain ⟨_,_,_,h3⟩:=kR hz default
  split at h
  ·split at h
   ·rename_i l _ hl
    cases h
    exact .plain rfl rfl (jdm hl (h3 p) hp)
   ·cases h
  ·split at h
   ·split at h
    ·rename_i l hl
     cases h
     exact .plain rfl rfl (Qa hl (h3 p) hp)
    ·cases h
   ·cases h
  ·cases h
 ·cases h
theorem jar {f:Fn} {first:List Operand} {caps:List LV} {d:Dl} (h:yN f first caps=some d) (hp:∀v∈caps,v.ok p=true):OkD p g nb d:=by
 unfold yN at h
 split at h
 ·rename_i l hl
  refine .val1 h ?_
  simp only [At.ok,List.all_eq_true]
  exact fun q hq=>jam hl hp q hq
 ·cases h
theorem jiA (hp:∀t,(τ t).ok p=true) {pd:Option Bool} {c x y:Operand} {d:Dl} (h:jaM τ pd c x y=some d):OkD p g nb d:=by
 unfold jaM at h
 split at h
 ·split at h
  ·split at h
   ·rename_i v hv
    cases h
    exact .plain rfl rfl (yJ hp hv)
   ·cases h
  ·split at h
   ·rename_i v hv
    cases h
    exact .plain rfl rfl (yJ hp hv)
   ·cases h
  ·cases h
 ·cases h
theorem jbZ {p:Nat→Bool} {nb:Nat}:pn p nb 1 nb=true:=by simp [pn]
theorem jb0 {p:Nat→Bool} {b:Blk} {v:LV} (hv:v.ok (pn p nb 1)=true) (hb:okL p b.cells=true):OkD p g nb ⟨v,[],[b],[],[]⟩:=
 ⟨hv,by simp,okBs_iff.2 fun x hx=>by rw [List.mem_singleton] at hx;subst hx;exact jn (fun _ h=>xf h) hb,by simp,by simp⟩
theorem jgy {t:TypeId} {d:Dl} (h:Zo P nb t=some d):OkD p g nb d:=by
 unfold Zo at h
 split at h
 ·rename_i l hl
  obtain ⟨_,_,_,h3⟩:=kR hl default
  cases h
  exact jb0 jbZ (h3 p)
 ·cases h
theorem jlW {t:TypeId} {v:LV} {d:Dl} (h:jni nb t v=some d) (hv:v.ok p=true):OkD p g nb d:=by
 unfold jni at h
 split at h
 ·rename_i l hl
  cases h
  exact jb0 jbZ (qN hl hv)
 ·cases h
theorem Xx {t:TypeId} {n:Nat} {parts:List (Nat×LV)} {d:Dl} (h:xq P nb t n parts=some d) (hp:∀q∈parts,q.2.ok p=true):OkD p g nb d:=by
 unfold xq at h
 split at h
 ·split at h
  ·rename_i s z hs hz
   obtain ⟨_,_,_,h3⟩:=kR hz default
   split at h
   ·rename_i l _ _ _ hl
    cases h
    exact jb0 jbZ (Qa hl (zN (h3 p) n) hp)
   ·cases h
  ·cases h
 ·cases h
theorem jiB {t:TypeId} {v:LV} {d:Dl} (hg:∀i c,g i=some c→p i=true∧okL p c.cells=true) (h:Qj P t v g=some d):OkD p g nb d:=by
 unfold Qj at h
 split at h
 ·split at h
  ·rename_i k hk
   split at h
   ·rename_i x hx
    cases h
    exact .plain rfl rfl (KZ hx (hg _ _ hk).2)
   ·cases h
  ·cases h
 ·cases h
theorem jas (l:List At):∀(n o:Nat),okL p (jp l o n)=true
 | 0,o=>rfl
 | n+1,o=>by simp only [jp,okL,At.ok];exact jas l n (o+1)
theorem jiC {t:TypeId} {l:List At} {o:Nat} {x:V1} {cs:List (Bool×Bool)} (h:jeQ P t l o=some (x,cs)):x.ok p=true:=by
 unfold jeQ at h
 split at h
 ·split at h
  ·cases h;exact jas l _ _
  ·cases h
 ·split at h
  ·cases h;rfl
  ·cases h;rfl
  ·cases h
 ·cases h
theorem jgz {t:TypeId} {v:LV} {d:Dl} (hg:∀i c,g i=some c→p i=true∧okL p c.cells=true) (h:Ko P t v g=some d):OkD p g nb d:=by
 unfold Ko at h
 split at h
 ·split at h
  ·split at h
   ·rename_i x cs hx
    cases h
    exact .plain rfl rfl (jiC hx)
   ·cases h
  ·cases h
 ·exact jiB hg h
theorem jat {s:Nat} {x:LV} {m b:Nat} {news:List At} {cs:List (Bool×Bool)} (hg:∀i c,g i=some c→p i=true∧okL p c.cells=true) (h:yR g s x=some (m,news,b,cs)):okL p news=true:=by
 unfold yR at h
 split at h
 ·split at h
  ·rename_i k hk
   split at h
   ·rename_i l hcut
    split at h
    ·cases h;exact jah hcut (hg _ k hk).2
    ·cases h
   ·cases h
  ·cases h
 ·split at h
  ·rename_i k hk
   split at h
   ·rename_i l hcut
    split at h
    ·cases h;exact jah hcut (hg _ k hk).2
    ·cases h
   ·cases h
  ·cases h
 ·split at h
  ·rename_i k hk
   cases h
   exact okL_iff.2 fun a' ha'=>okL_iff.1 (hg _ k hk).2 a' (List.mem_of_mem_drop (List.mem_of_mem_take ha'))
  ·cases h
 ·cases h
theorem jgA {e:TypeId} {s:Nat} {x:LV} {n:Nat} {old:List At} {kill:Option Nat} (hg:∀i c,g i=some c→p i=true∧okL p c.cells=true) (h:yE g e s x=some (n,old,kill)):
  okL p old=true∧∀q,kill=some q→(g q).isSome:=by
 unfold yE at h
 split at h
 ·cases h;exact ⟨rfl,fun q hq=>by cases hq⟩
 ·split at h
  ·rename_i ty es l hk
   split at h
   ·rename_i hcut
    cases h;exact ⟨jah hcut (hg _ _ hk).2,fun q hq=>by cases hq;simp [hk]⟩
   ·cases h
  ·cases h
 ·cases h;exact ⟨rfl,fun q hq=>by cases hq⟩
 ·split at h
  ·rename_i ty l hk
   split at h
   ·cases h;exact ⟨(hg _ _ hk).2,fun q hq=>by cases hq;simp [hk]⟩
   ·cases h
  ·cases h
 ·cases h
theorem jej {ts:List TypeId} {args:List LV} {d:Dl} (hg:∀i c,g i=some c→p i=true∧okL p c.cells=true) (h:xM P nb g ts args=some d):OkD p g nb d:=by
 unfold xM at h
 split at h
 ·split at h
  ·split at h
   ·split at h
    ·rename_i n old kill m news b cs hold hnews
     split at h
     ·cases h
      obtain ⟨h1,h2⟩:=jgA hg hold
      have h3:=jat hg hnews
      have hok:okL p (XG old news)=true:=by
       rw [yw]
       exact okL_iff.2 fun a' ha'=>by
        rcases List.mem_append.1 ha' with ha' | ha'
        ·exact okL_iff.1 h1 a' ha'
        ·exact okL_iff.1 h3 a' ha'
      refine ⟨?_, ?_, ?_, ?_, ?_⟩
      ·show pn p nb 1 nb=true
       unfold pn
       simp
      ·intro x hx b hb
       cases kill with
       | none=>cases hx
       | some q=>simp only [KJ,List.mem_singleton] at hx;subst hx;cases hb
      ·simp only [okBs,jn (fun _ h=>xf h) hok]
      ·intro x hx
       cases kill with
       | none=>cases hx
       | some q=>simp only [KJ,List.mem_singleton] at hx;subst hx;exact h2 q rfl
      ·cases kill <;> simp [KJ]
     ·cases h
    ·cases h
   ·cases h
  ·cases h
 ·cases h
theorem jek {ts:List TypeId} {args:List LV} {d:Dl} (hg:∀i c,g i=some c→p i=true∧okL p c.cells=true) (h:yT P nb g ts args=some d):OkD p g nb d:=by
 unfold yT at h
 split at h
 ·obtain ⟨t,e,i,-,-,-,hd⟩:=zk h
  rcases hd with ⟨-,hd⟩ | ⟨b,o,n,c,k,-,hk,-,rfl⟩ | ⟨b,n,ty,es,l,-,hk,-,-,rfl⟩
  ·exact .val1 hd rfl
  ·exact .plain rfl rfl (hg b k hk).1
  ·exact .plain rfl rfl (hg b _ hk).1
 ·exact jej hg h
theorem jiD {s:Nat} {x:LV} {m b:Nat} {news:List At} {cs:List (Bool×Bool)} (hg:∀i c,g i=some c→p i=true∧okL p c.cells=true) (h:Zw g s x=some (m,news,b,cs)):okL p news=true:=by
 unfold Zw at h
 split at h
 ·split at h
  ·rename_i k hk
   cases h
   exact okL_iff.2 fun a' ha'=>okL_iff.1 (hg _ k hk).2 a' (List.mem_of_mem_take ha')
  ·cases h
 ·exact jat hg h
theorem jiE {e:TypeId} {s:Nat} {x:LV} {n:Nat} {old:List At} {kill:Option Nat} {c:Bool} (hg:∀i c,g i=some c→p i=true∧okL p c.cells=true) (h:Yl g e s x=some (n,old,kill,c)):
  okL p old=true∧∀q,kill=some q→(g q).isSome:=by
 unfold Yl at h
 split at h
 ·cases h;exact ⟨rfl,fun q hq=>by cases hq⟩
 ·split at h
  ·rename_i ty es l hk
   split at h
   ·cases h;exact ⟨okL_iff.2 fun a' ha'=>okL_iff.1 (hg _ _ hk).2 a' (List.mem_of_mem_take ha'),fun q hq=>by cases hq;simp [hk]⟩
   ·cases h
  ·cases h
 ·cases h;exact ⟨rfl,fun q hq=>by cases hq⟩
 ·cases h
theorem jel {ts:List TypeId} {args:List LV} {d:Dl} (hg:∀i c,g i=some c→p i=true∧okL p c.cells=true) (h:yS P nb g ts args=some d):OkD p g nb d:=by
 unfold yS at h
 split at h
 ·split at h
  ·split at h
   ·split at h
    ·rename_i n old kill c m news b cs hold hnews
     split at h
     ·cases h
      obtain ⟨h1,h2⟩:=jiE hg hold
      have h3:=jiD hg hnews
      have hok:okL p (XG old news)=true:=by
       rw [yw]
       exact okL_iff.2 fun a' ha'=>by
        rcases List.mem_append.1 ha' with ha' | ha'
        ·exact okL_iff.1 h1 a' ha'
        ·exact okL_iff.1 h3 a' ha'
      refine ⟨?_, ?_, ?_, ?_, ?_⟩
      ·show pn p nb 1 nb=true
       unfold pn
       simp
      ·intro x hx b hb
       cases kill with
       | none=>cases hx
       | some q=>simp only [KJ,List.mem_singleton] at hx;subst hx;cases hb
      ·simp only [okBs,jn (fun _ h=>xf h) hok]
      ·intro x hx
       cases kill with
       | none=>cases hx
       | some q=>simp only [KJ,List.mem_singleton] at hx;subst hx;exact h2 q rfl
      ·cases kill <;> simp [KJ]
     ·cases h
    ·cases h
   ·cases h
  ·cases h
 ·cases h
theorem jem {ts:List TypeId} {args:List LV} {d:Dl} (hg:∀i c,g i=some c→p i=true∧okL p c.cells=true) (h:yU P nb g ts args=some d):OkD p g nb d:=by
 unfold yU at h
 split at h
 ·exact jel hg h
 ·exact jek hg h
theorem jiF {ts:List TypeId} {args:List LV} {d:Dl} (hg:∀i c,g i=some c→p i=true∧okL p c.cells=true) (h:Ym P g ts args=some d):OkD p g nb d:=by
 unfold Ym at h
 split at h
 ·split at h
  ·split at h
   ·rename_i s ty es l k hs hk hk'
    split at h
    ·rename_i r hcut
     split at h
     ·rename_i l' hall hlay
      cases h
      refine ⟨rfl,fun x hx b hb=> ?_,rfl,fun x hx=> ?_,by simp⟩
      ·rw [List.mem_singleton] at hx
       subst hx
       cases hb
       exact jn (fun _ h=>xf h) (jag hlay (hg _ _ hk).2 (jah hcut (hg _ _ hk').2))
      ·rw [List.mem_singleton] at hx
       subst hx
       simp [hk]
     ·cases h
    ·cases h
   ·cases h
  ·cases h
 ·cases h
theorem jgB {ts:List TypeId} {args:List LV} {d:Dl} (hg:∀i c,g i=some c→p i=true∧okL p c.cells=true) (h:Jt P g ts args=some d):OkD p g nb d:=by
 unfold Jt at h
 split at h
 ·split at h
  ·split at h
   ·rename_i s z ty es l hs hz hk
    split at h
    ·rename_i l' _ _ _ hlay
     cases h
     obtain ⟨_,_,_,h3⟩:=kR hz default
     refine ⟨rfl,fun x hx b hb=> ?_,rfl,fun x hx=> ?_,by simp⟩
     ·rw [List.mem_singleton] at hx
      subst hx
      cases hb
      exact jn (fun _ h=>xf h) (jag hlay (hg _ _ hk).2 (zN (h3 p) _))
     ·rw [List.mem_singleton] at hx
      subst hx
      simp [hk]
    ·cases h
   ·cases h
  ·cases h
 ·cases h
theorem jgC {t:TypeId} {u v:LV} {d:Dl} (hg:∀i c,g i=some c→p i=true∧okL p c.cells=true) (hv:v.ok p=true) (h:yB P t u v g=some d):OkD p g nb d:=by
 unfold yB at h
 split at h
 ·split at h
  ·rename_i ty es l hk
   split at h
   ·rename_i vs n hvs hn
    split at h
    ·rename_i r hlen hlay
     cases h
     refine ⟨rfl,fun x hx b hb=> ?_,rfl,fun x hx=> ?_,by simp⟩
     ·rw [List.mem_singleton] at hx
      subst hx
      cases hb
      exact jn (fun _ h=>xf h) (jag hlay (hg _ _ hk).2 (qN hvs hv))
     ·rw [List.mem_singleton] at hx
      subst hx
      simp [hk]
    ·cases h
   ·cases h
  ·cases h
 ·cases h
theorem jgD {t:TypeId} {u v:LV} {d:Dl} (hg:∀i c,g i=some c→p i=true∧okL p c.cells=true) (hv:v.ok p=true) (h:Kp P t u v g=some d):OkD p g nb d:=by
 unfold Kp at h
 split at h
 ·split at h
  ·obtain ⟨ty,es,l,vs,hk,hvs,hs,rfl⟩:=zj h
   refine ⟨rfl,fun x hx b hb=> ?_,rfl,fun x hx=> ?_,by simp⟩
   ·rw [List.mem_singleton] at hx
    subst hx
    cases hb
    refine jn (fun _ h=>xf h) (okL_iff.2 fun a ha=> ?_)
    rcases List.mem_append.1 ha with ha | ha
    ·exact okL_iff.1 (hg _ _ hk).2 a (List.mem_of_mem_take ha)
    ·rcases List.mem_append.1 ha with ha | ha
     ·exact okL_iff.1 (qN hvs hv) a ha
     ·exact okL_iff.1 (hg _ _ hk).2 a (List.mem_of_mem_drop ha)
   ·rw [List.mem_singleton] at hx
    subst hx
    simp [hk]
  obtain ⟨ty,es,l,z,hk,rfl,hs,hz,rfl⟩:=Jf h
  refine ⟨rfl,fun x hx b hb=> ?_,rfl,fun x hx=> ?_,by simp⟩
  ·rw [List.mem_singleton] at hx
   subst hx
   cases hb
   refine jn (fun _ h=>xf h) (okL_iff.2 fun a ha=> ?_)
   rcases List.mem_or_eq_of_mem_set ha with ha | rfl
   ·exact okL_iff.1 (hg _ _ hk).2 a ha
   ·exact hv
  ·rw [List.mem_singleton] at hx
   subst hx
   simp [hk]
 ·exact jgC hg hv h
def CallOK (P:Program) (f:FuncId) (args:Array Value) (w:World) (R:Value→World→Prop):Prop:=
 (∃fn,P.funcs[f]? = some fn∧fn.name≠ "runtime.NumGoroutine"∧fn.body.isSome∧Calls P f args w fun e w'=>∃v,e = .returned v∧R v w')∨
  ∃v w',(callFunc f args).run P w = .ok (.value v) w'∧R v w'
def SumOK (P:Program) (f:FuncId) (s:Sum):Prop:=
 ∀(args:List LV) (t:Tch) (g:Nat→Option Blk) (nb:Nat) (p:Nat→Bool) (rdB wrB:List Blk) (ans:Ans) (ws:List (Nat×Option Blk)) (E:Env) (w:World),
  s args=some t→jz g t.rd=some rdB→jz g t.wr=some wrB→xV t.wr=true→t.go rdB wrB nb=some ans→Xi t.wr ans.wr=some ws→(∀c∈ans.cs,c.1=c.2)→
  Rel E g w→(∀i c,g i=some c→p i=true∧okL p c.cells=true)→(∀v∈args,v.ok p=true)→(∀i,nb≤i→i<nb+ans.nw.length→p i=false)→
  CallOK P f (args.map (LV.den E)).toArray w fun v w'=>∃E',v=ans.val.den E'∧Post w E g nb ⟨ans.val,ws,ans.nw,[],[]⟩ E' w'
def KD (P:Program) (f:FuncId) (s:List LV→List (Nat×LV)→Option Tch):Prop:=
 ∀(args:List LV) (t:Tch) (g:Nat→Option Blk) (nb:Nat) (p:Nat→Bool) (rdB wrB:List Blk) (ans:Ans) (ws:List (Nat×Option Blk)) (E:Env) (w:World),
  s args (Yi g (jaQ args))=some t→jz g t.rd=some rdB→jz g t.wr=some wrB→xV t.wr=true→t.go rdB wrB nb=some ans→Xi t.wr ans.wr=some ws→(∀c∈ans.cs,c.1=c.2)→
  Rel E g w→(∀i c,g i=some c→p i=true∧okL p c.cells=true)→(∀v∈args,v.ok p=true)→(∀i,nb≤i→i<nb+ans.nw.length→p i=false)→
  CallOK P f (args.map (LV.den E)).toArray w fun v w'=>∃E',v=ans.val.den E'∧Post w E g nb ⟨ans.val,ws,ans.nw,[],[]⟩ E' w'
def Ke (P:Program) (f:FuncId) (s:List LV→List Nat→List Blk→Nat→Option Dl):Prop:=
 ∀(args:List LV) (seen:List Nat) (ks:List Blk) (g:Nat→Option Blk) (nb:Nat) (p:Nat→Bool) (d:Dl) (E:Env) (w:World),
  jz g seen=some ks→s args seen ks nb=some d→(Xj d.wr).Nodup→(∀c∈d.cs,c.1=c.2)→
  Rel E g w→(∀i c,g i=some c→p i=true∧okL p c.cells=true)→(∀v∈args,v.ok p=true)→(∀i,nb≤i→i<nb+d.nw.length→p i=false)→
  CallOK P f (args.map (LV.den E)).toArray w fun v w'=>∃E',v=d.val.den E'∧Post w E g nb ⟨d.val,d.wr,d.nw,[],[]⟩ E' w'
def KOK (P:Program) (f:FuncId):SumK→Prop
 | .old s=>SumOK P f s
 | .peek s=>KD P f s
 | .gen s=>Ke P f s
def AllOK (P:Program) (S:FuncId→Option SumK):Prop:=∀f s,S f=some s→KOK P f s
theorem jb1 (hτ:∀t,a.eval (.tmp t)=(τ t).den E) {c:Call} {f:FuncId} {args:List LV} (h:callee τ c=some (f,args)) (ty:TypeId):
  (do let d ←resolve a.eval c ty;invoke d.target d.args:Sem Next)=callFunc f (args.map (LV.den E)).toArray:=by
 unfold callee at h
 split at h
 ·rename_i x hx
  split at h
  ·rename_i f' caps args' hf hargs
   cases h
   have h1:=jW hτ hf
   have h2:=JL hτ hargs
   have h3:c.args.map a.eval=(args'.map (LV.den E)).toArray:=by
    rw [←h2]
    rcases c with ⟨_,⟨l⟩,_⟩
    simp
   unfold resolve
   rw [hx]
   simp only [h1,h3,LV.den,V1.den,At.den,Deferred.ofValue,pure_bind,invoke]
   congr 1
   simp [LV.den,V1.den,At.den]
  ·cases h
 ·cases h
theorem x6 (hp:∀t,(τ t).ok p=true) {c:Call} {f:FuncId} {args:List LV} (h:callee τ c=some (f,args)):∀v∈args,v.ok p=true:=by
 unfold callee at h
 split at h
 ·split at h
  ·rename_i f' caps args' hf hargs
   cases h
   intro v hv
   rcases List.mem_append.1 hv with hv | hv
   ·exact jgc hp hargs v hv
   ·obtain ⟨q,hq,rfl⟩:=List.mem_map.1 hv
    have:=yJ hp hf
    simp only [LV.ok,V1.ok,At.ok,List.all_eq_true] at this
    exact this q hq
  ·cases h
 ·cases h
theorem CallOK.wp {o:Oper} {c:Call} {f:FuncId} {args:List LV} {R:Value→World→Prop} {K:Act→World→Prop} {Q:Exit→Act→World→Prop} (ho:o.op = .call c)
  (hτ:∀t,a.eval (.tmp t)=(τ t).den E) (hc:callee τ c=some (f,args)) (h:CallOK P f (args.map (LV.den E)).toArray w R)
  (hk:∀v w',R v w'→K (a.put o.dst v) w'):o.wp P a w K Q:=by
 unfold Oper.wp execOp
 simp only [ho]
 rw [jb1 hτ hc]
 rcases h with ⟨fn,h1,h2,h3,h4⟩ | ⟨v,w',h1,h2⟩
 ·have hrun:(callFunc f (args.map (LV.den E)).toArray).run P w = .ok (.enter f (args.map (LV.den E)).toArray) w:=by
   unfold callFunc
   obtain ⟨bd,hbd⟩:=Option.isSome_iff_exists.1 h3
   simp [program,h1,h2,hbd,Sem.run]
  rw [hrun]
  simp only [Oper.upon]
  refine h4.mono fun e w' he=> ?_
  obtain ⟨v,rfl,hv⟩:=he
  exact hk v w' hv
 ·rw [h1]
  exact hk v w' h2
theorem memB_iff:∀{l:List Nat} {i:Nat},yH l i=true↔i∈l
 | [],i=>by simp [yH]
 | a::l,i=>by
  simp only [yH,kX]
  by_cases h:a=i
  ·simp [h]
  ·simp [h,memB_iff (l:=l),Ne.symm h]
theorem nodupB_iff:∀{l:List Nat},xV l=true↔l.Nodup
 | []=>by simp [xV]
 | a::l=>by
  simp only [xV,List.nodup_cons]
  cases h:yH l a
  ·have:a ∉ l:=fun hm=>by rw [memB_iff.2 hm] at h;cases h
   simp [this,nodupB_iff (l:=l)]
  ·simp [memB_iff.1 h]
theorem kh:∀{l:List Nat} {r:List Blk},jz g l=some r→∀i∈l,(g i).isSome
 | [],r,_=>by simp
 | b::l,r,h=>by
  simp only [jz] at h
  split at h
  ·rename_i k r' hk hr
   simp only [List.mem_cons,forall_eq_or_imp]
   exact ⟨by simp [hk],kh hr⟩
  ·cases h
theorem jau:∀{l:List Nat} {bs:List Blk} {ws:List (Nat×Option Blk)},Xi l bs=some ws→ws.map (·.1)=l∧∀x∈ws,∃b∈bs,x.2=some b
 | [],[],ws,h=>by simp only [Xi] at h;cases h;simp
 | [],b::bs,ws,h=>by simp [Xi] at h
 | i::l,[],ws,h=>by simp [Xi] at h
 | i::l,b::bs,ws,h=>by
  simp only [Xi] at h
  split at h
  ·rename_i r hr
   cases h
   obtain ⟨h1,h2⟩:=jau hr
   refine ⟨by simp [h1],fun x hx=> ?_⟩
   rcases List.mem_cons.1 hx with rfl | hx
   ·exact ⟨b,by simp,rfl⟩
   ·obtain ⟨b',hb',he⟩:=h2 x hx
    exact ⟨b',by simp [hb'],he⟩
  ·cases h
theorem yy:∀{l m:List Nat} {i:Nat},i∈jdz l m↔i∈l∨i∈m
 | [],m,i=>by simp [jdz]
 | a::l,m,i=>by simp only [jdz,List.mem_cons,yy (l:=l)];exact ⟨fun h=>h.elim (fun h=> .inl (.inl h)) (fun h=>h.elim (fun h=> .inl (.inr h)) .inr),fun h=>h.elim (fun h=>h.elim .inl fun h=> .inr (.inl h)) fun h=> .inr (.inr h)⟩
theorem jdp:∀{l:List (Nat×Nat)} {i:Nat},i∈jqC l→∃c∈l,c.1=i
 | [],i,h=>by cases h
 | c::l,i,h=>by
  simp only [jqC,List.mem_cons] at h
  rcases h with rfl | h
  ·exact ⟨c,List.mem_cons_self ..,rfl⟩
  ·obtain ⟨d,hd,e⟩:=jdp h
   exact ⟨d,List.mem_cons_of_mem _ hd,e⟩
theorem jiG {q:Nat→Bool} {a:At} (h:a.ok q=true) {i:Nat} (hi:i∈Yh a):q i=true:=by
 cases a with
 | fn f caps=>
  simp only [At.ok,List.all_eq_true] at h
  obtain ⟨c,hc,rfl⟩:=jdp hi
  exact h c hc
 | ptr b o=>simp only [Yh,List.mem_singleton] at hi;subst hi;exact h
 | sl b o n c=>simp only [Yh,List.mem_singleton] at hi;subst hi;exact h
 | slu b n=>simp only [Yh,List.mem_singleton] at hi;subst hi;exact h
 | slx b o n c=>simp only [Yh,List.mem_singleton] at hi;subst hi;exact h
 | ptx b o=>simp only [Yh,List.mem_singleton] at hi;subst hi;exact h
 | slt b o n=>simp only [Yh,List.mem_singleton] at hi;subst hi;exact h
 | _=>cases hi
theorem jdq {q:Nat→Bool}:∀{l:List At},okL q l=true→∀{i:Nat},i∈jaP l→q i=true
 | [],_,i,hi=>by cases hi
 | a::l,h,i,hi=>by
  simp only [okL] at h
  split at h
  ·rename_i ha
   simp only [jaP,yy] at hi
   rcases hi with hi | hi
   ·exact jiG ha hi
   ·exact jdq h hi
  ·cases h
theorem X8:∀{l:List Blk} {i:Nat},i∈jcq l→∃b∈l,i∈jaP b.cells
 | [],i,h=>by cases h
 | b::l,i,h=>by
  simp only [jcq,yy] at h
  rcases h with h | h
  ·exact ⟨b,List.mem_cons_self ..,h⟩
  ·obtain ⟨c,hc,e⟩:=X8 h
   exact ⟨c,List.mem_cons_of_mem _ hc,e⟩
theorem xI:∀{l:List Nat} {r:List Blk},jz g l=some r→∀b∈r,∃i,g i=some b
 | [],r,h,b,hb=>by simp only [jz] at h;cases h;cases hb
 | a::l,r,h,b,hb=>by
  simp only [jz] at h
  split at h
  ·rename_i k r' hk hr
   cases h
   rcases List.mem_cons.1 hb with rfl | hb
   ·exact ⟨a,hk⟩
   ·exact xI hr b hb
  ·cases h
theorem jjW {q:Nat→Bool} {a:At} (h:a.ok q=true) {i:Nat} (hi:i∈vrA a):q i=true:=by
 cases a with
 | slv b n=>simp only [vrA,List.mem_singleton] at hi;subst hi;exact h
 | _=>cases hi
theorem jgE {q:Nat→Bool}:∀{l:List At},okL q l=true→∀{i:Nat},i∈vrL l→q i=true
 | [],_,i,hi=>by cases hi
 | a::l,h,i,hi=>by
  simp only [okL] at h
  split at h
  ·rename_i ha
   simp only [vrL,yy] at hi
   rcases hi with hi | hi
   ·exact jjW ha hi
   ·exact jgE h hi
  ·cases h
theorem jdr {q:Nat→Bool}:∀{l:List LV},(∀v∈l,v.ok q=true)→∀{i:Nat},i∈jhp l→q i=true
 | [],_,i,hi=>by cases hi
 | a::l,h,i,hi=>by
  simp only [jhp,yy] at hi
  rcases hi with hi | hi
  ·have ha:=h a (List.mem_cons_self ..)
   cases a with
   | v x=>
    cases x with
    | one a=>exact jjW ha hi
    | agg l=>exact jgE ha hi
   | tup l=>cases hi
  ·exact jdr (fun v hv=>h v (List.mem_cons_of_mem _ hv)) hi
theorem jb2 {q:Nat→Bool}:∀{l:List Blk},(∀b∈l,okL q b.cells=true)→∀{i:Nat},i∈jnm l→q i=true
 | [],_,i,hi=>by cases hi
 | b::l,h,i,hi=>by
  simp only [jnm,yy] at hi
  rcases hi with hi | hi
  ·exact jgE (h b (List.mem_cons_self ..)) hi
  ·exact jb2 (fun c hc=>h c (List.mem_cons_of_mem _ hc)) hi
theorem jgF {t:Tch} {d:Dl} (hg:∀i c,g i=some c→p i=true∧okL p c.cells=true) (h:jg6 t g nb=some d):OkD p g nb d:=by
 unfold jg6 at h
 split at h
 ·rename_i r ws' hr hw hnd
  split at h
  ·rename_i ans hans
   split at h
   ·rename_i ws hws
    split at h
    ·rename_i k1 k2 k3
     cases h
     have hname:∀i,yP t nb (jaO ans.nw) i=true→pn p nb ans.nw.length i=true:=by
      intro i hi
      unfold yP at hi
      cases h1:yH t.rd i with
      | true=>
       obtain ⟨c,hc⟩:=Option.isSome_iff_exists.1 (kh hr i (memB_iff.1 h1))
       exact xf (hg i c hc).1
      | false=>
       cases h2:yH t.wr i with
       | true=>
        obtain ⟨c,hc⟩:=Option.isSome_iff_exists.1 (kh hw i (memB_iff.1 h2))
        exact xf (hg i c hc).1
       | false=>
        simp only [h1,h2,Kx,zT,jbH] at hi
        by_cases h3:nb≤i
        ·simp only [h3,decide_true] at hi
         simp only [pn,h3,decide_true,Bool.true_and,hi,Bool.or_true]
        ·simp [h3] at hi
     obtain ⟨z1,z2⟩:=jau hws
     refine ⟨LV.ok_mono hname k1,fun x hx b hb=> ?_,jab hname k3,fun x hx=> ?_, ?_⟩
     ·obtain ⟨b',hb',he⟩:=z2 x hx
      rw [he] at hb
      rw [←Option.some.inj hb]
      refine jn (fun i hi=> ?_) (okBs_iff.1 k2 b' hb')
      unfold juB at hi
      split at hi
      ·rename_i hm;exact hname i hm
      ·have hi:=memB_iff.1 hi
       rw [yy] at hi
       rcases hi with hi | hi
       ·obtain ⟨kb,hkb,hir⟩:=X8 hi
        obtain ⟨j,hj⟩:=xI hw kb hkb
        exact xf (jdq (hg j kb hj).2 hir)
       ·refine xf (jb2 (fun b hb=> ?_) hi)
        obtain ⟨j,hj⟩:=xI hw b hb
        exact (hg j b hj).2
     ·exact kh hw x.1 (by rw [←z1];exact List.mem_map_of_mem hx)
     ·show (ws.map (·.1)).Nodup
      rw [z1]
      exact nodupB_iff.1 hnd
    ·cases h
   ·cases h
  ·cases h
 ·cases h
theorem Kf {t:Tch} {d:Dl} (h:jg6 t g nb=some d):∃rB wB ans ws,jz g t.rd=some rB∧jz g t.wr=some wB∧xV t.wr=true∧t.go rB wB nb=some ans∧Xi t.wr ans.wr=some ws∧d=⟨ans.val,ws,ans.nw,t.rd++t.wr,ans.cs⟩:=by
 unfold jg6 at h
 split at h
 ·rename_i rB wB hrB hwB hnd
  split at h
  ·rename_i ans hans
   split at h
   ·rename_i ws hws
    split at h
    ·cases h
     exact ⟨rB,wB,ans,ws,hrB,hwB,hnd,hans,hws,rfl⟩
    ·cases h
   ·cases h
  ·cases h
 ·cases h
theorem JP:∀l:List (Nat×Option Blk),Xj l=l.map (·.1)
 | []=>rfl
 | x::l=>by simp [Xj,JP l]
theorem Qb {q:Nat→Bool}:∀{l:List (Nat×Option Blk)},jkp q l=true→∀x∈l,∀b,x.2=some b→okL q b.cells=true
 | [],_,x,hx=>by cases hx
 | (i,none)::l,h,x,hx=>by
  rcases List.mem_cons.1 hx with rfl | hx
  ·intro b hb;cases hb
  ·exact Qb (l:=l) h x hx
 | (i,some b)::l,h,x,hx=>by
  simp only [jkp] at h
  split at h
  ·rename_i hb
   rcases List.mem_cons.1 hx with rfl | hx
   ·intro c hc;cases hc;exact hb
   ·exact Qb h x hx
  ·cases h
theorem Q5:∀{l m:List Nat},Zu l m=true→∀i∈l,i∈m
 | [],_,_,i,hi=>by cases hi
 | a::l,m,h,i,hi=>by
  simp only [Zu] at h
  split at h
  ·rename_i ha
   rcases List.mem_cons.1 hi with rfl | hi
   ·exact memB_iff.1 ha
   ·exact Q5 h i hi
  ·cases h
theorem Kg {args:List LV} {s:List LV→List Nat→List Blk→Nat→Option Dl} {seen:List Nat} {ks:List Blk} {d:Dl} (h:jqD args s seen ks nb=some d):
  ∃d0,s args seen ks nb=some d0∧(Xj d0.wr).Nodup∧(∀i∈Xj d0.wr,i∈seen)∧d0.val.ok (Zv args seen ks nb (jaO d0.nw))=true∧okBs (Zv args seen ks nb (jaO d0.nw)) d0.nw=true∧
   jkp (Zv args seen ks nb (jaO d0.nw)) d0.wr=true∧d=⟨d0.val,d0.wr,d0.nw,seen,d0.cs⟩:=by
 unfold jqD at h
 split at h
 ·rename_i d0 hd0
  split at h
  ·rename_i h1 h2 h3
   split at h
   ·rename_i h4 h5
    cases h
    exact ⟨d0,hd0,nodupB_iff.1 h1,Q5 h2,h3,h4,h5,rfl⟩
   ·cases h
  ·cases h
 ·cases h
theorem jlX {args:List LV} {s:List LV→List Nat→List Blk→Nat→Option Dl} {seen:List Nat} {ks:List Blk} {d:Dl} (hg:∀i c,g i=some c→p i=true∧okL p c.cells=true) (ha:∀v∈args,v.ok p=true) (hl:jz g seen=some ks) (h:jqD args s seen ks nb=some d):OkD p g nb d:=by
 obtain ⟨d0,-,h1,h2,h3,h4,h5,rfl⟩:=Kg h
 have hname0:∀i,yP ⟨seen,[],fun _ _ _=>none⟩ nb (jaO d0.nw) i=true→pn p nb d0.nw.length i=true:=by
  intro i hi
  unfold yP at hi
  cases h1:yH seen i with
  | true=>
   obtain ⟨c,hc⟩:=Option.isSome_iff_exists.1 (kh hl i (memB_iff.1 h1))
   exact xf (hg i c hc).1
  | false=>
   simp only [h1,yH,Kx,zT,jbH] at hi
   by_cases h3:nb≤i
   ·simp only [h3,decide_true] at hi
    simp only [pn,h3,decide_true,Bool.true_and,hi,Bool.or_true]
   ·simp [h3] at hi
 have hname:∀i,Zv args seen ks nb (jaO d0.nw) i=true→pn p nb d0.nw.length i=true:=by
  intro i hi
  unfold Zv at hi
  split at hi
  ·rename_i h0;exact hname0 i h0
  ·split at hi
   ·rename_i h0
    exact xf (jdr ha (memB_iff.1 h0))
   ·refine xf (jb2 (fun b hb=> ?_) (memB_iff.1 hi))
    obtain ⟨j,hj⟩:=xI hl b hb
    exact (hg j b hj).2
 refine ⟨LV.ok_mono hname h3,fun x hx b hb=>jn hname (Qb h5 x hx b hb),jab hname h4,fun x hx=> ?_, ?_⟩
 ·exact kh hl x.1 (h2 x.1 (by rw [JP];exact List.mem_map_of_mem hx))
 ·rw [←JP];exact h1
theorem jgG {S:FuncId→Option SumK} (hS:AllOK P S) (hτ:∀t,a.eval (.tmp t)=(τ t).den E) (hp:∀t,(τ t).ok p=true) {o:Oper} {c:Call} {f:FuncId} {args:List LV} {s:SumK} {d:Dl} (ho:o.op = .call c)
  (hc:callee τ c=some (f,args)) (hs:S f=some s) (h:jdA s args g nb=some d) (hr:Rel E g w) (hg:∀i c,g i=some c→p i=true∧okL p c.cells=true)
  (hn:∀i,nb≤i→i<nb+d.nw.length→p i=false):StepOK P o a w E g nb d:=by
 have hK:=hS f s hs
 cases s with
 | old s=>
  simp only [jdA] at h
  split at h
  ·rename_i t ht
   obtain ⟨rB,wB,ans,ws,hrB,hwB,hnd,hans,hws,rfl⟩:=Kf h
   intro hcs K Q hk
   refine CallOK.wp ho hτ hc (hK args t g nb p rB wB ans ws E w ht hrB hwB hnd hans hws hcs hr hg (x6 hp hc) hn) ?_
   rintro v w' ⟨E',rfl,hpost⟩
   exact hk E' w' ⟨hpost.agree,hpost.rel,hpost.os,hpost.tape,hpost.output,hpost.size,hpost.frame,hpost.fresh⟩
  ·cases h
 | peek s=>
  simp only [jdA] at h
  split at h
  ·rename_i t ht
   split at h
   ·obtain ⟨rB,wB,ans,ws,hrB,hwB,hnd,hans,hws,rfl⟩:=Kf h
    intro hcs K Q hk
    refine CallOK.wp ho hτ hc (hK args t g nb p rB wB ans ws E w ht hrB hwB hnd hans hws hcs hr hg (x6 hp hc) hn) ?_
    rintro v w' ⟨E',rfl,hpost⟩
    exact hk E' w' ⟨hpost.agree,hpost.rel,hpost.os,hpost.tape,hpost.output,hpost.size,hpost.frame,hpost.fresh⟩
   ·cases h
  ·cases h
 | gen s=>
  simp only [jdA] at h
  split at h
  ·rename_i seen hseen
   split at h
   ·rename_i ks hks
    obtain ⟨d0,hd0,k1,-,-,-,-,rfl⟩:=Kg h
    intro hcs K Q hk
    refine CallOK.wp ho hτ hc (hK args seen ks g nb p d0 E w hks hd0 k1 hcs hr hg (x6 hp hc) hn) ?_
    rintro v w' ⟨E',rfl,hpost⟩
    exact hk E' w' ⟨hpost.agree,hpost.rel,hpost.os,hpost.tape,hpost.output,hpost.size,hpost.frame,hpost.fresh⟩
   ·cases h
  ·cases h
theorem StepOK.of_pick {o:Oper} {c x y:Operand} {pd:Option Bool} {d:Dl} (hτ:∀t,a.eval (.tmp t)=(τ t).den E) (ho:o.op = .pick c x y) (h:jaM τ pd c x y=some d) (hr:Rel E g w):StepOK P o a w E g nb d:=by
 obtain ⟨h1,h2,h3⟩:=jea (P:=P) (w:=w) hτ h
 intro hc K Q hk
 have:=h3 hc
 unfold Oper.wp execOp
 simp only [ho]
 rw [this]
 exact hk E w (.refl h1 h2 hr)
theorem Xy {o:Oper} {x:Operand} {v:LV} {d:Dl} (ho:o.op = .nilCheck x) (hx:a.eval x=v.den E) (h:yQ v=some d) (hr:Rel E g w):StepOK P o a w E g nb d:=by
 unfold yQ at h
 split at h
 ·refine .of_pur (s:=pure (a.eval x)) hr (jK h (by rw [hx];rfl)) ?_
  simp [execOp,ho,hx,LV.den,V1.den,At.den]
 ·refine .of_pur (s:=pure (a.eval x)) hr (jK h (by rw [hx];rfl)) ?_
  simp [execOp,ho,hx,LV.den,V1.den,At.den]
 ·refine .of_pur (s:=pure (a.eval x)) hr (jK h (by rw [hx];rfl)) ?_
  simp [execOp,ho,hx,LV.den,V1.den,At.den]
 ·cases h
theorem jav {v:LV} {d:Dl} (h:yQ v=some d) (hv:v.ok p=true):OkD p g nb d:=by
 unfold yQ at h
 split at h
 ·exact .val1 h hv
 ·exact .val1 h hv
 ·exact .val1 h hv
 ·cases h
theorem jiH {S:FuncId→Option SumK} (hS:AllOK P S) (hτ:∀t,a.eval (.tmp t)=(τ t).den E) (hp:∀t,(τ t).ok p=true) {z:Bool} {pd:Option Bool} {o:Oper} {d:Dl}
  (hbin:∀(op:BinOp) (t:TypeId) (x y:LV) (xo yo:Operand) (kn:Bool) (d:Dl),a.eval xo=x.den E→a.eval yo=y.den E→jnk P op t x y kn=some d→
   Pur P E w (do eqGuard op t xo yo (x.den E) (y.den E);binOp op t (x.den E) (y.den E)) d)
  (h:opD P S z τ g nb pd o.op=some d) (hr:Rel E g w) (hg:∀i c,g i=some c→p i=true∧okL p c.cells=true) (hn:∀i,nb≤i→i<nb+d.nw.length→p i=false):
  StepOK P o a w E g nb d:=by
 cases ho:o.op <;> rw [ho] at h <;> simp only [opD,on1,on2,onL,onP,jeU,reduceCtorEq] at h
 case move x=>
  split at h
  ·rename_i v hv
   cases h
   refine .of_pur (s:=pure (a.eval x)) hr (.of_run (by simp [jW hτ hv])) (by simp [execOp,ho])
  ·cases h
 case assign x=>
  split at h
  ·rename_i v hv
   cases h
   refine .of_pur (s:=pure (a.eval x)) hr (.of_run (by simp [jW hτ hv])) (by simp [execOp,ho])
  ·cases h
 case pick c x y=>exact .of_pick hτ ho h hr
 case alloc t=>exact jbM ho h hr hg hn
 case box t x=>
  split at h
  ·rename_i v hv
   exact jgk ho (jW hτ hv) (yJ hp hv) h hr hg hn
  ·cases h
 case build t parts=>
  split at h
  ·rename_i l hl
   refine .of_pur hr (jbR h) ?_
   have h2:(parts.map fun (i,x)=>(i,a.eval x))=(l.map fun q=>(q.1,q.2.den E)).toArray:=by
    rw [←zg hτ hl]
    rcases parts with ⟨l⟩
    simp
   simp only [execOp,ho,h2]
  ·cases h
 case buildSlice t n parts=>
  split at h
  ·rename_i l hl
   exact KM ho (zg hτ hl) (zI hp hl) h hr hg hn
  ·cases h
 case load t x=>
  split at h
  ·rename_i v hv
   exact .of_pur hr (jbO hr h) (by simp [execOp,ho,jW hτ hv])
  ·cases h
 case store t x y=>
  split at h
  ·rename_i v hv
   split at h
   ·rename_i u hu
    exact jbP ho (jW hτ hv) (jW hτ hu) h hr
   ·cases h
  ·cases h
 case nilCheck x=>
  split at h
  ·rename_i v hv
   exact Xy ho (jW hτ hv) h hr
  ·cases h
 case binOp op t x y ty=>
  split at h
  ·rename_i v hv
   split at h
   ·rename_i u hu
    have h1:=jW hτ hv
    have h2:=jW hτ hu
    refine .of_pur hr (hbin op t v u x y _ d h1 h2 h) ?_
    simp only [execOp,ho,h1,h2]
   ·cases h
  ·cases h
 case unOp op t x=>
  split at h
  ·rename_i v hv
   exact .of_pur hr (jiu h) (by simp [execOp,ho,jW hτ hv])
  ·cases h
 case convert t u x=>
  split at h
  ·rename_i v hv
   exact .of_pur hr (jd4 h) (by simp [execOp,ho,jW hτ hv])
  ·cases h
 case makeFunc f first caps=>
  split at h
  ·rename_i l hl
   refine .of_pur hr (Xv (a:=a) h) ?_
   have h2:caps.map a.eval=(l.map (LV.den E)).toArray:=by
    rw [←JL hτ hl]
    rcases caps with ⟨l⟩
    simp
   simp only [execOp,ho,h2]
   rcases first with ⟨l⟩
   simp
  ·cases h
 case slice t x lo hi mx=>
  unfold slD at h
  split at h
  ·rename_i l hl
   split at h
   ·rename_i u hu
    split at h
    ·rename_i m hm
     simp only [on1] at h
     split at h
     ·rename_i v hv
      have oe:∀{y:Option Operand} {q:Option LV},jho τ y=some q→y.map a.eval=q.map (LV.den E):=by
       intro y q hq
       cases y with
       | none=>simp only [jho] at hq;cases hq;rfl
       | some z=>
        simp only [jho] at hq
        split at hq
        ·rename_i q' hq';cases hq;simp [jW hτ hq']
        ·cases hq
      have e1:=oe hl
      have e2:=oe hu
      have e3:=oe hm
      have hex:execOp a.eval o=(do pure (.value (←Instr.sliceAt t (v.den E) (l.map (LV.den E)) (u.map (LV.den E)) (m.map (LV.den E))))):=by
       simp [execOp,ho,jW hτ hv,e1,e2,e3]
      unfold Ql at h
      split at h
      ·split at h
       ·exact .of_pur hr (jbW hr h) hex
       ·cases h
      ·split at h
       ·rename_i b n hb
        have:=jeh hb
        subst this
        exact Q3 hex rfl h hr hg hn
       ·split at h
        ·rename_i b n hb
         have:=jei hb
         subst this
         exact jbV hex rfl h hr hg hn
        ·exact .of_pur hr (jbL h) hex
     ·cases h
    ·cases h
   ·cases h
  ·cases h
 case sliceToArrayPointer t x=>
  split at h
  ·rename_i v hv
   exact .of_pur hr (jai h) (by simp [execOp,ho,jW hτ hv])
  ·cases h
 case fieldAddr t x i=>
  split at h
  ·rename_i v hv
   exact .of_pur hr (QV h) (by simp [execOp,ho,jW hτ hv])
  ·cases h
 case field t x i=>
  split at h
  ·rename_i v hv
   exact .of_pur hr (jbJ h) (by simp [execOp,ho,jW hτ hv])
  ·cases h
 case indexAddr t x i=>
  split at h
  ·rename_i v hv
   split at h
   ·rename_i u hu
    exact .of_pur hr (QW h) (by simp [execOp,ho,jW hτ hv,jW hτ hu])
   ·cases h
  ·cases h
 case index t x i=>
  split at h
  ·rename_i v hv
   split at h
   ·rename_i u hu
    exact .of_pur hr (jbK h) (by simp [execOp,ho,jW hτ hv,jW hτ hu])
   ·cases h
  ·cases h
 case extract x i=>
  split at h
  ·rename_i v hv
   exact .of_pur hr (YZ h) (by simp [execOp,ho,jW hτ hv])
  ·cases h
 case call c=>
  unfold jhr at h
  split at h
  ·rename_i hb
   simp only [onL] at h
   split at h
   ·rename_i l hl
    have h2:c.args.map a.eval=(l.map (LV.den E)).toArray:=by
     rw [←JL hτ hl]
     rcases c with ⟨_,⟨l⟩,_⟩
     simp
    exact jaq ho hb h2 h hr hg hn
   ·cases h
  ·rename_i b _ hb
   simp only [onL] at h
   split at h
   ·rename_i l hl
    have h2:c.args.map a.eval=(l.map (LV.den E)).toArray:=by
     rw [←JL hτ hl]
     rcases c with ⟨_,⟨l⟩,_⟩
     simp
    unfold zu at h
    split at h
    ·exact jee ho hb h2 h hr
    ·exact jbX ho hb h2 h hr
    unfold Yj at h
    split at h
    ·rename_i t x he1 _ _ _
     have h3:c.argTypes = #[t]:=by
      rcases c with ⟨_,_,⟨l⟩⟩
      simpa using he1
     refine .of_pur hr (jgh (ty:=o.type) h) ?_
     simp [execOp,ho,resolve,hb,h2,h3,invoke,builtin]
    ·refine .of_pur hr (jgi (ts:=c.argTypes) (ty:=o.type) h) ?_
     simp [execOp,ho,resolve,hb,h2,invoke,builtin]
    ·refine .of_pur hr (jgj (ts:=c.argTypes) (ty:=o.type) h) ?_
     simp [execOp,ho,resolve,hb,h2,invoke,builtin]
    ·cases h
   ·cases h
  ·split at h
   ·rename_i f args hc
    split at h
    ·rename_i s hs
     exact jgG hS hτ hp ho hc hs h hr hg hn
    ·cases h
   ·cases h
theorem jpK {S:FuncId→Option SumK} (hp:∀t,(τ t).ok p=true) {z:Bool} {pd:Option Bool} {op:Op} {d:Dl} (h:opD P S z τ g nb pd op=some d)
  (hg:∀i c,g i=some c→p i=true∧okL p c.cells=true):OkD p g nb d:=by
 cases op <;> simp only [opD,on1,on2,onL,onP,jeU,reduceCtorEq] at h
 case move x=>
  split at h
  ·rename_i v hv;cases h;exact .plain rfl rfl (yJ hp hv)
  ·cases h
 case assign x=>
  split at h
  ·rename_i v hv;cases h;exact .plain rfl rfl (yJ hp hv)
  ·cases h
 case pick c x y=>exact jiA hp h
 case alloc t=>exact jgy h
 case box t x=>
  split at h
  ·rename_i v hv;exact jlW h (yJ hp hv)
  ·cases h
 case build t parts=>
  split at h
  ·rename_i l hl;exact jgx h (zI hp hl)
  ·cases h
 case buildSlice t n parts=>
  split at h
  ·rename_i l hl;exact Xx h (zI hp hl)
  ·cases h
 case load t x=>
  split at h
  ·exact jgz hg h
  ·cases h
 case store t x y=>
  split at h
  ·split at h
   ·rename_i u hu;exact jgD hg (yJ hp hu) h
   ·cases h
  ·cases h
 case nilCheck x=>
  split at h
  ·rename_i v hv
   exact jav h (yJ hp hv)
  ·cases h
 case binOp op t x y ty=>
  split at h
  ·split at h
   ·unfold jnk at h
    split at h
    ·split at h
     ·exact jiy h
     ·cases h
    ·split at h
     ·split at h
      ·unfold jko at h
       split at h
       ·split at h
        ·exact .val1 h rfl
        ·cases h
       ·split at h
        ·exact .val1 h rfl
        ·cases h
       ·cases h
      ·cases h
     ·cases h
   ·cases h
  ·cases h
 case unOp op t x=>
  split at h
  ·exact jpJ h
  ·cases h
 case convert t u x=>
  split at h
  ·exact jiz h
  ·cases h
 case makeFunc f first caps=>
  split at h
  ·rename_i l hl;exact jar h (jgc hp hl)
  ·cases h
 case slice t x lo hi mx=>
  unfold slD at h
  split at h
  ·split at h
   ·split at h
    ·simp only [on1] at h
     split at h
     ·rename_i v hv;exact jgv hg h (yJ hp hv)
     ·cases h
    ·cases h
   ·cases h
  ·cases h
 case sliceToArrayPointer t x=>
  split at h
  ·rename_i v hv;exact jeg h (yJ hp hv)
  ·cases h
 case fieldAddr t x i=>
  split at h
  ·rename_i v hv;exact Y3 h (yJ hp hv)
  ·cases h
 case field t x i=>
  split at h
  ·rename_i v hv;exact jgp h (yJ hp hv)
  ·cases h
 case indexAddr t x i=>
  split at h
  ·rename_i v hv
   split at h
   ·exact Y4 h (yJ hp hv)
   ·cases h
  ·cases h
 case index t x i=>
  split at h
  ·rename_i v hv
   split at h
   ·exact jgq h (yJ hp hv)
   ·cases h
  ·cases h
 case extract x i=>
  split at h
  ·rename_i v hv;exact jbY h (yJ hp hv)
  ·cases h
 case call c=>
  unfold jhr at h
  split at h
  ·simp only [onL] at h
   split at h
   ·exact jem hg h
   ·cases h
  ·simp only [onL] at h
   split at h
   ·unfold zu at h
    split at h
    ·exact jiF hg h
    ·exact jgB hg h
    unfold Yj at h
    split at h
    ·exact jlV h
    ·exact X7 h
    ·exact X7 h
    ·cases h
   ·cases h
  ·split at h
   ·split at h
    ·rename_i s _
     cases s with
     | old s=>
      simp only [jdA] at h
      split at h
      ·exact jgF hg h
      ·cases h
     | peek s=>
      simp only [jdA] at h
      split at h
      ·split at h
       ·exact jgF hg h
       ·cases h
      ·cases h
     | gen s=>
      simp only [jdA] at h
      split at h
      ·split at h
       ·rename_i ks hks
        exact jlX hg (x6 hp (by assumption)) hks h
       ·cases h
      ·cases h
    ·cases h
   ·cases h
end
end Go.Lr
