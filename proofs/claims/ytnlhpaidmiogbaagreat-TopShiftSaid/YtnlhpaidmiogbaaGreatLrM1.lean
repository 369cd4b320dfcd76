/- Joined texts. What each part proves stands ahead of it; no condition. -/
import Derived.Calls
import Derived.Orders
import Derived.WalkKit
import Derived.LoopN

/- A local evaluator of Go code: the values of a call's own memory, block by block. Definitions alone. -/
namespace Go.Lr
inductive At where
 | int (k:IntKind) (n:Int)
 | bool (b:Bool)
 | ptr (b o:Nat)
 | nilp
 | sl (b o len cap:Nat)
 | slu (b len:Nat)
 | slx (b o len cap:Nat)
 | ptx (b o:Nat)
 | nilsl
 | slt (b o n:Nat)
 | fn (f:FuncId) (caps:List (Nat×Nat))
 | opq (v:Value)
inductive V1 where
 | one (a:At)
 | agg (l:List At)
inductive LV where
 | v (x:V1)
 | tup (l:List V1)
structure Loc where
 blk:Nat
 cap:Nat
 pre:List Value
 suf:List Value
 ty:Option TypeId
abbrev Loc.at (b c:Nat):Loc:=⟨b,c,[],[],none⟩
abbrev Env:=Nat→Loc
def At.den (E:Env):At→Value
 | .int k n=> .int k n
 | .bool b=> .bool b
 | .ptr b o=> .pointer (some ⟨(E b).1,o+(E b).pre.length,none⟩)
 | .nilp=> .pointer none
 | .sl b o l c=> .slice (some ⟨(E b).1,o+(E b).pre.length,none⟩) l c
 | .slu b l=> .slice (some ⟨(E b).1,(E b).pre.length,none⟩) l (E b).2
 | .slx b o l c=> .slice (some ⟨(E b).1,o+(E b).pre.length,none⟩) l c
 | .ptx b o=> .pointer (some ⟨(E b).1,o+(E b).pre.length,none⟩)
 | .nilsl=> .slice none 0 0
 | .slt b o n=> .slice (some ⟨(E b).1,(if (E b).2=n then 0 else o)+(E b).pre.length,none⟩) 0 ((E b).2 - n)
 | .fn f caps=> .func (.func f) #[] (caps.map fun p=>Value.pointer (some ⟨(E p.1).1,p.2+(E p.1).pre.length,none⟩)).toArray
 | .opq v=>v
def V1.den (E:Env):V1→Value
 | .one a=>a.den E
 | .agg l=> .agg (l.map (At.den E)).toArray
def LV.den (E:Env):LV→Value
 | .v x=>x.den E
 | .tup l=> .tuple (l.map (V1.den E)).toArray
def At.cell:At→Bool
 | .opq (.agg _)=>false
 | .opq (.tuple _)=>false
 | _=>true
def xl:List At→Bool
 | []=>true
 | a::l=>match a.cell with
  | true=>xl l
  | false=>false
structure Blk where
 ty:TypeId
 fr:Nat×Nat
 es:Nat
 cells:List At
abbrev Mem:=List (Nat×Blk)
def getM:Mem→Nat→Option Blk
 | [],_=>none
 | (j,b)::m,i=>match Nat.beq j i with
  | true=>some b
  | false=>getM m i
def jc2:Mem→Nat→Option Blk→Mem
 | [],_,_=>[]
 | (j,b)::m,i,s=>match Nat.beq j i with
  | true=>match s with
   | some c=>(j,c)::m
   | none=>m
  | false=>(j,b)::jc2 m i s
def jhi {β:Type}:Mem→Nat→Option Blk→(Mem→β)→β
 | [],_,_,k=>k []
 | (j,b)::m,i,s,k=>match Nat.beq j i with
  | true=>match s with
   | some c=>k ((j,c)::m)
   | none=>k m
  | false=>jhi m i s fun r=>k ((j,b)::r)
def xt:LV:= .v (.one (.opq undef))
inductive Tr where
 | nil
 | nd (v:LV) (l r:Tr)
def getT:Tr→Nat→LV
 | .nil,_=>xt
 | .nd v _ _,0=>v
 | .nd _ l r,i+1=>match Nat.beq (i%2) 0 with
  | true=>getT l (i/2)
  | false=>getT r (i/2)
def KY:Nat→Tr→Nat→LV→Tr
 | 0,t,_,_=>t
 | _+1,.nil,0,v=> .nd v .nil .nil
 | _+1,.nd _ l r,0,v=> .nd v l r
 | f+1,.nil,i+1,v=>match Nat.beq (i%2) 0 with
  | true=> .nd xt (KY f .nil (i/2) v) .nil
  | false=> .nd xt .nil (KY f .nil (i/2) v)
 | f+1,.nd u l r,i+1,v=>match Nat.beq (i%2) 0 with
  | true=> .nd u (KY f l (i/2) v) r
  | false=> .nd u l (KY f r (i/2) v)
def KZ {β:Type}:Nat→Tr→Nat→LV→(Tr→β)→β
 | 0,t,_,_,k=>k t
 | _+1,.nil,0,v,k=>k (.nd v .nil .nil)
 | _+1,.nd _ l r,0,v,k=>k (.nd v l r)
 | f+1,.nil,i+1,v,k=>match Nat.beq (i%2) 0 with
  | true=>KZ f .nil (i/2) v fun t=>k (.nd xt t .nil)
  | false=>KZ f .nil (i/2) v fun t=>k (.nd xt .nil t)
 | f+1,.nd u l r,i+1,v,k=>match Nat.beq (i%2) 0 with
  | true=>KZ f l (i/2) v fun t=>k (.nd u t r)
  | false=>KZ f r (i/2) v fun t=>k (.nd u l t)
def jb5:Value→Option At
 | .int k n=>some (.int k n)
 | .bool b=>some (.bool b)
 | .pointer none=>some .nilp
 | .slice none 0 0=>some .nilsl
 | .string s=>some (.opq (.string s))
 | .nilIface=>some (.opq .nilIface)
 | .nilFunc=>some (.opq .nilFunc)
 | .map none=>some (.opq (.map none))
 | _=>none
def Qy:List Value→Option (List At)
 | []=>some []
 | v::l=>match jb5 v,Qy l with
  | some a,some r=>some (a::r)
  | _,_=>none
def jaF:Value→Option V1
 | .agg cs=>match Qy cs.toList with
  | some l=>some (.agg l)
  | none=>none
 | v=>match jb5 v with
  | some a=>some (.one a)
  | none=>none
def ev (τ:Nat→LV):Operand→Option LV
 | .tmp t=>some (τ t)
 | .const v=>match jaF v with
  | some x=>some (.v x)
  | none=>none
 | .func f=>some (.v (.one (.fn f [])))
 | .global _=>none
def evs (τ:Nat→LV):List Operand→Option (List LV)
 | []=>some []
 | x::l=>match ev τ x,evs τ l with
  | some v,some r=>some (v::r)
  | _,_=>none
structure Dl where
 val:LV
 wr:List (Nat×Option Blk)
 nw:List Blk
 rd:List Nat
 cs:List (Bool×Bool)
def Dl.pure (v:LV):Dl:=⟨v,[],[],[],[]⟩
def val1 (a:At):Option Dl:=some (.pure (.v (.one a)))
def xv:LV→Option (List At)
 | .v (.one a)=>match a.cell with
  | true=>some [a]
  | false=>none
 | .v (.agg l)=>match xl l with
  | true=>some l
  | false=>none
 | .tup _=>none
def kY (P:Program) (t:TypeId):Option Nat:=
 match P.info? t with
 | some i=>some i.size
 | none=>none
def jvd (P:Program) (t:TypeId):Option Bool:=
 match P.underlying t with
 | some (.struct _)=>some true
 | some (.array _ _)=>some true
 | some _=>some false
 | none=>none
def Qz (P:Program) (t:TypeId):Option (List At):=
 match P.info? t with
 | some i=>match i.zero with
  | some z=>match jaF z with
   | some (.one a)=>some [a]
   | some (.agg l)=>some l
   | none=>none
  | none=>none
 | none=>none
def len:List At→Nat
 | []=>0
 | _::l=>len l+1
def Yl (l:List At) (o n:Nat):Option (List At):=
 match o,n,l with
 | 0,0,_=>some []
 | 0,n+1,a::l=>match Yl l 0 n with
  | some r=>some (a::r)
  | none=>none
 | o+1,n,_::l=>Yl l o n
 | 0,_+1,[]=>none
 | _+1,_,[]=>none
def XK (l:List At) (o:Nat) (vs:List At):Option (List At):=
 match o,vs,l with
 | 0,[],l=>some l
 | 0,v::vs,_::l=>match XK l 0 vs with
  | some r=>some (v::r)
  | none=>none
 | o+1,vs,a::l=>match XK l o vs with
  | some r=>some (a::r)
  | none=>none
 | 0,_::_,[]=>none
 | _+1,_,[]=>none
def atS:List At→Nat→Option At
 | [],_=>none
 | a::_,0=>some a
 | _::l,n+1=>atS l n
def jaG:Nat→List At→Option (List At)
 | 0,l=>some l
 | q+1,l=>match l with
  | _::_::_::_::_::_::_::_::_::_::_::_::_::_::_::_::r=>jaG q r
  | _=>none
def jop:Nat→List At→Nat→List At→Option (List At)
 | 0,l,o,vs=>XK l o vs
 | q+1,l,o,vs=>match l with
  | a0::a1::a2::a3::a4::a5::a6::a7::r=>match jop q r o vs with
   | some r=>some (a0::a1::a2::a3::a4::a5::a6::a7::r)
   | none=>none
  | _=>none
def cut (l:List At) (o n:Nat):Option (List At):=
 match Nat.blt o 16 with
 | true=>Yl l o n
 | false=>match jaG (o/16) l with
  | some r=>Yl r (o%16) n
  | none=>none
def atL (l:List At) (o:Nat):Option At:=
 match Nat.blt o 16 with
 | true=>atS l o
 | false=>match jaG (o/16) l with
  | some r=>atS r (o%16)
  | none=>none
def lay (l:List At) (o:Nat) (vs:List At):Option (List At):=
 match Nat.blt o 8 with
 | true=>XK l o vs
 | false=>jop (o/8) l (o%8) vs
def xw:List Field→Nat→Option Field
 | [],_=>none
 | a::_,0=>some a
 | _::l,n+1=>xw l n
def xI (P:Program) (t:TypeId) (l:List At) (o:Nat):Option V1:=
 match jvd P t with
 | some true=>match kY P t with
  | some n=>match cut l o n with
   | some r=>some (.agg r)
   | none=>none
  | none=>none
 | some false=>match atL l o with
  | some a=>some (.one a)
  | none=>none
 | none=>none
def joq:Operand→Bool
 | .const _=>true
 | _=>false
def ask (known:Bool) (b want:Bool) (k:List (Bool×Bool)→Option Dl):Option Dl:=
 match known with
 | true=>match b,want with
  | true,true=>k []
  | false,false=>k []
  | _,_=>none
 | false=>k [(b,want)]
def jkn:IntKind→Nat
 | .i8=>0
 | .i16=>1
 | .i32=>2
 | .i64=>3
 | .u8=>4
 | .u16=>5
 | .u32=>6
 | .u64=>7
def QA (k l:IntKind):Bool:=Nat.beq (jkn k) (jkn l)
def w64 (n:Int):Int:=(n+9223372036854775808)%18446744073709551616 - 9223372036854775808
def u64 (n:Int):Int:=n%18446744073709551616
def wr (k:IntKind) (n:Int):Int:=
 match k with
 | .i64=>w64 n
 | .u64=>u64 n
 | k=>k.wrap n
def jhj (op:BinOp) (x y:Nat):Option Nat:=
 match op with
 | .and=>some (Nat.land x y)
 | .or=>some (Nat.lor x y)
 | .xor=>some (Nat.xor x y)
 | _=>none
def jc3 (op:BinOp) (k:IntKind) (x y:Int):Option Int:=
 match jhj op (u64 x).toNat (u64 y).toNat with
 | some r=>match k with
  | .u64=>some (Int.ofNat r)
  | .i64=>some (w64 (Int.ofNat r))
  | _=>none
 | none=>none
def jj (n:Nat):Int:=Int.ofNat (Nat.pow 2 n)
def jve (op:BinOp) (k:IntKind) (a b:Int) (yc:Bool):Option Dl:=
 match op with
 | .add=>val1 (.int k (wr k (a+b)))
 | .sub=>val1 (.int k (wr k (a - b)))
 | .mul=>val1 (.int k (wr k (a*b)))
 | .quo=>ask yc (decide (b=0)) false fun cs=>some ⟨.v (.one (.int k (wr k (a.tdiv b)))),[],[],[],cs⟩
 | .rem=>ask yc (decide (b=0)) false fun cs=>some ⟨.v (.one (.int k (a.tmod b))),[],[],[],cs⟩
 | .eql=>val1 (.bool (a==b))
 | .neq=>val1 (.bool (a != b))
 | .lss=>val1 (.bool (decide (a<b)))
 | .leq=>val1 (.bool (decide (a≤b)))
 | .gtr=>val1 (.bool (decide (a>b)))
 | .geq=>val1 (.bool (decide (a≥b)))
 | op=>match jc3 op k a b with
  | some r=>val1 (.int k r)
  | none=>none
def jb6 (op:BinOp) (k:IntKind) (a b:Int) (yc:Bool):Option Dl:=
 match op with
 | .shl=>ask yc (decide (b<0)) false fun cs=>some ⟨.v (.one (.int k (wr k (a*jj (min b.toNat k.bits))))),[],[],[],cs⟩
 | .shr=>ask yc (decide (b<0)) false fun cs=>some ⟨.v (.one (.int k (a/jj (min b.toNat k.bits)))),[],[],[],cs⟩
 | _=>none
abbrev EqF:=TypeId→V1→V1→Option Bool
def JN (P:Program) (rec:EqF):List Field→List At→List At→Option Bool
 | [],_,_=>some true
 | f::fs,xs,ys=>
  match f.name == "_" with
  | true=>none
  | false=>match xI P f.type xs f.offset,xI P f.type ys f.offset with
   | some a,some b=>match rec f.type a b,JN P rec fs xs ys with
    | some r,some rs=>some (r&&rs)
    | _,_=>none
   | _,_=>none
def QB (P:Program) (rec:EqF) (e:TypeId) (s:Nat):Nat→Nat→List At→List At→Option Bool
 | 0,_,_,_=>some true
 | n+1,i,xs,ys=>
  match xI P e xs (i*s),xI P e ys (i*s) with
  | some a,some b=>match rec e a b,QB P rec e s n (i+1) xs ys with
   | some r,some rs=>some (r&&rs)
   | _,_=>none
  | _,_=>none
def eqV (P:Program):Nat→EqF
 | 0,_,_,_=>none
 | d+1,t,x,y=>
  match P.underlying t,x,y with
  | some .bool,.one (.bool a),.one (.bool b)=>some (a==b)
  | some (.int _),.one (.int k a),.one (.int k' b)=>match QA k k' with
   | true=>some (a==b)
   | false=>none
  | some (.struct fs),.agg xs,.agg ys=>match P.stoodInHeld t with
   | true=>none
   | false=>JN P (eqV P d) (fs.toList) xs ys
  | some (.array n e),.agg xs,.agg ys=>match kY P e with
   | some s=>QB P (eqV P d) e s n 0 xs ys
   | none=>none
  | some (.pointer _),.one .nilp,.one .nilp=>some true
  | some (.pointer _),.one .nilp,.one (.ptr _ _)=>some false
  | some (.pointer _),.one (.ptr _ _),.one .nilp=>some false
  | some (.slice _),.one .nilsl,.one .nilsl=>some true
  | some (.slice _),.one (.sl _ _ _ _),.one .nilsl=>some false
  | some (.slice _),.one (.slu _ _),.one .nilsl=>some false
  | some (.slice _),.one (.slx _ _ _ _),.one .nilsl=>some false
  | _,_,_=>none
def Zs:Option Bool→Bool→Option (Bool×List (Bool×Bool))
 | some d,t=>some (d,[(t,d)])
 | none,true=>some (true,[])
 | none,false=>some (false,[])
def jaH (τ:Nat→LV) (pd:Option Bool) (c a b:Operand):Option Dl:=
 match ev τ c with
 | some (.v (.one (.bool t)))=>match Zs pd t with
  | some (true,cs)=>match ev τ a with
   | some v=>some ⟨v,[],[],[],cs⟩
   | none=>none
  | some (false,cs)=>match ev τ b with
   | some v=>some ⟨v,[],[],[],cs⟩
   | none=>none
  | none=>none
 | _=>none
def Zt (P:Program) (nb:Nat) (t:TypeId):Option Dl:=
 match Qz P t with
 | some l=>some ⟨.v (.one (.ptr nb 0)),[],[⟨t,(0,0),0,l⟩],[],[]⟩
 | none=>none
def jor (nb:Nat) (t:TypeId) (v:LV):Option Dl:=
 match xv v with
 | some l=>some ⟨.v (.one (.ptr nb 0)),[],[⟨t,(0,0),0,l⟩],[],[]⟩
 | none=>none
def QC (P:Program) (t:TypeId) (v:LV) (g:Nat→Option Blk):Option Dl:=
 match v with
 | .v (.one (.ptr b o))=>match g b with
  | some k=>match xI P t k.cells o with
   | some x=>some ⟨.v x,[],[],[b],[]⟩
   | none=>none
  | _=>none
 | _=>none
def jo (l:List At) (o:Nat):Int:=
 match atL l o with
 | some (.int _ n)=>n
 | _=>0
def isIntAt (k:IntKind) (l:List At) (o:Nat):Bool:=
 match atL l o with
 | some (.int k' _)=>QA k k'
 | _=>false
def jem (l:List At) (o:Nat):Bool:=
 match atL l o with
 | some (.bool b)=>b
 | _=>false
def Ym (l:List At) (o:Nat):Bool:=
 match atL l o with
 | some (.bool _)=>true
 | _=>false
def jq (l:List At):Nat→Nat→List At
 | _,0=>[]
 | o,n+1=> .int .i64 (jo l o)::jq l (o+1) n
def qT (l:List At):Nat→Nat→Bool
 | _,0=>true
 | o,n+1=>isIntAt .i64 l o&&qT l (o+1) n
def jen (P:Program) (t:TypeId) (l:List At) (o:Nat):Option (V1×List (Bool×Bool)):=
 match jvd P t with
 | some true=>match kY P t with
  | some n=>some (.agg (jq l o n),[(qT l o n&&decide (n≠0),true)])
  | none=>none
 | some false=>match P.underlying t with
  | some (.int k)=>some (.one (.int k (jo l o)),[(isIntAt k l o,true)])
  | some .bool=>some (.one (.bool (jem l o)),[(Ym l o,true)])
  | _=>none
 | none=>none
def KG (P:Program) (t:TypeId) (v:LV) (g:Nat→Option Blk):Option Dl:=
 match v with
 | .v (.one (.ptx b o))=>match g b with
  | some k=>match jen P t k.cells o with
   | some (x,cs)=>some ⟨.v x,[],[],[b],cs⟩
   | none=>none
  | none=>none
 | v=>QC P t v g
def zb (P:Program) (t:TypeId) (a v:LV) (g:Nat→Option Blk):Option Dl:=
 match a with
 | .v (.one (.ptr b o))=>match g b with
  | some ⟨ty,(0,0),es,l⟩=>match xv v,kY P t with
   | some vs,some n=>match Nat.beq (len vs) n,lay l o vs with
    | true,some r=>some ⟨xt,[(b,some ⟨ty,(0,0),es,r⟩)],[],[],[]⟩
    | _,_=>none
   | _,_=>none
  | _=>none
 | _=>none
def jb7 (P:Program) (t:TypeId) (b o:Nat) (v:LV) (g:Nat→Option Blk):Option Dl:=
 match g b with
 | some ⟨ty,(0,0),es,l⟩=>match v,kY P t with
  | .v (.one x),some 1=>match x.cell with
   | true=>some ⟨xt,[(b,some ⟨ty,(0,0),es,l.set o x⟩)],[],[],[(decide (o<l.length),true)]⟩
   | false=>none
  | _,_=>none
 | _=>none
def jos:LV→Bool
 | .v (.agg _)=>true
 | _=>false
def jko:LV→Option (Nat×Nat)
 | .v (.one (.ptx b o))=>some (b,o)
 | _=>none
def KH (P:Program) (t:TypeId) (a v:LV) (g:Nat→Option Blk):Option Dl:=
 match jko a with
 | some (b,o)=>match jos v with
  | true=>zb P t (.v (.one (.ptr b o))) v g
  | false=>jb7 P t b o v g
 | none=>zb P t a v g
def jhk (P:Program):List Field→Bool
 | []=>true
 | f::l=>match kY P f.type with
  | some _=>jhk P l
  | none=>false
def Zu (P:Program) (fs:List Field) (cells:List At):List (Nat×LV)→Option (List At)
 | []=>some cells
 | (i,v)::rest=>match xw fs i,xv v with
  | some f,some vs=>match kY P f.type with
   | some n=>match Nat.beq (len vs) n,lay cells f.offset vs with
    | true,some r=>Zu P fs r rest
    | _,_=>none
   | none=>none
  | _,_=>none
def Yn (n:Nat) (cells:List At):List (Nat×LV)→Option (List At)
 | []=>some cells
 | (i,v)::rest=>match xv v with
  | some vs=>match Nat.beq (len vs) n,lay cells (i*n) vs with
   | true,some r=>Yn n r rest
   | _,_=>none
  | none=>none
def Zv (P:Program) (t:TypeId) (parts:List (Nat×LV)):Option Dl:=
 match Qz P t with
 | some z=>match P.underlying t with
  | some (.struct fs)=>match jhk P fs.toList,Zu P fs.toList z parts with
   | true,some l=>some (.pure (.v (.agg l)))
   | _,_=>none
  | some (.array _ e)=>match kY P e with
   | some n=>match Yn n z parts with
    | some l=>some (.pure (.v (.agg l)))
    | none=>none
   | none=>none
  | _=>none
 | none=>none
def kO (z:List At):Nat→List At
 | 0=>[]
 | n+1=>z++kO z n
def xJ (P:Program) (nb:Nat) (t:TypeId) (n:Nat) (parts:List (Nat×LV)):Option Dl:=
 match P.underlying t with
 | some (.slice e)=>match kY P e,Qz P e with
  | some s,some z=>match Nat.ble (n*s) 16777216,Nat.beq (len z) s,Nat.ble 1 s,Yn s (kO z n) parts with
   | true,true,true,some l=>some ⟨.v (.one (.sl nb 0 n n)),[],[⟨e,(0,0),0,l⟩],[],[]⟩
   | _,_,_,_=>none
  | _,_=>none
 | _=>none
def yh (P:Program) (t:TypeId) (x:LV) (i:Nat):Option Dl:=
 match P.underlying t,x with
 | some (.struct fs),.v (.one (.ptr b o))=>match xw fs.toList i with
  | some f=>match kY P f.type with
   | some (_+1)=>val1 (.ptr b (o+f.offset))
   | _=>none
  | none=>none
 | some (.struct fs),.v (.one (.ptx b o))=>match xw fs.toList i with
  | some f=>match kY P f.type with
   | some (_+1)=>val1 (.ptx b (o+f.offset))
   | _=>none
  | none=>none
 | _,_=>none
def Zw (P:Program) (t:TypeId) (x:LV) (i:Nat):Option Dl:=
 match P.underlying t,x with
 | some (.struct fs),.v (.agg l)=>match xw fs.toList i with
  | some f=>match xI P f.type l f.offset with
   | some v=>some (.pure (.v v))
   | none=>none
  | none=>none
 | _,_=>none
def inB (i:Int) (n:Nat):Option Nat:=
 match i with
 | .ofNat k=>match Nat.blt k n with
  | true=>some k
  | false=>none
 | .negSucc _=>none
def yi (P:Program) (t:TypeId) (x ix:LV):Option Dl:=
 match P.underlying t,x,ix with
 | some (.array n e),.v (.one (.ptr b o)),.v (.one (.int _ i))=>match inB i n,kY P e with
  | some k,some s=>val1 (.ptr b (o+k*s))
  | _,_=>none
 | some (.slice e),.v (.one (.sl b o n _)),.v (.one (.int _ i))=>match inB i n,kY P e with
  | some k,some s=>val1 (.ptr b (o+k*s))
  | _,_=>none
 | some (.slice e),.v (.one (.slu b n)),.v (.one (.int _ i))=>match inB i n,kY P e with
  | some k,some s=>val1 (.ptr b (k*s))
  | _,_=>none
 | some (.slice e),.v (.one (.slx b o n _)),.v (.one (.int _ i))=>match kY P e with
  | some s=>some ⟨.v (.one (.ptx b (o+i.toNat*s))),[],[],[],[(decide (0≤i)&&decide (i<n),true)]⟩
  | none=>none
 | some (.array n e),.v (.one (.ptx b o)),.v (.one (.int _ i))=>match kY P e with
  | some s=>some ⟨.v (.one (.ptx b (o+i.toNat*s))),[],[],[],[(decide (0≤i)&&decide (i<n),true)]⟩
  | none=>none
 | _,_,_=>none
def Zx (P:Program) (t:TypeId) (x ix:LV):Option Dl:=
 match P.underlying t,x,ix with
 | some (.array n e),.v (.agg l),.v (.one (.int _ i))=>match inB i n,kY P e with
  | some k,some s=>match xI P e l (k*s) with
   | some v=>some (.pure (.v v))
   | none=>none
  | _,_=>none
 | _,_,_=>none
def extractD (x:LV) (i:Nat):Option Dl:=
 match x with
 | .tup l=>nth l i
 | _=>none
where
 nth:List V1→Nat→Option Dl
  | [],_=>none
  | v::_,0=>some (.pure (.v v))
  | _::l,n+1=>nth l n
def kG (v:Option LV) (dflt n:Nat):Option Nat:=
 match v with
 | none=>some dflt
 | some (.v (.one (.int _ (.ofNat k))))=>match Nat.ble k n with
  | true=>some k
  | false=>none
 | some _=>none
def KI (v:Option LV) (dflt:Nat):Option Int:=
 match v with
 | none=>some dflt
 | some (.v (.one (.int _ i)))=>some i
 | some _=>none
def jaI (b o n c s:Nat) (lo hi:Option LV):Option Dl:=
 match KI lo 0,KI hi n with
 | some l,some h=>some ⟨.v (.one (.slx b (if c=l.toNat then o else o+l.toNat*s) (h.toNat - l.toNat) (c - l.toNat))),[],[],[],[(decide (0≤l)&&(decide (l≤h)&&decide (h≤c)),true)]⟩
 | _,_=>none
def Zy (P:Program) (t:TypeId) (x:LV) (lo hi:Option LV):Option Dl:=
 match P.underlying t,x with
 | some (.array n e),.v (.one (.ptr b o))=>match kG hi n n,kY P e with
  | some h,some s=>match kG lo 0 h with
   | some l=>match Nat.beq n l with
    | true=>val1 (.sl b o (h - l) (n - l))
    | false=>val1 (.sl b (o+l*s) (h - l) (n - l))
   | none=>none
  | _,_=>none
 | some (.slice e),.v (.one (.sl b o n c))=>match kG hi n c,kY P e with
  | some h,some s=>match kG lo 0 h with
   | some l=>match Nat.beq c l with
    | true=>val1 (.sl b o (h - l) (c - l))
    | false=>val1 (.sl b (o+l*s) (h - l) (c - l))
   | none=>none
  | _,_=>none
 | some (.slice e),.v (.one (.slx b o n c))=>match kY P e with
  | some s=>jaI b o n c s lo hi
  | none=>none
 | some (.slice e),.v (.one .nilsl)=>match kG hi 0 0,kY P e with
  | some h,some _=>match kG lo 0 h with
   | some _=>val1 .nilsl
   | none=>none
  | _,_=>none
 | some (.array n e),.v (.one (.ptx b o))=>match kG hi n n,kY P e with
  | some h,some s=>match kG lo 0 h with
   | some l=>match Nat.beq n l with
    | true=>val1 (.slx b o (h - l) (n - l))
    | false=>val1 (.slx b (o+l*s) (h - l) (n - l))
   | none=>none
  | _,_=>none
 | _,_=>none
def Jj (P:Program) (g:Nat→Option Blk) (nb:Nat) (t:TypeId) (c:Bool) (b n:Nat) (lo hi:Option LV):Option Dl:=
 match P.underlying t with
 | some (.slice e)=>match kY P e,g b with
  | some s,some ⟨ty,(0,0),es,l⟩=>match Nat.beq ty e,Nat.beq es s,Nat.ble 1 s,kG hi n (len l/s) with
   | true,true,true,some h=>match kG lo 0 h,Nat.ble (h*s) (len l) with
    | some 0,true=>some ⟨.v (.one (.slu b h)),[],[],[b],[]⟩
    | some (k+1),true=>match hi,c,Nat.beq (len l) (n*s) with
     | none,true,true=>some ⟨.v (.one (.slu nb (n - (k+1)))),[(b,none)],[⟨e,(0,0),s,l.drop ((k+1)*s)⟩],[b],[]⟩
     | _,_,_=>match Nat.beq (k+1) h with
      | true=>some ⟨.v (.one (.slt b ((k+1)*s) (k+1))),[],[],[b],[]⟩
      | false=>none
    | _,_=>none
   | _,_,_,_=>none
  | _,_=>none
 | _=>none
def yS (P:Program) (g:Nat→Option Blk) (t:TypeId) (x:LV) (lo:Option LV) (hi mx:LV):Option Dl:=
 match P.underlying t with
 | some (.slice e)=>match kY P e,x with
  | some _,.v (.one .nilsl)=>match kG (some mx) 0 0 with
   | some m=>match kG (some hi) 0 m with
    | some h=>match kG lo 0 h with
     | some _=>val1 .nilsl
     | none=>none
    | none=>none
   | none=>none
  | some s,.v (.one (.sl b o _ c))=>match kG (some mx) 0 c with
   | some m=>match kG (some hi) 0 m with
    | some h=>match kG lo 0 h with
     | some l=>match Nat.beq m l with
      | true=>val1 (.sl b o (h - l) (m - l))
      | false=>val1 (.sl b (o+l*s) (h - l) (m - l))
     | none=>none
    | none=>none
   | none=>none
  | some s,.v (.one (.slu b _))=>match g b with
   | some ⟨ty,(0,0),es,l⟩=>match Nat.beq ty e,Nat.beq es s,Nat.ble 1 s,kG (some mx) 0 (len l/s) with
    | true,true,true,some m=>match kG (some hi) 0 m with
     | some h=>match kG lo 0 h with
      | some l=>match Nat.beq m l with
       | true=>some ⟨.v (.one (.sl b 0 (h - l) (m - l))),[],[],[b],[]⟩
       | false=>some ⟨.v (.one (.sl b (0+l*s) (h - l) (m - l))),[],[],[b],[]⟩
      | none=>none
     | none=>none
    | _,_,_,_=>none
   | _=>none
  | _,_=>none
 | _=>none
def jkp:LV→Option (Nat×Nat)
 | .v (.one (.slu b n))=>some (b,n)
 | _=>none
def QD (P:Program) (g:Nat→Option Blk) (nb:Nat) (t:TypeId) (c:Bool) (x:LV) (lo hi mx:Option LV):Option Dl:=
 match mx with
 | some m=>match hi with
  | some h=>yS P g t x lo h m
  | none=>none
 | none=>match jkp x with
  | some (b,n)=>Jj P g nb t c b n lo hi
  | none=>Zy P t x lo hi
def unD (op:UnOp) (x:LV):Option Dl:=
 match op,x with
 | .neg,.v (.one (.int k n))=>val1 (.int k (wr k (0 - n)))
 | .xor,.v (.one (.int k n))=>match jc3 .xor k (-1) n with
  | some r=>val1 (.int k r)
  | none=>none
 | .not,.v (.one (.bool b))=>val1 (.bool (!b))
 | _,_=>none
def jeo (P:Program) (t:TypeId) (u:TypeId) (x:LV):Option Dl:=
 match P.underlying t,P.underlying u,x with
 | some _,some (.int k),.v (.one (.int _ n))=>val1 (.int k (wr k n))
 | _,_,_=>none
def XL:List LV→Option (List (Nat×Nat))
 | []=>some []
 | .v (.one (.ptr b o))::l=>match XL l with
  | some r=>some ((b,o)::r)
  | none=>none
 | _::_=>none
def zd (f:Fn) (first:List Operand) (caps:List LV):Option Dl:=
 match f,first,XL caps with
 | .func f,[],some l=>val1 (.fn f l)
 | _,_,_=>none
def jep (op:BinOp) (k:IntKind) (a:Int) (k':IntKind) (b:Int) (yc:Bool):Option Dl:=
 match op with
 | .shl=>jb6 .shl k a b yc
 | .shr=>jb6 .shr k a b yc
 | op=>match QA k k' with
  | true=>jve op k a b yc
  | false=>none
def jkq (P:Program) (op:BinOp) (t:TypeId) (a b:V1):Option Dl:=
 match op with
 | .eql=>match P.eqGuardType P.depth t,eqV P 10000 t a b with
  | false,some r=>val1 (.bool r)
  | _,_=>none
 | .neq=>match P.eqGuardType P.depth t,eqV P 10000 t a b with
  | false,some r=>val1 (.bool (!r))
  | _,_=>none
 | _=>none
def intOf? :LV→Option (IntKind×Int)
 | .v (.one (.int k a))=>some (k,a)
 | _=>none
def v1Of? :LV→Option V1
 | .v x=>some x
 | .tup _=>none
def jot (P:Program) (op:BinOp) (t:TypeId) (x y:LV) (yc:Bool):Option Dl:=
 match intOf? x with
 | some (k,a)=>match intOf? y with
  | some (k',b)=>jep op k a k' b yc
  | none=>none
 | none=>match v1Of? x with
  | some a=>match v1Of? y with
   | some b=>jkq P op t a b
   | none=>none
  | none=>none
def jou (P:Program) (t:TypeId) (x:LV):Option Dl:=
 match P.underlying t,x with
 | some (.array n _),_=>val1 (.int .i64 n)
 | some (.slice _),.v (.one (.sl _ _ n _))=>val1 (.int .i64 n)
 | some (.slice _),.v (.one (.slu _ n))=>val1 (.int .i64 n)
 | some (.slice _),.v (.one (.slx _ _ n _))=>val1 (.int .i64 n)
 | some (.slice _),.v (.one .nilsl)=>val1 (.int .i64 0)
 | some (.slice _),.v (.one (.slt _ _ _))=>val1 (.int .i64 0)
 | _,_=>none
def kZ (mx:Bool):IntKind→Int→List LV→Option Dl
 | k,x,[]=>val1 (.int k x)
 | k,x,.v (.one (.int _ y))::l=>match mx with
  | true=>kZ true k (if y>x then y else x) l
  | false=>kZ false k (if y<x then y else x) l
 | _,_,_=>none
def ze (mx:Bool):List LV→Option Dl
 | .v (.one (.int k x))::l=>kZ mx k x l
 | _=>none
def jhl (τ:Nat→LV):Option Operand→Option (Option LV)
 | none=>some none
 | some x=>match ev τ x with
  | some v=>some (some v)
  | none=>none
def yD (τ:Nat→LV):List (Nat×Operand)→Option (List (Nat×LV))
 | []=>some []
 | (i,x)::l=>match ev τ x,yD τ l with
  | some v,some r=>some ((i,v)::r)
  | _,_=>none
structure Ans where
 val:LV
 wr:List Blk
 nw:List Blk
 cs:List (Bool×Bool)
structure Tch where
 rd:List Nat
 wr:List Nat
 go:List Blk→List Blk→Nat→Option Ans
abbrev Sum:=List LV→Option Tch
inductive SumK where
 | old (s:Sum)
 | peek (s:List LV→List (Nat×LV)→Option Tch)
 | gen (s:List LV→List Nat→List Blk→Nat→Option Dl)
def jE (g:Nat→Option Blk):List Nat→Option (List Blk)
 | []=>some []
 | b::l=>match g b,jE g l with
  | some k,some r=>some (k::r)
  | _,_=>none
def Jg:List Nat→Nat→Bool
 | [],_=>false
 | a::l,b=>match Nat.beq a b with
  | true=>true
  | false=>Jg l b
def xV:List Nat→Bool
 | []=>true
 | a::l=>match Jg l a with
  | true=>false
  | false=>xV l
def Xm:List Nat→List Blk→Option (List (Nat×Option Blk))
 | [],[]=>some []
 | b::l,k::ks=>match Xm l ks with
  | some r=>some ((b,some k)::r)
  | none=>none
 | _,_=>none
def At.ok (p:Nat→Bool):At→Bool
 | .ptr b _=>p b
 | .sl b _ _ _=>p b
 | .slu b _=>p b
 | .slx b _ _ _=>p b
 | .ptx b _=>p b
 | .slt b _ _=>p b
 | .fn _ caps=>caps.all fun c=>p c.1
 | _=>true
def okL (p:Nat→Bool):List At→Bool
 | []=>true
 | a::l=>match a.ok p with
  | true=>okL p l
  | false=>false
def V1.ok (p:Nat→Bool):V1→Bool
 | .one a=>a.ok p
 | .agg l=>okL p l
def jnb (p:Nat→Bool):List V1→Bool
 | []=>true
 | a::l=>match a.ok p with
  | true=>jnb p l
  | false=>false
def LV.ok (p:Nat→Bool):LV→Bool
 | .v x=>x.ok p
 | .tup l=>jnb p l
def okBs (p:Nat→Bool):List Blk→Bool
 | []=>true
 | b::l=>match okL p b.cells with
  | true=>okBs p l
  | false=>false
def jb8:List Blk→Nat
 | []=>0
 | _::l=>jb8 l+1
def qZ (t:Tch) (nb n:Nat) (i:Nat):Bool:=
 match Jg t.rd i with
 | true=>true
 | false=>match Jg t.wr i with
  | true=>true
  | false=>match Nat.ble nb i with
   | true=>Nat.blt i (nb+n)
   | false=>false
def jhm:List Nat→List Nat→List Nat
 | [],m=>m
 | a::l,m=>a::jhm l m
def jvf:List (Nat×Nat)→List Nat
 | []=>[]
 | c::l=>c.1::jvf l
def Yo:At→List Nat
 | .ptr b _=>[b]
 | .sl b _ _ _=>[b]
 | .slu b _=>[b]
 | .slx b _ _ _=>[b]
 | .ptx b _=>[b]
 | .slt b _ _=>[b]
 | .fn _ caps=>jvf caps
 | _=>[]
def jaJ:List At→List Nat
 | []=>[]
 | a::l=>jhm (Yo a) (jaJ l)
def jb9:List Blk→List Nat
 | []=>[]
 | b::l=>jhm (jaJ b.cells) (jb9 l)
def jBT (t:Tch) (nb n:Nat) (ns:List Nat) (i:Nat):Bool:=
 match qZ t nb n i with
 | true=>true
 | false=>Jg ns i
def jg9 (t:Tch) (g:Nat→Option Blk) (nb:Nat):Option Dl:=
 match jE g t.rd,jE g t.wr,xV t.wr with
 | some r,some w,true=>match t.go r w nb with
  | some a=>match Xm t.wr a.wr with
   | some ws=>match a.val.ok (qZ t nb (jb8 a.nw)),okBs (jBT t nb (jb8 a.nw) (jb9 w)) a.wr,okBs (qZ t nb (jb8 a.nw)) a.nw with
    | true,true,true=>some ⟨a.val,ws,a.nw,t.rd++t.wr,a.cs⟩
    | _,_,_=>none
   | none=>none
  | none=>none
 | _,_,_=>none
def jaK:List LV→List Nat
 | []=>[]
 | .v (.one (.ptr b _))::l=>b::jaK l
 | _::l=>jaK l
def jov:Option Blk→Option LV
 | some ⟨_,_,_,[.ptr b o]⟩=>some (.v (.one (.ptr b o)))
 | _=>none
def Yp (g:Nat→Option Blk):List Nat→List (Nat×LV)
 | []=>[]
 | b::l=>match jov (g b) with
  | some v=>(b,v)::Yp g l
  | none=>Yp g l
def Zz:List Nat→List Nat→Bool
 | [],_=>true
 | a::l,m=>match Jg m a with
  | true=>Zz l m
  | false=>false
def jjj:V1→List Nat
 | .one a=>Yo a
 | .agg l=>jaJ l
def jeq:List V1→List Nat
 | []=>[]
 | a::l=>jhm (jjj a) (jeq l)
def jow:LV→List Nat
 | .v x=>jjj x
 | .tup l=>jeq l
def jaL:List LV→List Nat
 | []=>[]
 | a::l=>jhm (jow a) (jaL l)
def JO (g:Nat→Option Blk):Nat→List Nat→List Nat→Option (List Nat)
 | _,[],seen=>some seen
 | 0,_::_,_=>none
 | n+1,b::l,seen=>match Jg seen b with
  | true=>JO g n l seen
  | false=>match g b with
   | some k=>JO g n (jhm (jaJ k.cells) l) (b::seen)
   | none=>none
def Jh:List (Nat×Option Blk)→List Nat
 | []=>[]
 | x::l=>x.1::Jh l
def jkr (p:Nat→Bool):List (Nat×Option Blk)→Bool
 | []=>true
 | (_,none)::l=>jkr p l
 | (_,some b)::l=>match okL p b.cells with
  | true=>jkr p l
  | false=>false
def jvg (args:List LV) (s:List LV→List Nat→List Blk→Nat→Option Dl) (seen:List Nat) (ks:List Blk) (nb:Nat):Option Dl:=
 match s args seen ks nb with
 | some d=>match xV (Jh d.wr),Zz (Jh d.wr) seen,d.val.ok (qZ ⟨seen,[],fun _ _ _=>none⟩ nb (jb8 d.nw)) with
  | true,true,true=>match okBs (qZ ⟨seen,[],fun _ _ _=>none⟩ nb (jb8 d.nw)) d.nw,jkr (qZ ⟨seen,[],fun _ _ _=>none⟩ nb (jb8 d.nw)) d.wr with
   | true,true=>some ⟨d.val,d.wr,d.nw,seen,d.cs⟩
   | _,_=>none
  | _,_,_=>none
 | none=>none
def jc4 (s:SumK) (args:List LV) (g:Nat→Option Blk) (nb:Nat):Option Dl:=
 match s with
 | .old s=>match s args with
  | some t=>jg9 t g nb
  | none=>none
 | .peek s=>match s args (Yp g (jaK args)) with
  | some t=>match Zz (jaK args) (t.rd++t.wr) with
   | true=>jg9 t g nb
   | false=>none
  | none=>none
 | .gen s=>match JO g 20000 (jaL args) [] with
  | some seen=>match jE g seen with
   | some ks=>jvg args s seen ks nb
   | none=>none
  | none=>none
def callee (τ:Nat→LV) (c:Call):Option (FuncId×List LV):=
 match c.callee with
 | .value f=>match ev τ f,evs τ c.args.toList with
  | some (.v (.one (.fn f caps))),some args=>some (f,args++caps.map fun p=> .v (.one (.ptr p.1 p.2)))
  | _,_=>none
 | _=>none
def Yq (P:Program) (b:Builtin) (ts:List TypeId) (args:List LV):Option Dl:=
 match b,ts,args with
 | .len,[t],[x]=>jou P t x
 | .min,_,args=>ze false args
 | .max,_,args=>ze true args
 | _,_,_=>none
def jer (τ:Nat→LV) (x:Operand):Option Dl:=
 match ev τ x with
 | some v=>some (.pure v)
 | none=>none
def zf (v:LV):Option Dl:=
 match v with
 | .v (.one (.ptr b o))=>val1 (.ptr b o)
 | .v (.one (.ptx b o))=>val1 (.ptx b o)
 | .v (.one (.fn f caps))=>val1 (.fn f caps)
 | _=>none
def QE (P:Program) (t:TypeId) (v:LV):Option Dl:=
 match P.underlying t,v with
 | some (.array n _),.v (.one (.sl b o m _))=>match Nat.ble n m with
  | true=>val1 (.ptr b o)
  | false=>none
 | _,_=>none
def on1 (τ:Nat→LV) (x:Operand) (k:LV→Option Dl):Option Dl:=
 match ev τ x with
 | some v=>k v
 | none=>none
def on2 (τ:Nat→LV) (x y:Operand) (k:LV→LV→Option Dl):Option Dl:=
 match ev τ x with
 | some v=>match ev τ y with
  | some w=>k v w
  | none=>none
 | none=>none
def onL (τ:Nat→LV) (xs:List Operand) (k:List LV→Option Dl):Option Dl:=
 match evs τ xs with
 | some l=>k l
 | none=>none
def onP (τ:Nat→LV) (xs:List (Nat×Operand)) (k:List (Nat×LV)→Option Dl):Option Dl:=
 match yD τ xs with
 | some l=>k l
 | none=>none
def jhn:Option Operand→Bool
 | some (.const _)=>true
 | _=>false
def slD (P:Program) (τ:Nat→LV) (g:Nat→Option Blk) (nb:Nat) (t:TypeId) (x:Operand) (lo hi mx:Option Operand):Option Dl:=
 match jhl τ lo with
 | some l=>match jhl τ hi with
  | some h=>match jhl τ mx with
   | some m=>on1 τ x fun v=>QD P g nb t (jhn lo) v l h m
   | none=>none
  | none=>none
 | none=>none
def KJ (g:Nat→Option Blk) (s:Nat) (x:LV):Option (Nat×List At×Nat×List (Bool×Bool)):=
 match x with
 | .v (.one (.sl b o m _))=>match g b with
  | some k=>match cut k.cells o (m*s) with
   | some l=>match xl l with
    | true=>some (m,l,b,[])
    | false=>none
   | none=>none
  | none=>none
 | .v (.one (.slu b m))=>match g b with
  | some k=>match cut k.cells 0 (m*s) with
   | some l=>match xl l with
    | true=>some (m,l,b,[])
    | false=>none
   | none=>none
  | none=>none
 | .v (.one (.slx b o m _))=>match g b with
  | some k=>some (m,(k.cells.drop o).take (m*s),b,[(decide (o+m*s≤k.cells.length)&&xl ((k.cells.drop o).take (m*s)),true)])
  | none=>none
 | _=>none
def Jk (g:Nat→Option Blk) (e:TypeId) (s:Nat) (x:LV):Option (Nat×List At×Option Nat):=
 match x with
 | .v (.one .nilsl)=>some (0,[],none)
 | .v (.one (.slu b n))=>match g b with
  | some ⟨ty,(0,0),es,l⟩=>match Nat.beq ty e,Nat.beq es s,cut l 0 (n*s) with
   | true,true,some r=>some (n,r,some b)
   | _,_,_=>none
  | _=>none
 | .v (.one (.sl _ _ 0 0))=>some (0,[],none)
 | .v (.one (.sl b 0 n c))=>match g b with
  | some ⟨ty,(0,0),0,l⟩=>match Nat.beq ty e,Nat.beq n c,Nat.beq (len l) (n*s) with
   | true,true,true=>some (n,l,some b)
   | _,_,_=>none
  | _=>none
 | _=>none
def jks:List At→List At→List At
 | [],m=>m
 | a::l,m=>a::jks l m
def jaM:Option Nat→List (Nat×Option Blk)
 | some b=>[(b,none)]
 | none=>[]
def jxj:Option Nat→List Nat
 | some b=>[b]
 | none=>[]
def jaN:Option Nat→Nat→Bool
 | none,m=>Nat.ble 1 m
 | some _,_=>true
def jox:Option Nat→Nat→Bool
 | some a,b=>Nat.beq a b
 | none,_=>false
def zg (P:Program) (nb:Nat) (g:Nat→Option Blk) (ts:List TypeId) (args:List LV):Option Dl:=
 match ts,args with
 | [t,u],[s,x]=>match Nat.beq t u,P.underlying t with
  | true,some (.slice e)=>match P.info? e,Qz P e with
   | some i,some z=>match Jk g e i.size s,KJ g i.size x with
    | some (n,old,kill),some (m,news,b,cs)=>match Nat.beq (len z) i.size,Nat.ble 1 i.size,jox kill b with
     | true,true,false=>some ⟨.v (.one (.slu nb (n+m))),jaM kill,[⟨e,(0,0),i.size,jks old news⟩],b::jxj kill,(Nat.ble ((n+m)*(i.bytes+1)) 140737488355328&&jaN kill m,true)::cs⟩
     | _,_,_=>none
    | _,_=>none
   | _,_=>none
  | _,_=>none
 | _,_=>none
def Yr (P:Program) (g:Nat→Option Blk) (ts:List TypeId) (s:LV):Option Dl:=
 match ts with
 | [t,u]=>match Nat.beq t u,P.underlying t with
  | true,some (.slice e)=>match P.info? e with
   | some _=>match s with
    | .v (.one .nilsl)=>val1 .nilsl
    | .v (.one (.sl b o n c))=>match g b,Nat.ble n c with
     | some _,true=>some ⟨.v (.one (.sl b o n c)),[],[],[b],[]⟩
     | _,_=>none
    | .v (.one (.slu b n))=>match g b,kY P e with
     | some ⟨_,(0,0),es,l⟩,some s=>match Nat.beq es s,Nat.ble 1 s,Nat.ble (n*s) (len l) with
      | true,true,true=>some ⟨.v (.one (.slu b n)),[],[],[b],[]⟩
      | _,_,_=>none
     | _,_=>none
    | _=>none
   | none=>none
  | _,_=>none
 | _=>none
def jes:List LV→Option LV
 | [s,.v (.one .nilsl)]=>some s
 | [s,.v (.one (.slt _ _ _))]=>some s
 | [s,.v (.one (.slu _ 0))]=>some s
 | [s,.v (.one (.sl _ _ 0 _))]=>some s
 | _=>none
def zh (P:Program) (nb:Nat) (g:Nat→Option Blk) (ts:List TypeId) (args:List LV):Option Dl:=
 match jes args with
 | some s=>Yr P g ts s
 | none=>zg P nb g ts args
def ZA:LV→Option (Nat×Nat×Nat)
 | .v (.one (.sl b o n _))=>some (b,o,n)
 | .v (.one (.slu b n))=>some (b,0,n)
 | _=>none
def Ys (P:Program) (g:Nat→Option Blk) (ts:List TypeId) (args:List LV):Option Dl:=
 match ts,args with
 | t::_,[x,y]=>match P.underlying t,ZA x,ZA y with
  | some (.slice e),some (b,o,n),some (b',o',m)=>match kY P e,g b,g b' with
   | some s,some ⟨ty,(0,0),es,l⟩,some k=>match cut k.cells o' (Nat.min m n*s) with
    | some r=>match xl r,lay l o r with
     | true,some l'=>some ⟨.v (.one (.int .i64 (Int.ofNat (Nat.min m n)))),[(b,some ⟨ty,(0,0),es,l'⟩)],[],[b,b'],[]⟩
     | _,_=>none
    | none=>none
   | _,_,_=>none
  | _,_,_=>none
 | _,_=>none
def JP (P:Program) (g:Nat→Option Blk) (ts:List TypeId) (args:List LV):Option Dl:=
 match ts,args with
 | [t],[x]=>match P.underlying t,ZA x with
  | some (.slice e),some (b,o,n)=>match kY P e,Qz P e,g b with
   | some s,some z,some ⟨ty,(0,0),es,l⟩=>match Nat.beq (len z) s,Nat.ble 1 s,Nat.ble 1 n,lay l o (kO z n) with
    | true,true,true,some l'=>some ⟨.tup [],[(b,some ⟨ty,(0,0),es,l'⟩)],[],[b],[]⟩
    | _,_,_,_=>none
   | _,_,_=>none
  | _,_=>none
 | _,_=>none
def zQ (P:Program) (g:Nat→Option Blk) (b:Builtin) (ts:List TypeId) (args:List LV):Option Dl:=
 match b with
 | .copy=>Ys P g ts args
 | .clear=>JP P g ts args
 | b=>Yq P b ts args
def jho (P:Program) (S:FuncId→Option SumK) (τ:Nat→LV) (g:Nat→Option Blk) (nb:Nat) (c:Call):Option Dl:=
 match c.callee with
 | .builtin .append=>onL τ c.args.toList fun l=>zh P nb g c.argTypes.toList l
 | .builtin b=>onL τ c.args.toList fun l=>zQ P g b c.argTypes.toList l
 | _=>match callee τ c with
  | some (f,args)=>match S f with
   | some s=>jc4 s args g nb
   | none=>none
  | none=>none
def opD (P:Program) (S:FuncId→Option SumK) (z:Bool) (τ:Nat→LV) (g:Nat→Option Blk) (nb:Nat) (pd:Option Bool) (op:Op):Option Dl:=
 match op with
 | .move x=>jer τ x
 | .assign x=>jer τ x
 | .pick c a b=>jaH τ pd c a b
 | .alloc t=>Zt P nb t
 | .box t x=>on1 τ x fun v=>jor nb t v
 | .build t parts=>onP τ parts.toList fun l=>Zv P t l
 | .buildSlice t n parts=>onP τ parts.toList fun l=>xJ P nb t n l
 | .load t a=>on1 τ a fun v=>KG P t v g
 | .store t a x=>on2 τ a x fun p v=>KH P t p v g
 | .nilCheck x=>on1 τ x fun v=>zf v
 | .sliceToArrayPointer t x=>on1 τ x fun v=>QE P t v
 | .binOp op t x y _=>on2 τ x y fun a b=>jot P op t a b (z||joq y)
 | .unOp op _ x=>on1 τ x fun v=>unD op v
 | .convert t u x=>on1 τ x fun v=>jeo P t u v
 | .makeFunc f first caps=>onL τ caps.toList fun l=>zd f first.toList l
 | .slice t x lo hi mx=>slD P τ g nb t x lo hi mx
 | .fieldAddr t x i=>on1 τ x fun v=>yh P t v i
 | .field t x i=>on1 τ x fun v=>Zw P t v i
 | .indexAddr t x i=>on2 τ x i fun v k=>yi P t v k
 | .index t x i=>on2 τ x i fun v k=>Zx P t v k
 | .extract x i=>on1 τ x fun v=>extractD v i
 | .call c=>jho P S τ g nb c
 | _=>none
end Go.Lr

/- The local evaluator: a body, its operations, its calls. Definitions alone. -/
namespace Go.Lr
structure Md where
 z:Bool
 y:Bool
 a:Bool:=false
structure St where
 tm:Tr
 sz:Nat
 mem:Mem
 nb:Nat
 dec:List (Option Bool)
 cs:List (Bool×Bool)
 lg:List Nat
def jfr:List (Option Bool)→Option Bool×List (Option Bool)
 | []=>(none,[])
 | d::l=>(d,l)
def xg (m:Mem):List (Nat×Option Blk)→Mem
 | []=>m
 | (i,s)::l=>xg (jc2 m i s) l
def xh (m:Mem) (nb:Nat):List Blk→Mem
 | []=>m
 | b::l=>xh ((nb,b)::m) (nb+1) l
def jcE {α β:Type}:List α→(List α→β)→β
 | [],k=>k []
 | x::l,k=>jcE l fun r=>k (x::r)
def ZY {β:Type}:Nat→(Nat→β)→β
 | 0,k=>k 0
 | n+1,k=>k (n+1)
def jfs {β:Type}:Int→(Int→β)→β
 | .ofNat n,k=>ZY n fun m=>k (.ofNat m)
 | .negSucc n,k=>ZY n fun m=>k (.negSucc m)
def jjD {β:Type}:Bool→(Bool→β)→β
 | true,k=>k true
 | false,k=>k false
def jcF {β:Type}:At→(At→β)→β
 | .int i n,k=>jfs n fun m=>k (.int i m)
 | .bool b,k=>jjD b fun c=>k (.bool c)
 | a,k=>k a
def YJ {β:Type}:List At→(List At→β)→β
 | [],k=>k []
 | a::l,k=>jcF a fun a=>YJ l fun r=>k (a::r)
def YK {β:Type}:V1→(V1→β)→β
 | .one a,k=>jcF a fun a=>k (.one a)
 | .agg l,k=>YJ l fun r=>k (.agg r)
def YL {β:Type}:List V1→(List V1→β)→β
 | [],k=>k []
 | a::l,k=>YK a fun a=>YL l fun r=>k (a::r)
def jcG {β:Type} (z:Bool) (v:LV) (k:LV→β):β:=
 match z with
 | false=>k v
 | true=>match v with
  | .v x=>YK x fun y=>k (.v y)
  | .tup l=>YL l fun r=>k (.tup r)
def jdm {β:Type} (s:St) (dst:Option Tmp) (v:LV) (k:Tr→Option β):Option β:=
 match dst with
 | some d=>match Nat.blt d s.sz with
  | true=>KZ 16 s.tm d v k
  | false=>none
 | none=>k s.tm
def YM {β:Type}:Mem→List (Nat×Option Blk)→(Mem→β)→β
 | m,[],k=>k m
 | m,(i,s)::l,k=>jhi m i s fun m=>YM m l k
def YN {β:Type}:Mem→Nat→List Blk→(Mem→Nat→β)→β
 | m,nb,[],k=>k m nb
 | m,nb,b::l,k=>ZY (nb+1) fun nb'=>YN ((nb,b)::m) nb' l k
def jqm {β:Type}:List Nat→List (Nat×Option Blk)→(List Nat→β)→β
 | lg,[],k=>k lg
 | lg,x::l,k=>match Jg lg x.1 with
  | true=>jqm lg l k
  | false=>jqm (x.1::lg) l k
def csK {β:Type}:Bool→List (Bool×Bool)→List (Bool×Bool)→(List (Bool×Bool)→Option β)→Option β
 | _,[],old,k=>k old
 | false,c::l,old,k=>csK false l old fun r=>k (c::r)
 | true,(true,true)::l,old,k=>csK true l old k
 | true,(false,false)::l,old,k=>csK true l old k
 | true,(true,false)::_,_,_=>none
 | true,(false,true)::_,_,_=>none
def jh7 {β:Type} (z:Md) (s:St) (dst:Option Tmp) (d:Dl) (dec:List (Option Bool)) (cs:List (Bool×Bool)) (k:St→Option β):Option β:=
 ZY s.sz fun sz=>jcG z.z d.val fun v=>jdm s dst v fun tm=>YM s.mem d.wr fun mem=>YN mem s.nb d.nw fun mem nb=>jqm s.lg d.wr fun lg=>
  csK z.z d.cs s.cs fun c1=>csK z.z cs c1 fun c2=>k ⟨tm,sz,mem,nb,dec,c2,lg⟩
def ZZ (nb:Nat):Mem→Mem
 | []=>[]
 | (i,b)::m=>match Nat.blt i nb with
  | true=>(i,b)::ZZ nb m
  | false=>ZZ nb m
def jft {β:Type} (y:Bool) (nb:Nat) (v:LV) (m:Mem) (k:Mem→β):β:=
 match y with
 | false=>k m
 | true=>match v.ok fun i=>Nat.blt i nb with
  | true=>jcE (ZZ nb m) k
  | false=>k m
def Qn (all:List Oper) (j:Nat):Option Tmp:=
 match all[j]? with
 | some o=>o.dst
 | none=>none
def Xs (all:List Oper) (τ:Nat→LV) (o:Oper) (gd:Option Bool):Option (Bool×List (Bool×Bool)):=
 match o.guard with
 | none=>some (true,[])
 | some (j,want)=>match Qn all j with
  | some t=>match τ t with
   | .v (.one (.bool b))=>match Zs gd b with
    | some (c,cs)=>some (c==want,cs)
    | none=>none
   | .v (.one (.opq (.tuple _)))=>some (false,[])
   | _=>none
  | none=>none
def jjE:Op→Bool
 | .pick _ _ _=>true
 | _=>false
def jym (o:Oper) (dec:List (Option Bool)):Option Bool×Option Bool×List (Option Bool):=
 match o.guard with
 | none=>match jjE o.op with
  | true=>match jfr dec with
   | (p,r)=>(none,p,r)
  | false=>(none,none,dec)
 | some _=>match jfr dec with
  | (gd,r)=>match jjE o.op with
   | true=>match jfr r with
    | (p,r')=>(gd,p,r')
   | false=>(gd,none,r)
def orD (dec:List (Option Bool)):Option Bool×List (Option Bool):=
 match dec with
 | []=>(some false,[])
 | d::l=>(d,l)
def jyn (o:Oper) (dec:List (Option Bool)):Option Bool×List (Option Bool):=
 match o.guard with
 | some (_,true)=>(some true,dec)
 | some (_,false)=>orD dec
 | none=>(none,dec)
def jyo (o:Oper) (dec:List (Option Bool)):Option Bool×List (Option Bool):=
 match o.op with
 | .pick _ _ (.const (.bool false))=>(some true,dec)
 | .pick _ (.const (.bool true)) _=>orD dec
 | _=>(none,dec)
def jvy (z:Md) (o:Oper) (dec:List (Option Bool)):Option Bool×Option Bool×List (Option Bool):=
 match z.a with
 | false=>jym o dec
 | true=>match jyn o dec with
  | (g,d1)=>match jyo o d1 with
   | (p,d2)=>(g,p,d2)
def Xt:List LV→Option (List V1)
 | []=>some []
 | .v x::l=>match Xt l with
  | some r=>some (x::r)
  | none=>none
 | .tup _::_=>none
def Z0 (P:Program) (τ:Nat→LV) (m:Mem):ResultVar→Option LV
 | .tmp t=>some (τ t)
 | .cell a t=>match QC P t (τ a) (getM m) with
  | some d=>some d.val
  | none=>none
def yI (P:Program) (τ:Nat→LV) (m:Mem):List ResultVar→Option (List LV)
 | []=>some []
 | r::l=>match Z0 P τ m r,yI P τ m l with
  | some v,some vs=>some (v::vs)
  | _,_=>none
def kx (P:Program) (rs:List ResultVar) (τ:Nat→LV) (m:Mem):Option LV:=
 match yI P τ m rs with
 | some [v]=>some v
 | some vs=>match Xt vs with
  | some l=>some (.tup l)
  | none=>none
 | none=>none
inductive Ex where
 | normal
 | exit (id:Nat)
 | ret
inductive Cmd where
 | code (c:Code)
 | ops (all rest:List Oper)
 | body (f:FuncId) (args:List LV)
inductive Out where
 | ex (e:Ex)
 | val (v:LV)
structure Rec where
 o:Oper
 gd:Option Bool
 pd:Option Bool
 nb:Nat
 gcs:List (Bool×Bool)
 d:Dl
def jfu:Dl:= .pure xt
def Km (P:Program) (S:FuncId→Option SumK) (z:Md) (all:List Oper) (τ:Nat→LV) (g:Nat→Option Blk) (nb:Nat) (gd pd:Option Bool) (o:Oper):Option (Dl×List (Bool×Bool)):=
 match Xs all τ o gd with
 | some (true,cs)=>match opD P S z.z τ g nb pd o.op with
  | some d=>some (d,cs)
  | none=>none
 | some (false,cs)=>some (jfu,cs)
 | none=>none
def zp (P:Program) (S:FuncId→Option SumK) (z:Md) (all:List Oper):List Oper→St→List Rec→Option (St×List Rec)
 | [],s,acc=>some (s,acc)
 | o::rest,s,acc=>
  match jvy z o s.dec with
  | (gd,pd,dec)=>match Km P S z all (getT s.tm) (getM s.mem) s.nb gd pd o with
   | some (d,cs)=>jh7 z s o.dst d dec cs fun s'=>zp P S z all rest s' (⟨o,gd,pd,s.nb,cs,d⟩::acc)
   | none=>none
def qU:List Operand→List Tmp
 | []=>[]
 | .tmp t::l=>t::qU l
 | _::l=>qU l
def Rec.rT (all:List Oper) (r:Rec):List Tmp:=
 match r.o.guard with
 | some (j,_)=>match Qn all j with
  | some t=>t::qU r.o.op.operands.toList
  | none=>qU r.o.op.operands.toList
 | none=>qU r.o.op.operands.toList
def jcH:Option Tmp→List Tmp→Bool
 | some t,l=>Jg l t
 | none,_=>false
def jqn:Option Tmp→Option Tmp→Bool
 | some a,some b=>Nat.beq a b
 | _,_=>false
def keys:List (Nat×Option Blk)→List Nat
 | []=>[]
 | (i,_)::l=>i::keys l
def news (nb:Nat):List Blk→List Nat
 | []=>[]
 | _::l=>nb::news (nb+1) l
def Rec.wB (r:Rec):List Nat:=keys r.d.wr++news r.nb r.d.nw
def Z1:List Nat→List Nat→Bool
 | [],_=>false
 | a::l,m=>match Jg m a with
  | true=>true
  | false=>Z1 l m
def jlr (all:List Oper) (x y:Rec):Bool:=
 jcH x.o.dst (y.rT all)||jcH y.o.dst (x.rT all)||jqn x.o.dst y.o.dst ||
  Z1 x.wB (y.d.rd++y.wB)||Z1 y.wB (x.d.rd++x.wB)
def xM (masks:List Nat):List Edge→Nat
 | []=>0
 | e::l=>match Region.binds .any e with
  | true=>(1 <<< e.on) ||| masks.getD e.on 0 ||| xM masks l
  | false=>xM masks l
def q9:List Oper→List Nat→List Nat
 | [],acc=>acc
 | o::l,acc=>q9 l (acc++[xM acc o.after.toList])
def XV (all:List Oper) (mask:Nat) (y:Rec):Nat→List Rec→Bool
 | _,[]=>true
 | i,x::l=>match mask.testBit i with
  | true=>XV all mask y (i+1) l
  | false=>match jlr all x y with
   | true=>false
   | false=>XV all mask y (i+1) l
def YO (all:List Oper) (masks:List Nat):Nat→List Rec→List Rec→Bool
 | _,_,[]=>true
 | j,done,y::l=>match XV all (masks.getD j 0) y 0 done with
  | true=>YO all masks (j+1) (done++[y]) l
  | false=>false
def zt:Nat→List Edge→Bool
 | _,[]=>true
 | j,e::l=>match Region.binds .any e with
  | true=>match Nat.blt e.on j with
   | true=>zt j l
   | false=>false
  | false=>zt j l
def Kn:Nat→List Oper→Bool
 | _,[]=>true
 | j,o::l=>match zt j o.after.toList with
  | true=>Kn (j+1) l
  | false=>false
def jqo:List Rec→List Rec→List Rec
 | [],acc=>acc
 | r::l,acc=>jqo l (r::acc)
def YP (P:Program) (S:FuncId→Option SumK) (z:Md) (all:List Oper) (s:St):Option St:=
 match zp P S z all all s [] with
 | some (s',acc)=>match YO all (q9 all []) 0 [] (jqo acc []),Kn 0 all with
  | true,true=>some s'
  | _,_=>none
 | none=>none
def jls:List LV→Nat
 | []=>0
 | _::l=>jls l+1
def K9:Tr→Nat→List LV→Tr
 | t,_,[]=>t
 | t,i,v::l=>K9 (KY 16 t i v) (i+1) l
def jcI {β:Type}:Tr→Nat→List LV→(Tr→β)→β
 | t,_,[],k=>k t
 | t,i,v::l,k=>KZ 16 t i v fun t=>jcI t (i+1) l k
def jfv (S:FuncId→Option SumK) (τ:Nat→LV) (op:Op):Option (FuncId×List LV):=
 match op with
 | .call c=>match callee τ c with
  | some (f,args)=>match S f with
   | some _=>none
   | none=>some (f,args)
  | none=>none
 | _=>none
abbrev Go1:=Cmd→St→Option (Out×St)
def YQ (z:Md) (rec:Go1) (c:Operand) (a b:Code) (s:St):Option (Out×St):=
 match ev (getT s.tm) c with
 | some (.v (.one (.bool t)))=>match jfr s.dec with
  | (d,dec)=>match Zs d t with
   | some (true,cs)=>csK z.z cs s.cs fun c1=>rec (.code a) ⟨s.tm,s.sz,s.mem,s.nb,dec,c1,s.lg⟩
   | some (false,cs)=>csK z.z cs s.cs fun c1=>rec (.code b) ⟨s.tm,s.sz,s.mem,s.nb,dec,c1,s.lg⟩
   | none=>none
 | _=>none
def ye (rec:Go1) (b:Code):Option (Out×St)→Option (Out×St)
 | some (.ex .normal,s')=>rec (.code b) s'
 | r=>r
def yl (id:Nat):Option (Out×St)→Option (Out×St)
 | some (.ex (.exit i),s')=>match Nat.beq i id with
  | true=>some (.ex .normal,s')
  | false=>some (.ex (.exit i),s')
 | r=>r
def YR:Option St→Option (Out×St)
 | some s'=>some (.ex .normal,s')
 | none=>none
def qe (P:Program) (S:FuncId→Option SumK) (z:Md) (rec:Go1) (c:Code) (s:St):Option (Out×St):=
 match c with
 | .skip=>some (.ex .normal,s)
 | .region _ ops draw=>match draw with
  | false=>rec (.ops ops.toList ops.toList) s
  | true=>YR (YP P S z ops.toList s)
 | .seq a b=>ye rec b (rec (.code a) s)
 | .cond c a b=>YQ z rec c a b s
 | .block id a=>yl id (rec (.code a) s)
 | .loop a=>ye rec (.loop a) (rec (.code a) s)
 | .exit id=>some (.ex (.exit id),s)
 | .ret=>some (.ex .ret,s)
 | _=>none
def jbh (z:Md) (rec:Go1) (all rest:List Oper) (o:Oper) (nb:Nat):Option (Out×St)→Option (Out×St)
 | some (.val v,s')=>jcG z.z v fun v=>jdm s' o.dst v fun tm=>jft z.y nb v s'.mem fun m=>rec (.ops all rest) ⟨tm,s'.sz,m,s'.nb,s'.dec,s'.cs,s'.lg⟩
 | _=>none
def jfw (P:Program) (S:FuncId→Option SumK) (z:Md) (rec:Go1) (all rest:List Oper) (o:Oper) (s:St) (pd:Option Bool) (dec:List (Option Bool)) (cs:List (Bool×Bool)):Option (Out×St):=
 match jfv S (getT s.tm) o.op with
 | some (f,args)=>csK z.z cs s.cs fun c1=>jbh z rec all rest o s.nb (rec (.body f args) ⟨s.tm,s.sz,s.mem,s.nb,dec,c1,s.lg⟩)
 | none=>match opD P S z.z (getT s.tm) (getM s.mem) s.nb pd o.op with
  | some d=>jh7 z s o.dst d dec cs fun s'=>rec (.ops all rest) s'
  | none=>none
def YS (P:Program) (S:FuncId→Option SumK) (z:Md) (rec:Go1) (all:List Oper) (l:List Oper) (s:St):Option (Out×St):=
 match l with
 | []=>some (.ex .normal,s)
 | o::rest=>match jvy z o s.dec with
  | (gd,pd,dec)=>match Xs all (getT s.tm) o gd with
   | some (false,cs)=>jh7 z s o.dst jfu dec cs fun s'=>rec (.ops all rest) s'
   | some (true,cs)=>jfw P S z rec all rest o s pd dec cs
   | none=>none
def YT (P:Program) (fn:Func) (s:St):Option (Out×St)→Option (Out×St)
 | some (.ex .normal,s')=>match kx P fn.results.toList (getT s'.tm) s'.mem with
  | some v=>some (.val v,⟨s.tm,s.sz,s'.mem,s'.nb,s'.dec,s'.cs,s'.lg⟩)
  | none=>none
 | some (.ex .ret,s')=>match kx P fn.results.toList (getT s'.tm) s'.mem with
  | some v=>some (.val v,⟨s.tm,s.sz,s'.mem,s'.nb,s'.dec,s'.cs,s'.lg⟩)
  | none=>none
 | _=>none
def Qo (P:Program) (rec:Go1) (f:FuncId) (args:List LV) (s:St):Option (Out×St):=
 match P.funcs[f]? with
 | some fn=>match fn.body with
  | some c=>match Nat.ble (jls args) fn.ntmps,Nat.ble fn.ntmps 60000 with
   | true,true=>jcI .nil 0 args fun tm=>YT P fn s (rec (.code c) ⟨tm,fn.ntmps,s.mem,s.nb,s.dec,s.cs,s.lg⟩)
   | _,_=>none
  | none=>none
 | none=>none
def jbi (P:Program) (S:FuncId→Option SumK) (z:Md) (rec:Go1) (c:Cmd) (s:St):Option (Out×St):=
 match c with
 | .code c=>qe P S z rec c s
 | .ops all l=>YS P S z rec all l s
 | .body f args=>Qo P rec f args s
def exec (P:Program) (S:FuncId→Option SumK) (z:Md):Nat→Cmd→St→Option (Out×St)
 | 0,_,_=>none
 | n+1,c,s=>jbi P S z (exec P S z n) c s
def jR (P:Program) (S:FuncId→Option SumK) (z:Md) (n:Nat) (f:FuncId) (args:List LV) (m:Mem) (nb:Nat) (dec:List (Option Bool)):Option (LV×Mem×Nat×List (Bool×Bool)):=
 match exec P S z n (.body f args) ⟨.nil,0,m,nb,dec,[],[]⟩ with
 | some (.val v,s)=>some (v,s.mem,s.nb,s.cs)
 | _=>none
def jyp (P:Program) (S:FuncId→Option SumK) (z:Md) (n:Nat) (f:FuncId) (args:List LV) (m:Mem) (nb:Nat) (dec:List (Option Bool)):Option (LV×Mem×List (Bool×Bool)×List Nat):=
 match exec P S z n (.body f args) ⟨.nil,0,m,nb,dec,[],[]⟩ with
 | some (.val v,s)=>some (v,s.mem,s.cs,s.lg)
 | _=>none
end Go.Lr

/- The local evaluator: what its values, trees and memories mean. -/
namespace Go.Lr
theorem xi (a b:Nat):Nat.beq a b=decide (a=b):=by rw [Bool.eq_iff_iff,Nat.beq_eq];simp
theorem jaC (a b:Nat):Nat.ble a b=decide (a≤b):=by rw [Bool.eq_iff_iff,Nat.ble_eq];simp
theorem Ko (a b:Nat):Nat.blt a b=decide (a<b):=by unfold Nat.blt;rw [jaC];rfl
theorem At.den_congr {p:Nat→Bool} {E E':Env} (h:∀i,p i=true→E' i=E i):∀{a:At},a.ok p=true→a.den E'=a.den E:=by
 intro a ha
 cases a with
 | ptr b o=>simp only [At.ok] at ha;simp [At.den,h b ha]
 | sl b o l c=>simp only [At.ok] at ha;simp [At.den,h b ha]
 | slu b l=>simp only [At.ok] at ha;simp [At.den,h b ha]
 | slx b o l c=>simp only [At.ok] at ha;simp [At.den,h b ha]
 | ptx b o=>simp only [At.ok] at ha;simp [At.den,h b ha]
 | slt b o n=>simp only [At.ok] at ha;simp [At.den,h b ha]
 | fn f caps=>
  simp only [At.ok,List.all_eq_true] at ha
  simp only [At.den,Value.func.injEq,true_and]
  congr 1
  exact List.map_congr_left fun c hc=>by rw [h _ (ha c hc)]
 | _=>rfl
theorem okL_iff {p:Nat→Bool}:∀{l:List At},okL p l=true↔∀a∈l,a.ok p=true
 | []=>by simp [okL]
 | a::l=>by
  simp only [okL,List.mem_cons,forall_eq_or_imp]
  cases h:a.ok p <;> simp [okL_iff (l:=l)]
theorem okVs_iff {p:Nat→Bool}:∀{l:List V1},jnb p l=true↔∀a∈l,a.ok p=true
 | []=>by simp [jnb]
 | a::l=>by
  simp only [jnb,List.mem_cons,forall_eq_or_imp]
  cases h:a.ok p <;> simp [okVs_iff (l:=l)]
theorem okBs_iff {p:Nat→Bool}:∀{l:List Blk},okBs p l=true↔∀a∈l,okL p a.cells=true
 | []=>by simp [okBs]
 | a::l=>by
  simp only [okBs,List.mem_cons,forall_eq_or_imp]
  cases h:okL p a.cells <;> simp [okBs_iff (l:=l)]
theorem kk {p:Nat→Bool} {E E':Env} (h:∀i,p i=true→E' i=E i) {l:List At} (hl:okL p l=true):l.map (At.den E')=l.map (At.den E):=
 List.map_congr_left fun a ha=>At.den_congr h (okL_iff.1 hl a ha)
theorem V1.den_congr {p:Nat→Bool} {E E':Env} (h:∀i,p i=true→E' i=E i):∀{a:V1},a.ok p=true→a.den E'=a.den E
 | .one _,ha=>At.den_congr h ha
 | .agg l,ha=>by simp only [V1.den];rw [kk h ha]
theorem LV.den_congr {p:Nat→Bool} {E E':Env} (h:∀i,p i=true→E' i=E i):∀{a:LV},a.ok p=true→a.den E'=a.den E
 | .v _,ha=>V1.den_congr h ha
 | .tup l,ha=>by
  simp only [LV.den]
  rw [List.map_congr_left fun a hm=>V1.den_congr h (okVs_iff.1 ha a hm)]
theorem At.ok_mono {p q:Nat→Bool} (h:∀i,p i=true→q i=true):∀{a:At},a.ok p=true→a.ok q=true:=by
 intro a ha
 cases a with
 | ptr b o=>exact h _ ha
 | sl b o l c=>exact h _ ha
 | slu b l=>exact h _ ha
 | slx b o l c=>exact h _ ha
 | ptx b o=>exact h _ ha
 | slt b o n=>exact h _ ha
 | fn f caps=>simp only [At.ok,List.all_eq_true] at ha ⊢;exact fun c hc=>h _ (ha c hc)
 | _=>rfl
theorem jn {p q:Nat→Bool} (h:∀i,p i=true→q i=true) {l:List At} (hl:okL p l=true):okL q l=true:=
 okL_iff.2 fun a ha=>At.ok_mono h (okL_iff.1 hl a ha)
theorem V1.ok_mono {p q:Nat→Bool} (h:∀i,p i=true→q i=true):∀{a:V1},a.ok p=true→a.ok q=true
 | .one _,ha=>At.ok_mono h ha
 | .agg _,ha=>jn h ha
theorem LV.ok_mono {p q:Nat→Bool} (h:∀i,p i=true→q i=true):∀{a:LV},a.ok p=true→a.ok q=true
 | .v _,ha=>V1.ok_mono h ha
 | .tup _,ha=>okVs_iff.2 fun a hm=>V1.ok_mono h (okVs_iff.1 ha a hm)
theorem Z2 {p q:Nat→Bool} (h:∀i,p i=true→q i=true) {l:List Blk} (hl:okBs p l=true):okBs q l=true:=
 okBs_iff.2 fun a ha=>jn h (okBs_iff.1 hl a ha)
theorem yJ {v:Value} {a:At} (h:jb5 v=some a):(∀E,a.den E=v)∧(∀p,a.ok p=true)∧a.cell=true:=by
 unfold jb5 at h
 split at h <;> first
  | (cases h;refine ⟨fun _=>rfl,fun _=>rfl,rfl⟩)
  | cases h
theorem zu:∀{l:List Value} {r:List At},Qy l=some r→(∀E,r.map (At.den E)=l)∧(∀p,okL p r=true)∧xl r=true
 | [],r,h=>by simp only [Qy] at h;cases h;exact ⟨fun _=>rfl,fun _=>rfl,rfl⟩
 | v::l,r,h=>by
  simp only [Qy] at h
  split at h
  ·rename_i a r' ha hr
   cases h
   obtain ⟨h1,h2,h3⟩:=yJ ha
   obtain ⟨g1,g2,g3⟩:=zu hr
   exact ⟨fun E=>by simp [h1 E,g1 E],fun p=>by simp [okL,h2 p,g2 p],by simp [xl,h3,g3]⟩
  ·cases h
theorem xC {v:Value} {x:V1} (h:jaF v=some x):(∀E,x.den E=v)∧(∀p,x.ok p=true):=by
 unfold jaF at h
 split at h
 ·rename_i cs
  split at h
  ·rename_i l hl
   cases h
   obtain ⟨g1,g2,_⟩:=zu hl
   exact ⟨fun E=>by simp [V1.den,g1 E],fun p=>g2 p⟩
  ·cases h
 ·split at h
  ·rename_i a ha
   cases h
   obtain ⟨h1,h2,_⟩:=yJ ha
   exact ⟨h1,h2⟩
  ·cases h
theorem JT {β:Type}:∀(f:Nat) (t:Tr) (i:Nat) (v:LV) (k:Tr→β),KZ f t i v k=k (KY f t i v)
 | 0,t,i,v,k=>by simp [KZ,KY]
 | f+1,.nil,0,v,k=>by simp [KZ,KY]
 | f+1,.nd _ l r,0,v,k=>by simp [KZ,KY]
 | f+1,.nil,i+1,v,k=>by
  simp only [KZ,KY]
  split <;> rw [JT f]
 | f+1,.nd u l r,i+1,v,k=>by
  simp only [KZ,KY]
  split <;> rw [JT f]
theorem zZ (i:Nat):getT .nil i=xt:=by cases i <;> rfl
theorem kE (v:LV) (l r:Tr) (i:Nat):getT (.nd v l r) (i+1)=if i%2=0 then getT l (i/2) else getT r (i/2):=by
 simp only [getT]
 by_cases h:i%2=0
 ·simp [h]
 ·have:Nat.beq (i%2) 0=false:=by rw [xi];simp [h]
  simp [h,this]
theorem jfx (f:Nat) (t:Tr) (i:Nat) (v:LV):∃u l r,(∀j,getT t j=getT (.nd u l r) j)∧
  KY (f+1) t (i+1) v=if i%2=0 then .nd u (KY f l (i/2) v) r else .nd u l (KY f r (i/2) v):=by
 cases t with
 | nil=>
  refine ⟨xt,.nil,.nil,fun j=> ?_, ?_⟩
  ·cases j with
   | zero=>rfl
   | succ j=>rw [kE,zZ,zZ];simp
  ·simp only [KY]
   by_cases h:i%2=0
   ·simp [h]
   ·have:Nat.beq (i%2) 0=false:=by rw [xi];simp [h]
    simp [h,this]
 | nd u l r=>
  refine ⟨u,l,r,fun j=>rfl, ?_⟩
  simp only [KY]
  by_cases h:i%2=0
  ·simp [h]
  ·have:Nat.beq (i%2) 0=false:=by rw [xi];simp [h]
   simp [h,this]
theorem ym:∀(f:Nat) (t:Tr) (i:Nat) (v:LV) (j:Nat),i+1<2 ^ f→getT (KY f t i v) j=if j=i then v else getT t j
 | 0,_,i,_,_,h=>by simp at h
 | f+1,t,0,v,j,_=>by
  cases t with
  | nil=>
   cases j with
   | zero=>simp [KY,getT]
   | succ j=>simp only [KY];rw [kE,zZ,zZ];simp
  | nd u l r=>
   cases j with
   | zero=>simp [KY,getT]
   | succ j=>simp only [KY];rw [kE,kE];simp
 | f+1,t,i+1,v,j,h=>by
  have hf:i/2+1<2 ^ f:=by rw [Nat.pow_succ] at h;omega
  obtain ⟨u,l,r,e,hs⟩:=jfx f t i v
  rw [hs,e j]
  cases j with
  | zero=>by_cases hi:i%2=0 <;> simp [hi,getT]
  | succ j=>
   have e1:=ym f l (i/2) v (j/2) hf
   have e2:=ym f r (i/2) v (j/2) hf
   by_cases hi:i%2=0
   ·rw [if_pos hi,kE,kE]
    by_cases hj:j%2=0
    ·rw [if_pos hj,if_pos hj,e1]
     by_cases hij:j=i
     ·subst hij;simp
     ·rw [if_neg (by omega),if_neg (by omega)]
    ·rw [if_neg hj,if_neg hj,if_neg (by omega)]
   ·rw [if_neg hi,kE,kE]
    by_cases hj:j%2=0
    ·rw [if_pos hj,if_pos hj,if_neg (by omega)]
    ·rw [if_neg hj,if_neg hj,e2]
     by_cases hij:j=i
     ·subst hij;simp
     ·rw [if_neg (by omega),if_neg (by omega)]
theorem QS {α β:Type}:∀(l:List α) (k:List α→β),jcE l k=k l
 | [],k=>rfl
 | x::l,k=>by simp [jcE,QS l]
theorem JU {β:Type} (n:Nat) (k:Nat→β):ZY n k=k n:=by cases n <;> rfl
theorem jfy {β:Type} (n:Int) (k:Int→β):jfs n k=k n:=by cases n <;> simp [jfs,JU]
theorem jfz {β:Type} (b:Bool) (k:Bool→β):jjD b k=k b:=by cases b <;> rfl
theorem Z3 {β:Type} (a:At) (k:At→β):jcF a k=k a:=by cases a <;> simp [jcF,jfy,jfz]
theorem XW {β:Type}:∀(l:List At) (k:List At→β),YJ l k=k l
 | [],k=>rfl
 | x::l,k=>by simp [YJ,XW l,Z3]
theorem XX {β:Type} (a:V1) (k:V1→β):YK a k=k a:=by cases a <;> simp [YK,Z3,XW]
theorem XY {β:Type}:∀(l:List V1) (k:List V1→β),YL l k=k l
 | [],k=>rfl
 | x::l,k=>by simp [YL,XY l,XX]
theorem JV {β:Type} (z:Bool) (v:LV) (k:LV→β):jcG z v k=k v:=by
 cases z <;> cases v <;> simp [jcG,XX,XY]
theorem jcJ {β:Type}:∀(m:Mem) (i:Nat) (s:Option Blk) (k:Mem→β),jhi m i s k=k (jc2 m i s)
 | [],_,_,_=>rfl
 | (j,b)::m,i,s,k=>by
  simp only [jhi,jc2]
  cases Nat.beq j i
  ·simp [jcJ m]
  ·cases s <;> rfl
theorem jz (j:Nat) (b:Blk) (m:Mem) (i:Nat):getM ((j,b)::m) i=if i=j then some b else getM m i:=by
 simp only [getM,xi]
 by_cases h:j=i
 ·simp [h]
 ·rw [if_neg (fun e=>h e.symm)];simp [h]
def uniq:Mem→Prop
 | []=>True
 | (j,_)::m=>getM m j=none∧uniq m
theorem QT:∀(m:Mem) (i:Nat) (s:Option Blk) (k:Nat),uniq m→(getM m i).isSome→getM (jc2 m i s) k=if k=i then s else getM m k
 | [],i,s,k,_,h=>by simp [getM] at h
 | (j,b)::m,i,s,k,hu,h=>by
  simp only [jc2,xi]
  by_cases hji:j=i
  ·subst hji
   cases s with
   | some c=>
    simp only [decide_true]
    rw [jz,jz]
    by_cases hk:k=j <;> simp [hk]
   | none=>
    simp only [decide_true]
    rw [jz]
    by_cases hk:k=j
    ·subst hk;simp [hu.1]
    ·simp [hk]
  ·simp only [hji,decide_false]
   rw [jz,jz]
   rw [jz,if_neg (fun e=>hji e.symm)] at h
   rw [QT m i s k hu.2 h]
   by_cases hk:k=j
   ·subst hk;simp [hji]
   ·simp [hk]
theorem QU:∀(m:Mem) (i:Nat) (s:Option Blk),uniq m→uniq (jc2 m i s)
 | [],i,s,_=>trivial
 | (j,b)::m,i,s,hu=>by
  simp only [jc2,xi]
  by_cases hji:j=i
  ·cases s with
   | some c=>simpa [hji] using ⟨by simpa [hji] using hu.1,hu.2⟩
   | none=>simpa [hji] using hu.2
  ·simp only [hji,decide_false]
   refine ⟨?_,QU m i s hu.2⟩
   by_cases h:(getM m i).isSome
   ·rw [QT m i s j hu.2 h,if_neg hji];exact hu.1
   ·have:∀(m:Mem),¬(getM m i).isSome=true→jc2 m i s=m:=by
     intro m
     induction m with
     | nil=>intro _;rfl
     | cons x m ih=>
      obtain ⟨j',b'⟩:=x
      intro hn
      rw [jz] at hn
      by_cases hj:i=j'
      ·simp [hj] at hn
      ·rw [if_neg hj] at hn
       simp only [jc2,xi]
       rw [decide_eq_false (fun e=>hj e.symm),ih hn]
    rw [this m h];exact hu.1
end Go.Lr

/- The local evaluator's operations on numbers, against the model's. -/
namespace Go.Lr
theorem jjG (n:Int):w64 n=IntKind.i64.wrap n:=by
 rw [IntKind.wrap_i64];unfold w64;omega
theorem jjH (n:Int):u64 n=IntKind.u64.wrap n:=by
 unfold u64 IntKind.wrap
 simp [IntKind.bits,IntKind.signed]
theorem jbq (k:IntKind) (n:Int):wr k n=k.wrap n:=by
 cases k <;> simp [wr,jjG,jjH]
theorem X7 {k l:IntKind}:QA k l=true→k=l:=by
 cases k <;> cases l <;> simp [QA,jkn,xi]
theorem jfD (n:Nat):jj n=(2:Int) ^ n:=by
 unfold jj
 rw [show Nat.pow 2 n=2 ^ n from rfl]
 simp
section
variable {P:Program} {E:Env} {τ:Nat→LV} {a:Act} {w:World}
theorem kj (hτ:∀t,a.eval (.tmp t)=(τ t).den E) {x:Operand} {v:LV} (h:ev τ x=some v):a.eval x=v.den E:=by
 cases x with
 | tmp t=>simp only [ev,Option.some.injEq] at h;subst h;exact hτ t
 | const c=>
  simp only [ev] at h
  split at h
  ·rename_i y hy;cases h;exact ((xC hy).1 E).symm
  ·cases h
 | func f=>cases h;rfl
 | global g=>cases h
theorem yX {p:Nat→Bool} (hp:∀t,(τ t).ok p=true) {x:Operand} {v:LV} (h:ev τ x=some v):v.ok p=true:=by
 cases x with
 | tmp t=>simp only [ev,Option.some.injEq] at h;subst h;exact hp t
 | const c=>
  simp only [ev] at h
  split at h
  ·rename_i y hy;cases h;exact (xC hy).2 p
  ·cases h
 | func f=>cases h;rfl
 | global g=>cases h
theorem J3 (hτ:∀t,a.eval (.tmp t)=(τ t).den E):∀{xs:List Operand} {l:List LV},evs τ xs=some l→xs.map a.eval=l.map (LV.den E)
 | [],l,h=>by cases h;rfl
 | x::xs,l,h=>by
  simp only [evs] at h
  split at h
  ·rename_i v r hv hr
   cases h
   simp [kj hτ hv,J3 hτ hr]
  ·cases h
theorem jfE {p:Nat→Bool} (hp:∀t,(τ t).ok p=true):∀{xs:List Operand} {l:List LV},evs τ xs=some l→∀v∈l,v.ok p=true
 | [],l,h=>by cases h;simp
 | x::xs,l,h=>by
  simp only [evs] at h
  split at h
  ·rename_i v r hv hr
   cases h
   simp only [List.mem_cons,forall_eq_or_imp]
   exact ⟨yX hp hv,jfE hp hr⟩
  ·cases h
theorem zB (hτ:∀t,a.eval (.tmp t)=(τ t).den E):∀{xs:List (Nat×Operand)} {l:List (Nat×LV)},yD τ xs=some l→
  xs.map (fun (i,x)=>(i,a.eval x))=l.map fun q=>(q.1,q.2.den E)
 | [],l,h=>by cases h;rfl
 | (i,x)::xs,l,h=>by
  simp only [yD] at h
  split at h
  ·rename_i v r hv hr
   cases h
   simp [kj hτ hv,zB hτ hr]
  ·cases h
theorem z0 {p:Nat→Bool} (hp:∀t,(τ t).ok p=true):∀{xs:List (Nat×Operand)} {l:List (Nat×LV)},yD τ xs=some l→∀v∈l,v.2.ok p=true
 | [],l,h=>by cases h;simp
 | (i,x)::xs,l,h=>by
  simp only [yD] at h
  split at h
  ·rename_i v r hv hr
   cases h
   simp only [List.mem_cons,forall_eq_or_imp]
   exact ⟨yX hp hv,z0 hp hr⟩
  ·cases h
structure Pur (P:Program) (E:Env) (w:World) (s:Sem Value) (d:Dl):Prop where
 wr:d.wr=[]
 nw:d.nw=[]
 run:(∀c∈d.cs,c.1=c.2)→s.run P w = .ok (d.val.den E) w
theorem jX {s:Sem Value} {x:At} {d:Dl} (h:val1 x=some d) (hs:s.run P w = .ok (x.den E) w):Pur P E w s d:=by
 cases h;exact ⟨rfl,rfl,fun _=>hs⟩
theorem YW {s:Sem Value} {kn b:Bool} {x:At} {d:Dl} (h:(ask kn b false fun cs=>some ⟨.v (.one x),[],[],[],cs⟩)=some d)
  (hs:b=false→s.run P w = .ok (x.den E) w):Pur P E w s d:=by
 unfold ask at h
 cases kn <;> cases b <;> simp at h
 ·cases h;exact ⟨rfl,rfl,fun _=>hs rfl⟩
 ·cases h;exact ⟨rfl,rfl,fun hc=>absurd (hc (true,false) (by simp)) (by simp)⟩
 ·cases h;exact ⟨rfl,rfl,fun _=>hs rfl⟩
theorem KT (x:Int):(u64 x).toNat<18446744073709551616:=by unfold u64;omega
theorem jbr (x:Int):(BitVec.ofInt 64 x).toNat=(u64 x).toNat:=by
 rw [BitVec.toNat_ofInt];rfl
theorem jic {op:BinOp} {x y r:Nat} (h:jhj op x y=some r) (hx:x<18446744073709551616) (hy:y<18446744073709551616):r<18446744073709551616:=by
 have hx':x<2 ^ 64:=hx
 have hy':y<2 ^ 64:=hy
 show r<2 ^ 64
 cases op <;> simp only [jhj,Option.some.injEq,reduceCtorEq] at h <;> subst h
 ·exact Nat.and_lt_two_pow x hy'
 ·exact Nat.or_lt_two_pow hx' hy'
 ·exact Nat.xor_lt_two_pow hx' hy'
theorem X8 {op:BinOp} {k:IntKind} {x y r:Int} (h:jc3 op k x y=some r):(Op.intBits op k x y).run P w = .ok (.int k r) w:=by
 unfold jc3 at h
 split at h
 ·rename_i n hn
  have hlt:=jic hn (KT x) (KT y)
  have hb:(Op.intBits op k x y).run P w = .ok (.int k (k.wrap (n:Int))) w∨k.bits≠64:=by
   by_cases hk:k.bits=64
   ·left
    cases op <;> simp only [jhj,Option.some.injEq,reduceCtorEq] at hn <;> subst hn <;>
     (unfold Op.intBits;simp only [Sem.run_pure];rw [hk];simp only [BitVec.toNat_and,BitVec.toNat_or,BitVec.toNat_xor,jbr];rfl)
   ·right;exact hk
  cases k <;> simp only [Option.some.injEq,reduceCtorEq] at h
  ·subst h
   rcases hb with hb | hb
   ·rw [hb,←jjG];rfl
   ·exact absurd rfl hb
  ·subst h
   rcases hb with hb | hb
   ·rw [hb,←jjH]
    have:u64 (n:Int)=Int.ofNat n:=by unfold u64;simp;omega
    rw [this]
   ·exact absurd rfl hb
 ·cases h
theorem jfF {op:BinOp} {k:IntKind} {x y:Int} {kn:Bool} {d:Dl} (t:TypeId) (hop:op≠ .shl∧op≠ .shr) (h:jve op k x y kn=some d):
  Pur P E w (binOp op t (.int k x) (.int k y)) d:=by
 cases op <;> simp only [jve] at h <;> (try (exact absurd rfl hop.1)) <;> (try (exact absurd rfl hop.2))
 case add=>exact jX h (by simp [binOp,Op.intArith,At.den,jbq])
 case sub=>exact jX h (by simp [binOp,Op.intArith,At.den,jbq])
 case mul=>exact jX h (by simp [binOp,Op.intArith,At.den,jbq])
 case quo=>
  refine YW h fun hb=> ?_
  have hy:¬y=0:=by simpa using hb
  simp [binOp,Op.intDiv,At.den,jbq,hy]
 case rem=>
  refine YW h fun hb=> ?_
  have hy:¬y=0:=by simpa using hb
  simp [binOp,Op.intDiv,At.den,hy]
 case eql=>exact jX h (by simp [binOp,Op.intCmp,At.den])
 case neq=>exact jX h (by simp [binOp,Op.intCmp,At.den])
 case lss=>exact jX h (by simp [binOp,Op.intCmp,At.den])
 case leq=>exact jX h (by simp [binOp,Op.intCmp,At.den])
 case gtr=>exact jX h (by simp [binOp,Op.intCmp,At.den])
 case geq=>exact jX h (by simp [binOp,Op.intCmp,At.den])
 all_goals
  split at h
  ·rename_i r hr
   exact jX h (by simpa [binOp,At.den] using X8 hr)
  ·cases h
theorem Q3 {op:BinOp} {k k':IntKind} {x y:Int} {kn:Bool} {d:Dl} (t:TypeId) (h:jb6 op k x y kn=some d):
  Pur P E w (binOp op t (.int k x) (.int k' y)) d:=by
 cases op <;> simp only [jb6,reduceCtorEq] at h
 ·refine YW h fun hb=> ?_
  have hy:¬y<0:=by simpa using hb
  simp [binOp,Op.shift,At.den,jbq,hy,jfD]
 ·refine YW h fun hb=> ?_
  have hy:¬y<0:=by simpa using hb
  have:x.fdiv (2 ^ min y.toNat k.bits)=x/2 ^ min y.toNat k.bits:=Int.fdiv_eq_ediv_of_nonneg _ (Int.pow_nonneg (by decide))
  simp [binOp,Op.shift,At.den,hy,jfD,this]
theorem jdu {op:BinOp} {k k':IntKind} {x y:Int} {kn:Bool} {d:Dl} (t:TypeId) (h:jep op k x k' y kn=some d):
  Pur P E w (binOp op t (.int k x) (.int k' y)) d:=by
 unfold jep at h
 split at h
 ·exact Q3 t h
 ·exact Q3 t h
 ·rename_i h1 h2
  split at h
  ·rename_i hk
   have:=X7 hk
   subst this
   exact jfF t ⟨fun e=>h1 e,fun e=>h2 e⟩ h
  ·cases h
theorem jid {op:UnOp} {x:LV} {d:Dl} (h:unD op x=some d):Pur P E w (Op.unary op (x.den E)) d:=by
 unfold unD at h
 split at h
 ·exact jX h (by simp [LV.den,V1.den,At.den,Op.unary,Op.intArith,jbq])
 ·rename_i k n
  split at h
  ·rename_i r hr
   refine jX h ?_
   simp only [LV.den,V1.den,At.den,Op.unary]
   have hk:jc3 .xor k (if k.signed then -1 else k.max) n=some r:=by
    unfold jc3 at hr ⊢
    cases k <;> simp [IntKind.signed] at hr ⊢ <;> exact hr
   exact X8 hk
  ·cases h
 ·exact jX h (by simp [LV.den,V1.den,At.den,Op.unary])
 ·cases h
theorem jdv {t u:TypeId} {x:LV} {d:Dl} (h:jeo P t u x=some d):Pur P E w (convert t u (x.den E)) d:=by
 unfold jeo at h
 split at h
 ·rename_i ht hu
  refine jX h ?_
  simp [LV.den,V1.den,At.den,convert,run_underlying ht,run_underlying hu,Conv.intToInt,jbq]
 ·cases h
end
end Go.Lr

/- The local evaluator's operations on structs, arrays, addresses, slices, against the model's. -/
namespace Go.Lr
theorem Q4:∀{l:List At} {o n:Nat} {r:List At},Yl l o n=some r→r=(l.drop o).take n∧o+n≤l.length
 | l,0,0,r,h=>by cases l <;> (simp only [Yl] at h;cases h;simp)
 | [],0,n+1,r,h=>by simp [Yl] at h
 | a::l,0,n+1,r,h=>by
  simp only [Yl] at h
  split at h
  ·rename_i r' hr
   cases h
   obtain ⟨h1,h2⟩:=Q4 hr
   subst h1
   simp at h2 ⊢;omega
  ·cases h
 | [],o+1,n,r,h=>by simp [Yl] at h
 | a::l,o+1,n,r,h=>by
  simp only [Yl] at h
  obtain ⟨h1,h2⟩:=Q4 h
  subst h1
  simp;omega
theorem jcL:∀{l:List At} {o:Nat},atS l o=l[o]?
 | [],_=>by simp [atS]
 | a::l,0=>by simp [atS]
 | a::l,o+1=>by simp [atS,jcL (l:=l)]
theorem Z4:∀(q:Nat) (l:List At) (o n:Nat),(match jaG q l with | some r=>Yl r o n | none=>none)=Yl l (16*q+o) n
 | 0,l,o,n=>by simp only [jaG];rw [show 16*0+o=o by omega]
 | q+1,l,o,n=>by
  rw [show 16*(q+1)+o=(16*q+o)+16 by omega]
  match l with
  | _::_::_::_::_::_::_::_::_::_::_::_::_::_::_::_::r=>exact Z4 q r o n
  | [_,_,_,_,_,_,_,_,_,_,_,_,_,_,_]=>rfl
  | [_,_,_,_,_,_,_,_,_,_,_,_,_,_]=>rfl
  | [_,_,_,_,_,_,_,_,_,_,_,_,_]=>rfl
  | [_,_,_,_,_,_,_,_,_,_,_,_]=>rfl
  | [_,_,_,_,_,_,_,_,_,_,_]=>rfl
  | [_,_,_,_,_,_,_,_,_,_]=>rfl
  | [_,_,_,_,_,_,_,_,_]=>rfl
  | [_,_,_,_,_,_,_,_]=>rfl
  | [_,_,_,_,_,_,_]=>rfl
  | [_,_,_,_,_,_]=>rfl
  | [_,_,_,_,_]=>rfl
  | [_,_,_,_]=>rfl
  | [_,_,_]=>rfl
  | [_,_]=>rfl
  | [_]=>rfl
  | []=>rfl
theorem jcM:∀(q:Nat) (l:List At) (o:Nat),(match jaG q l with | some r=>atS r o | none=>none)=atS l (16*q+o)
 | 0,l,o=>by simp only [jaG];rw [show 16*0+o=o by omega]
 | q+1,l,o=>by
  rw [show 16*(q+1)+o=(16*q+o)+16 by omega]
  match l with
  | _::_::_::_::_::_::_::_::_::_::_::_::_::_::_::_::r=>exact jcM q r o
  | [_,_,_,_,_,_,_,_,_,_,_,_,_,_,_]=>rfl
  | [_,_,_,_,_,_,_,_,_,_,_,_,_,_]=>rfl
  | [_,_,_,_,_,_,_,_,_,_,_,_,_]=>rfl
  | [_,_,_,_,_,_,_,_,_,_,_,_]=>rfl
  | [_,_,_,_,_,_,_,_,_,_,_]=>rfl
  | [_,_,_,_,_,_,_,_,_,_]=>rfl
  | [_,_,_,_,_,_,_,_,_]=>rfl
  | [_,_,_,_,_,_,_,_]=>rfl
  | [_,_,_,_,_,_,_]=>rfl
  | [_,_,_,_,_,_]=>rfl
  | [_,_,_,_,_]=>rfl
  | [_,_,_,_]=>rfl
  | [_,_,_]=>rfl
  | [_,_]=>rfl
  | [_]=>rfl
  | []=>rfl
theorem jfG (l:List At) (o n:Nat):cut l o n=Yl l o n:=by
 unfold cut
 split
 ·rfl
 ·refine (Z4 (o/16) l (o%16) n).trans ?_
  rw [Nat.div_add_mod]
theorem jfH (l:List At) (o:Nat):atL l o=atS l o:=by
 unfold atL
 split
 ·rfl
 ·refine (jcM (o/16) l (o%16)).trans ?_
  rw [Nat.div_add_mod]
theorem yK {l:List At} {o n:Nat} {r:List At} (h:cut l o n=some r):r=(l.drop o).take n∧o+n≤l.length:=by
 rw [jfG] at h
 exact Q4 h
theorem z4 {l:List At} {o:Nat}:atL l o=l[o]? :=by rw [jfH,jcL]
theorem yV:∀(l:List At),len l=l.length
 | []=>rfl
 | a::l=>by simp [len,yV l]
theorem jbs:∀(l:List Blk),jb8 l=l.length
 | []=>rfl
 | a::l=>by simp [jb8,jbs l]
theorem jbt:∀(l:List LV),jls l=l.length
 | []=>rfl
 | a::l=>by simp [jls,jbt l]
theorem qW:∀{l:List Field} {o:Nat},xw l o=l[o]?
 | [],_=>by simp [xw]
 | a::l,0=>by simp [xw]
 | a::l,o+1=>by simp [xw,qW (l:=l)]
theorem allCell_iff:∀{l:List At},xl l=true↔∀a∈l,a.cell=true
 | []=>by simp [xl]
 | a::l=>by
  simp only [xl,List.mem_cons,forall_eq_or_imp]
  cases h:a.cell <;> simp [allCell_iff (l:=l)]
theorem Q5:∀{l:List At} {o:Nat} {vs r:List At},XK l o vs=some r→r=l.take o++vs++l.drop (o+vs.length)∧o+vs.length≤l.length
 | l,0,[],r,h=>by cases l <;> (simp only [XK] at h;cases h;simp)
 | [],0,v::vs,r,h=>by simp [XK] at h
 | a::l,0,v::vs,r,h=>by
  simp only [XK] at h
  split at h
  ·rename_i r' hr
   cases h
   obtain ⟨h1,h2⟩:=Q5 hr
   subst h1
   simp at h2 ⊢;omega
  ·cases h
 | [],o+1,vs,r,h=>by cases vs <;> simp [XK] at h
 | a::l,o+1,vs,r,h=>by
  have h':∃r',XK l o vs=some r'∧r=a::r':=by
   cases vs <;>
   ·simp only [XK] at h
    split at h
    ·rename_i r' hr
     cases h
     exact ⟨r',hr,rfl⟩
    ·cases h
  obtain ⟨r',hr,rfl⟩:=h'
  obtain ⟨h1,h2⟩:=Q5 hr
  subst h1
  refine ⟨?_,by simp only [List.length_cons];omega⟩
  rw [show o+1+vs.length=(o+vs.length)+1 by omega]
  simp
theorem qX {vs:List At}:∀{l:List At} {o:Nat},l.length<o→XK l o vs=none
 | [],o+1,_=>by cases vs <;> rfl
 | a::l,o+1,h=>by
  have:=qX (vs:=vs) (l:=l) (o:=o) (by simpa using h)
  cases vs <;> simp only [XK,this]
theorem jfI (a:At) (l:List At) (o:Nat) (vs:List At):XK (a::l) (o+1) vs=(match XK l o vs with | some r=>some (a::r) | none=>none):=by
 cases vs <;> rfl
theorem jfJ:∀(q:Nat) (l:List At) (o:Nat) (vs:List At),jop q l o vs=XK l (8*q+o) vs
 | 0,l,o,vs=>by simp only [jop];rw [show 8*0+o=o by omega]
 | q+1,l,o,vs=>by
  rw [show 8*(q+1)+o=(8*q+o)+8 by omega]
  match l with
  | a0::a1::a2::a3::a4::a5::a6::a7::r=>
   simp only [jop,jfJ q r o vs,jfI]
   cases XK r (8*q+o) vs <;> rfl
  | [_,_,_,_,_,_,_]=>exact (qX (by simp;try omega)).symm
  | [_,_,_,_,_,_]=>exact (qX (by simp;try omega)).symm
  | [_,_,_,_,_]=>exact (qX (by simp;try omega)).symm
  | [_,_,_,_]=>exact (qX (by simp;try omega)).symm
  | [_,_,_]=>exact (qX (by simp;try omega)).symm
  | [_,_]=>exact (qX (by simp;try omega)).symm
  | [_]=>exact (qX (by simp;try omega)).symm
  | []=>exact (qX (by simp;try omega)).symm
theorem jjI (l:List At) (o:Nat) (vs:List At):lay l o vs=XK l o vs:=by
 unfold lay
 split
 ·rfl
 ·rw [jfJ,Nat.div_add_mod]
theorem z5 {l:List At} {o:Nat} {vs r:List At} (h:lay l o vs=some r):r=l.take o++vs++l.drop (o+vs.length)∧o+vs.length≤l.length:=by
 rw [jjI] at h
 exact Q5 h
theorem Z5 {p:Nat→Bool} {l:List At} {o:Nat} {vs r:List At} (h:lay l o vs=some r) (h1:okL p l=true) (h2:okL p vs=true):okL p r=true:=by
 obtain ⟨e,_⟩:=z5 h
 subst e
 rw [okL_iff] at *
 intro a ha
 simp only [List.mem_append] at ha
 rcases ha with (ha | ha) | ha
 ·exact h1 a (List.mem_of_mem_take ha)
 ·exact h2 a ha
 ·exact h1 a (List.mem_of_mem_drop ha)
theorem Z6 {p:Nat→Bool} {l:List At} {o n:Nat} {r:List At} (h:cut l o n=some r) (h1:okL p l=true):okL p r=true:=by
 obtain ⟨e,_⟩:=yK h
 subst e
 rw [okL_iff] at *
 exact fun a ha=>h1 a (List.mem_of_mem_drop (List.mem_of_mem_take ha))
section
variable {P:Program} {E:Env} {τ:Nat→LV} {a:Act} {w:World}
theorem jQ {t:TypeId} {n:Nat} (h:kY P t=some n) (w:World):(sizeOf t).run P w = .ok n w:=by
 unfold kY at h
 split at h
 ·rename_i i hi
  cases h
  simp [sizeOf,typeInfo,hi]
 ·cases h
theorem J4 {t:TypeId} {b:Bool} (h:jvd P t=some b) (w:World):(isAgg t).run P w = .ok b w:=by
 unfold jvd at h
 split at h
 ·rename_i hu;cases h;simp [isAgg,run_underlying hu]
 ·rename_i hu;cases h;simp [isAgg,run_underlying hu]
 ·rename_i d h1 h2 hu
  cases h
  simp only [isAgg,Sem.run_bind,run_underlying hu,Result.andThen_ok]
  cases d <;> simp
  all_goals first | exact absurd hu (h2 _ _) | exact absurd hu (h1 _)
 ·cases h
theorem xF {t:TypeId} {l:List At} {o:Nat} {x:V1} (h:xI P t l o=some x) (w:World):
  (part t (l.map (At.den E)).toArray o).run P w = .ok (x.den E) w:=by
 unfold xI at h
 split at h
 ·rename_i ha
  split at h
  ·rename_i n hn
   split at h
   ·rename_i r hr
    cases h
    obtain ⟨e,hl⟩:=yK hr
    simp only [part,Sem.run_bind,J4 ha,Result.andThen_ok,if_true,jQ hn,Sem.run_pure,V1.den]
    subst e
    congr 2
    simp [List.map_take,List.map_drop,List.take_drop]
   ·cases h
  ·cases h
 ·rename_i ha
  split at h
  ·rename_i y hy
   cases h
   rw [z4] at hy
   simp only [part,Sem.run_bind,J4 ha,Result.andThen_ok,V1.den]
   have:(l.map (At.den E)).toArray[o]? = some (y.den E):=by simp [hy]
   simp [this]
  ·cases h
 ·cases h
theorem Qp {p:Nat→Bool} {t:TypeId} {l:List At} {o:Nat} {x:V1} (h:xI P t l o=some x) (hl:okL p l=true):x.ok p=true:=by
 unfold xI at h
 split at h
 ·split at h
  ·split at h
   ·rename_i r hr
    cases h
    exact Z6 hr hl
   ·cases h
  ·cases h
 ·split at h
  ·rename_i y hy
   cases h
   rw [z4] at hy
   exact okL_iff.1 hl y (List.mem_of_getElem? hy)
  ·cases h
 ·cases h
theorem Pur.of_run {s:Sem Value} {x:LV} (h:s.run P w = .ok (x.den E) w):Pur P E w s (.pure x):=⟨rfl,rfl,fun _=>h⟩
theorem jbu {t:TypeId} {x:LV} {i:Nat} {d:Dl} (h:Zw P t x i=some d):Pur P E w (Instr.field t (x.den E) i) d:=by
 unfold Zw at h
 split at h
 ·rename_i fs l hu
  split at h
  ·rename_i f hf
   split at h
   ·rename_i v hv
    cases h
    rw [qW] at hf
    refine .of_run ?_
    have hf':fs[i]? = some f:=by simpa using hf
    have hpv:=xF (E:=E) hv w
    simp [Instr.field,run_underlying hu,hf',LV.den,V1.den,asAgg]
    exact hpv
   ·cases h
  ·cases h
 ·cases h
theorem Qq {i:Int} {n k:Nat} (h:inB i n=some k):i=(k:Int)∧k<n:=by
 unfold inB at h
 split at h
 ·split at h
  ·rename_i hk;cases h;rw [Ko] at hk;exact ⟨rfl,by simpa using hk⟩
  ·cases h
 ·cases h
theorem jbv {t:TypeId} {x ix:LV} {d:Dl} (h:Zx P t x ix=some d):Pur P E w (Instr.index t (x.den E) (ix.den E)) d:=by
 unfold Zx at h
 split at h
 ·rename_i n e l k i hu
  split at h
  ·rename_i q s hq hs
   split at h
   ·rename_i v hv
    cases h
    obtain ⟨rfl,hlt⟩:=Qq hq
    refine .of_run ?_
    have hc:(0:Int)≤(q:Int)∧(q:Int)<(n:Int):=⟨by omega,by omega⟩
    have hpv:=xF (E:=E) hv w
    simp [Instr.index,run_underlying hu,LV.den,V1.den,At.den,asIntOf,hlt,jQ hs]
    exact hpv
   ·cases h
  ·cases h
 ·cases h
theorem xb:∀{l:List V1} {i:Nat} {d:Dl},extractD.nth l i=some d→∃v,l[i]? = some v∧d = .pure (.v v)
 | [],_,_,h=>by simp [extractD.nth] at h
 | v::l,0,d,h=>by simp only [extractD.nth] at h;cases h;exact ⟨v,rfl,rfl⟩
 | v::l,i+1,d,h=>by
  simp only [extractD.nth] at h
  obtain ⟨u,h1,h2⟩:=xb h
  exact ⟨u,by simpa using h1,h2⟩
theorem YX {x:LV} {i:Nat} {d:Dl} (h:extractD x i=some d):Pur P E w (Instr.extract (x.den E) i) d:=by
 unfold extractD at h
 split at h
 ·obtain ⟨v,hv,rfl⟩:=xb h
  refine .of_run ?_
  simp [Instr.extract,LV.den,hv]
 ·cases h
theorem kt (b o n:Nat):(⟨b,o,none⟩:Addr).add n=⟨b,o+n,none⟩:=by
 unfold Addr.add
 split <;> simp_all
theorem Q6 {t:TypeId} {x:LV} {i:Nat} {d:Dl} (h:yh P t x i=some d):Pur P E w (Instr.fieldAt t (x.den E) i) d:=by
 unfold yh at h
 split at h
 ·rename_i fs b o hu
  split at h
  ·rename_i f hf
   split at h
   ·rename_i n hn
    refine jX h ?_
    rw [qW] at hf
    have hf':fs[i]? = some f:=by simpa using hf
    simp [Instr.fieldAt,run_underlying hu,hf',LV.den,V1.den,At.den,Instr.sureAddr,fieldPlace,jQ hn,kt]
   ·cases h
  ·cases h
 ·rename_i fs b o hu
  split at h
  ·rename_i f hf
   split at h
   ·rename_i n hn
    refine jX h ?_
    rw [qW] at hf
    have hf':fs[i]? = some f:=by simpa using hf
    simp [Instr.fieldAt,run_underlying hu,hf',LV.den,V1.den,At.den,Instr.sureAddr,fieldPlace,jQ hn,kt]
   ·cases h
  ·cases h
 ·cases h
theorem Z7 {t:TypeId} {x:LV} {d:Dl} (h:QE P t x=some d):Pur P E w (Instr.arrayAt t (x.den E)) d:=by
 unfold QE at h
 split at h
 ·rename_i n e b o m c hu
  split at h
  ·rename_i hq
   have hle:n≤m:=Nat.le_of_ble_eq_true hq
   have hn:¬m<n:=by omega
   refine jX h ?_
   simp [Instr.arrayAt,run_underlying hu,LV.den,V1.den,At.den,hn]
  ·cases h
 ·cases h
theorem Q7 {t:TypeId} {x ix:LV} {d:Dl} (h:yi P t x ix=some d):Pur P E w (Instr.indexAt t (x.den E) (ix.den E)) d:=by
 unfold yi at h
 split at h
 ·rename_i n e b o k i hu
  split at h
  ·rename_i q s hq hs
   obtain ⟨rfl,hlt⟩:=Qq hq
   refine jX h ?_
   simp [Instr.indexAt,run_underlying hu,LV.den,V1.den,At.den,asIntOf,Instr.sureAddr,hlt,jQ hs,kt]
  ·cases h
 ·rename_i e b o n c k i hu
  split at h
  ·rename_i q s hq hs
   obtain ⟨rfl,hlt⟩:=Qq hq
   refine jX h ?_
   simp [Instr.indexAt,run_underlying hu,LV.den,V1.den,At.den,asIntOf,hlt,jQ hs,kt]
  ·cases h
 ·rename_i e b n k i hu
  split at h
  ·rename_i q s hq hs
   obtain ⟨rfl,hlt⟩:=Qq hq
   refine jX h ?_
   simp [Instr.indexAt,run_underlying hu,LV.den,V1.den,At.den,asIntOf,hlt,jQ hs,kt]
  ·cases h
 ·rename_i e b o n c k i hu
  split at h
  ·rename_i s hs
   cases h
   refine ⟨rfl,rfl,fun hc=> ?_⟩
   have:=hc _ (List.mem_singleton.2 rfl)
   simp only [Bool.and_eq_true,decide_eq_true_eq] at this
   obtain ⟨q,rfl⟩:=Int.eq_ofNat_of_zero_le this.1
   have hlt:q<n:=by omega
   simp [Instr.indexAt,run_underlying hu,LV.den,V1.den,At.den,asIntOf,hlt,jQ hs,kt]
  ·cases h
 ·rename_i n e b o k i hu
  split at h
  ·rename_i s hs
   cases h
   refine ⟨rfl,rfl,fun hc=> ?_⟩
   have:=hc _ (List.mem_singleton.2 rfl)
   simp only [Bool.and_eq_true,decide_eq_true_eq] at this
   obtain ⟨q,rfl⟩:=Int.eq_ofNat_of_zero_le this.1
   have hlt:q<n:=by omega
   simp [Instr.indexAt,run_underlying hu,LV.den,V1.den,At.den,asIntOf,Instr.sureAddr,hlt,jQ hs,kt]
  ·cases h
 ·cases h
theorem Jv {dflt:Nat} {i:Int} (h:KI none dflt=some i):i=dflt:=by
 simp only [KI,Option.some.injEq] at h;exact h.symm
theorem Jw {v:LV} {dflt:Nat} {i:Int} (h:KI (some v) dflt=some i):∃k,v = .v (.one (.int k i)):=by
 unfold KI at h
 split at h
 ·rename_i he;cases he
 ·rename_i k q he;cases he;cases h;exact ⟨k,rfl⟩
 ·cases h
theorem Kr {lo hi:Option LV} {n c h l:Nat} (hh:KI hi n=some (h:Int)) (hl:KI lo 0=some (l:Int)) (h1:l≤h) (h2:h≤c):
  (Instr.sliceBounds true n c (lo.map (LV.den E)) (hi.map (LV.den E)) none).run P w = .ok (l,h,c) w:=by
 cases hi with
 | none=>
  have:=Jv hh
  have:h=n:=by omega
  subst this
  cases lo with
  | none=>have:=Jv hl;have:l=0:=by omega
          subst this;simp [Instr.sliceBounds]
  | some v=>
   obtain ⟨i,rfl⟩:=Jw hl
   simp [Instr.sliceBounds,Instr.sliceBound,LV.den,V1.den,At.den,asIntOf,h1]
 | some u=>
  obtain ⟨i',rfl⟩:=Jw hh
  cases lo with
  | none=>have:=Jv hl;have:l=0:=by omega
          subst this;simp [Instr.sliceBounds,Instr.sliceBound,LV.den,V1.den,At.den,asIntOf,h2]
  | some v=>
   obtain ⟨i,rfl⟩:=Jw hl
   simp [Instr.sliceBounds,Instr.sliceBound,LV.den,V1.den,At.den,asIntOf,h1,h2]
theorem qf {v:LV} {dflt n k:Nat} (h:kG (some v) dflt n=some k):∃i,v = .v (.one (.int i (k:Int)))∧k≤n:=by
 unfold kG at h
 split at h
 ·rename_i he;cases he
 ·rename_i i q he
  cases he
  split at h
  ·rename_i hk
   cases h
   rw [jaC] at hk
   exact ⟨i,rfl,by simpa using hk⟩
  ·cases h
 ·cases h
theorem kS (b:Bool) {lo hi:Option LV} {n c h l:Nat} (hh:kG hi n c=some h) (hl:kG lo 0 h=some l):
  (Instr.sliceBounds b n c (lo.map (LV.den E)) (hi.map (LV.den E)) none).run P w = .ok (l,h,c) w:=by
 cases hi with
 | none=>
  simp only [kG,Option.some.injEq] at hh
  subst hh
  cases lo with
  | none=>simp only [kG,Option.some.injEq] at hl;subst hl;simp [Instr.sliceBounds]
  | some v=>
   obtain ⟨i,rfl,hle⟩:=qf hl
   simp [Instr.sliceBounds,Instr.sliceBound,LV.den,V1.den,At.den,asIntOf,hle]
 | some u=>
  obtain ⟨i',rfl,hle'⟩:=qf hh
  cases lo with
  | none=>simp only [kG,Option.some.injEq] at hl;subst hl;simp [Instr.sliceBounds,Instr.sliceBound,LV.den,V1.den,At.den,asIntOf,hle']
  | some v=>
   obtain ⟨i,rfl,hle⟩:=qf hl
   simp [Instr.sliceBounds,Instr.sliceBound,LV.den,V1.den,At.den,asIntOf,hle,hle']
theorem jbw {t:TypeId} {x:LV} {lo hi:Option LV} {d:Dl} (h:Zy P t x lo hi=some d):
  Pur P E w (Instr.sliceAt t (x.den E) (lo.map (LV.den E)) (hi.map (LV.den E)) none) d:=by
 unfold Zy at h
 split at h
 ·rename_i n e b o hu
  split at h
  ·rename_i hh s hb hs
   split at h
   ·rename_i l hl
    have h1:=kS (P:=P) (E:=E) (w:=w) false hb hl
    split at h <;> rename_i hq <;> rw [xi] at hq <;> refine jX h ?_
    ·have hq':n=l:=by simpa using hq
     subst hq'
     simp [Instr.sliceAt,run_underlying hu,LV.den,V1.den,At.den,Instr.sureAddr,jQ hs,h1]
    ·have hq':¬n=l:=by simpa using hq
     simp [Instr.sliceAt,run_underlying hu,LV.den,V1.den,At.den,Instr.sureAddr,jQ hs,h1,hq',kt]
   ·cases h
  ·cases h
 ·rename_i e b o n c hu
  split at h
  ·rename_i hh s hb hs
   split at h
   ·rename_i l hl
    have h1:=kS (P:=P) (E:=E) (w:=w) true hb hl
    split at h <;> rename_i hq <;> rw [xi] at hq <;> refine jX h ?_
    ·have hq':c=l:=by simpa using hq
     subst hq'
     simp [Instr.sliceAt,Instr.slice,run_underlying hu,LV.den,V1.den,At.den,jQ hs,h1]
    ·have hq':¬c=l:=by simpa using hq
     simp [Instr.sliceAt,Instr.slice,run_underlying hu,LV.den,V1.den,At.den,jQ hs,h1,hq',kt]
   ·cases h
  ·cases h
 ·rename_i e b o n c hu
  split at h
  ·rename_i s hs
   unfold jaI at h
   split at h
   ·rename_i l' h' hl hh
    cases h
    refine ⟨rfl,rfl,fun hc=> ?_⟩
    have:=hc _ (List.mem_singleton.2 rfl)
    simp only [Bool.and_eq_true,decide_eq_true_eq] at this
    obtain ⟨l,rfl⟩:=Int.eq_ofNat_of_zero_le this.1
    obtain ⟨h,rfl⟩:=Int.eq_ofNat_of_zero_le (show 0≤h' by omega)
    have h1:=Kr (P:=P) (E:=E) (w:=w) hh hl (by omega) (by omega:h≤c)
    simp only [Int.toNat_natCast]
    by_cases hq:c=l
    ·subst hq
     simp [Instr.sliceAt,Instr.slice,run_underlying hu,LV.den,V1.den,At.den,jQ hs,h1]
    ·simp [Instr.sliceAt,Instr.slice,run_underlying hu,LV.den,V1.den,At.den,jQ hs,h1,hq,kt]
   ·cases h
  ·cases h
 ·rename_i e hu
  split at h
  ·rename_i hh s hb hs
   split at h
   ·rename_i l hl
    have h1:=kS (P:=P) (E:=E) (w:=w) true hb hl
    have h0:hh=0:=by
     cases hi with
     | none=>simp only [kG,Option.some.injEq] at hb;omega
     | some u=>obtain ⟨i,_,hle⟩:=qf hb;omega
    refine jX h ?_
    simp [Instr.sliceAt,Instr.slice,run_underlying hu,LV.den,V1.den,At.den,jQ hs,h1,h0]
   ·cases h
  ·cases h
 ·rename_i n e b o hu
  split at h
  ·rename_i hh s hb hs
   split at h
   ·rename_i l hl
    have h1:=kS (P:=P) (E:=E) (w:=w) false hb hl
    split at h <;> rename_i hq <;> rw [xi] at hq <;> refine jX h ?_
    ·have hq':n=l:=by simpa using hq
     subst hq'
     simp [Instr.sliceAt,run_underlying hu,LV.den,V1.den,At.den,Instr.sureAddr,jQ hs,h1]
    ·have hq':¬n=l:=by simpa using hq
     simp [Instr.sliceAt,run_underlying hu,LV.den,V1.den,At.den,Instr.sureAddr,jQ hs,h1,hq',kt]
   ·cases h
  ·cases h
 ·cases h
theorem jfK {t ty:TypeId} {x:LV} {d:Dl} (h:jou P t x=some d):Pur P E w (Builtin.len_ #[t] ty #[x.den E]) d:=by
 unfold jou at h
 split at h <;> (try cases h;done) <;> rename_i hu <;> refine jX h ?_ <;>
  simp [Builtin.len_,run_underlying hu,LV.den,V1.den,At.den,goInt]
theorem yL:∀{mx:Bool} {l:List LV} {k:IntKind} {x:Int} {d:Dl},kZ mx k x l=some d→
  Pur P E w ((l.map (LV.den E)).foldlM (if mx then Builtin.max2 else Builtin.min2) (.int k x)) d
 | mx,[],k,x,d,h=>by
  simp only [kZ] at h
  exact jX h (by simp [At.den])
 | mx,.v (.one (.int k' y))::l,k,x,d,h=>by
  cases mx
  ·simp only [kZ] at h
   have:=yL h
   refine ⟨this.wr,this.nw,fun hc=> ?_⟩
   have:=this.run hc
   simp [LV.den,V1.den,At.den,Builtin.min2] at this ⊢
   exact this
  ·simp only [kZ] at h
   have:=yL h
   refine ⟨this.wr,this.nw,fun hc=> ?_⟩
   have:=this.run hc
   simp [LV.den,V1.den,At.den,Builtin.max2] at this ⊢
   exact this
 | mx,.v (.one (.bool _))::l,k,x,d,h=>by simp [kZ] at h
 | mx,.v (.one (.ptr _ _))::l,k,x,d,h=>by simp [kZ] at h
 | mx,.v (.one .nilp)::l,k,x,d,h=>by simp [kZ] at h
 | mx,.v (.one (.sl _ _ _ _))::l,k,x,d,h=>by simp [kZ] at h
 | mx,.v (.one (.slu _ _))::l,k,x,d,h=>by simp [kZ] at h
 | mx,.v (.one (.slx _ _ _ _))::l,k,x,d,h=>by simp [kZ] at h
 | mx,.v (.one (.ptx _ _))::l,k,x,d,h=>by simp [kZ] at h
 | mx,.v (.one .nilsl)::l,k,x,d,h=>by simp [kZ] at h
 | mx,.v (.one (.slt _ _ _))::l,k,x,d,h=>by simp [kZ] at h
 | mx,.v (.one (.fn _ _))::l,k,x,d,h=>by simp [kZ] at h
 | mx,.v (.one (.opq _))::l,k,x,d,h=>by simp [kZ] at h
 | mx,.v (.agg _)::l,k,x,d,h=>by simp [kZ] at h
 | mx,.tup _::l,k,x,d,h=>by simp [kZ] at h
theorem jfL {ts:Array TypeId} {ty:TypeId} {l:List LV} {d:Dl} (h:ze false l=some d):Pur P E w (Builtin.min_ ts ty (l.map (LV.den E)).toArray) d:=by
 unfold ze at h
 split at h
 ·have:=yL (P:=P) (E:=E) (w:=w) h
  simpa [Builtin.min_,LV.den,V1.den,At.den] using this
 ·cases h
theorem jfM {ts:Array TypeId} {ty:TypeId} {l:List LV} {d:Dl} (h:ze true l=some d):Pur P E w (Builtin.max_ ts ty (l.map (LV.den E)).toArray) d:=by
 unfold ze at h
 split at h
 ·have:=yL (P:=P) (E:=E) (w:=w) h
  simpa [Builtin.max_,LV.den,V1.den,At.den] using this
 ·cases h
end
end Go.Lr

/- The local evaluator's memory, against the model's. -/
set_option linter.unusedVariables false
set_option linter.unusedSimpArgs false
namespace Go.Lr
open Go.RowKit
def wrG (g:Nat→Option Blk):List (Nat×Option Blk)→Nat→Option Blk
 | []=>g
 | (i,s)::l=>wrG (fun j=>if j=i then s else g j) l
def nwG (g:Nat→Option Blk) (nb:Nat):List Blk→Nat→Option Blk
 | []=>g
 | b::l=>nwG (fun j=>if j=nb then some b else g j) (nb+1) l
def blkAt (E:Env) (i:Nat) (b:Blk) (w:World):Prop:=
 ∃r:List Value,w.heap[(E i).1]? = some (.cells ((E i).pre++b.cells.map (At.den E)++r++(E i).suf).toArray ((E i).ty.getD b.ty) b.fr)∧(b.es=0→r=[])∧(b.es≠0→b.cells.length+r.length=(E i).2*b.es)
structure Rel (E:Env) (g:Nat→Option Blk) (w:World):Prop where
 blk:∀i b,g i=some b→blkAt E i b w
 inj:∀i j,(g i).isSome→(g j).isSome→(E i).1=(E j).1→i=j
structure Post (w:World) (E:Env) (g:Nat→Option Blk) (nb:Nat) (d:Dl) (E':Env) (w':World):Prop where
 agree:∀i,i<nb∨nb+d.nw.length≤i→E' i=E i
 rel:Rel E' (nwG (wrG g d.wr) nb d.nw) w'
 os:w'.os=w.os
 tape:w'.tape=w.tape
 output:w'.output=w.output
 size:w.heap.size≤w'.heap.size
 frame:∀b,b<w.heap.size→(∀i,(g i).isSome→(E i).1≠b)→w'.heap[b]? = w.heap[b]?
 fresh:∀i,nb≤i→i<nb+d.nw.length→w.heap.size≤(E' i).1∨∃j,(g j).isSome∧(E' i).1=(E j).1
def StepOK (P:Program) (o:Oper) (a:Act) (w:World) (E:Env) (g:Nat→Option Blk) (nb:Nat) (d:Dl):Prop:=
 (∀c∈d.cs,c.1=c.2)→∀(K:Act→World→Prop) (Q:Exit→Act→World→Prop),
  (∀E' w',Post w E g nb d E' w'→K (a.put o.dst (d.val.den E')) w')→o.wp P a w K Q
section
variable {P:Program} {E:Env} {τ:Nat→LV} {a:Act} {w:World} {g:Nat→Option Blk} {nb:Nat}
theorem Post.refl {d:Dl} (h1:d.wr=[]) (h2:d.nw=[]) (hr:Rel E g w):Post w E g nb d E w:=by
 refine ⟨fun _ _=>rfl, ?_,rfl,rfl,rfl,Nat.le_refl _,fun _ _ _=>rfl,fun i h1' h2'=> ?_⟩
 ·rw [h1,h2];exact hr
 ·rw [h2] at h2';simp at h2';omega
theorem StepOK.of_pur {o:Oper} {s:Sem Value} {d:Dl} (hr:Rel E g w) (h:Pur P E w s d)
  (ho:execOp a.eval o=(do pure (.value (←s)))):StepOK P o a w E g nb d:=by
 intro hc K Q hk
 unfold Oper.wp
 rw [ho]
 simp only [Sem.run_bind,h.run hc,Result.andThen_ok,Sem.run_pure]
 exact hk E w (.refl h.wr h.nw hr)
theorem z6 {x:At} (h:x.cell=true):(x.den E).cells = #[x.den E]∧(x.den E).oneCell'=true:=by
 cases x with
 | opq v=>cases v <;> simp_all [At.cell,At.den,Value.cells,Value.oneCell']
 | _=>exact ⟨rfl,rfl⟩
theorem xz {v:LV} {l:List At} (h:xv v=some l):(v.den E).cells=(l.map (At.den E)).toArray∧(∀x∈l.map (At.den E),x.oneCell'=true):=by
 unfold xv at h
 split at h
 ·split at h
  ·rename_i x hx
   cases h
   obtain ⟨h1,h2⟩:=z6 (E:=E) hx
   exact ⟨by simp [LV.den,V1.den,h1],by simpa using h2⟩
  ·cases h
 ·split at h
  ·rename_i x hx
   cases h
   refine ⟨rfl,fun y hy=> ?_⟩
   obtain ⟨z,hz,rfl⟩:=List.mem_map.1 hy
   exact (z6 (allCell_iff.1 hx z hz)).2
  ·cases h
 ·cases h
theorem xO {p:Nat→Bool} {v:LV} {l:List At} (h:xv v=some l) (hv:v.ok p=true):okL p l=true:=by
 unfold xv at h
 split at h
 ·split at h
  ·cases h;exact okL_iff.2 fun y hy=>by rw [List.mem_singleton] at hy;subst hy;exact hv
  ·cases h
 ·split at h
  ·cases h;exact hv
  ·cases h
 ·cases h
theorem qg {t:TypeId} {l:List At} (h:Qz P t=some l) (w:World):
  ∃z,(zeroValue t).run P w = .ok z w∧(∀E,z.cells=(l.map (At.den E)).toArray)∧(∀p,okL p l=true):=by
 unfold Qz at h
 split at h
 ·rename_i i hi
  split at h
  ·rename_i z hz
   have hrun:(zeroValue t).run P w = .ok z w:=by simp [zeroValue,typeInfo,hi,hz]
   split at h
   ·rename_i x hx
    cases h
    refine ⟨z,hrun,fun E=> ?_,fun p=> ?_⟩
    ·obtain ⟨h1,h2⟩:=xC hx
     have hc:x.cell=true:=by
      unfold jaF at hx
      split at hx
      ·split at hx <;> cases hx
      ·split at hx
       ·rename_i y hy;cases hx;exact (yJ hy).2.2
       ·cases hx
     rw [←h1 E]
     simpa [V1.den] using (z6 (E:=E) hc).1
    ·exact okL_iff.2 fun y hy=>by rw [List.mem_singleton] at hy;subst hy;exact (xC hx).2 p
   ·rename_i x hx
    cases h
    refine ⟨z,hrun,fun E=> ?_,fun p=>(xC hx).2 p⟩
    rw [←(xC hx).1 E]
    rfl
   ·cases h
  ·cases h
 ·cases h
theorem jlA {p:Nat→Bool} {b:Blk} (hr:Rel E g w) (hg:∀i c,g i=some c→p i=true∧okL p c.cells=true) (hn:p nb=false) (hb:okL p b.cells=true)
  (hes:b.es=0) (hfr:b.fr=(0,0)):
  Rel (fun i=>if i=nb then Loc.at w.heap.size 0 else E i) (fun j=>if j=nb then some b else g j) (w.alloc (.cells (b.cells.map (At.den E)).toArray b.ty)):=by
 have hag:∀i,p i=true→(fun i=>if i=nb then Loc.at w.heap.size 0 else E i) i=E i:=by
  intro i hi
  have:i≠nb:=fun e=>by rw [e,hn] at hi;cases hi
  simp [this]
 have hlt:∀i c,g i=some c→(E i).1<w.heap.size:=by
  intro i c hc
  obtain ⟨r,h1,_⟩:=hr.blk i c hc
  exact (Array.getElem?_eq_some_iff.1 h1).1
 refine ⟨fun i c hc=> ?_,fun i j hi hj he=> ?_⟩
 ·by_cases hin:i=nb
  ·subst hin
   simp only [if_true,Option.some.injEq] at hc
   subst hc
   refine ⟨[], ?_,fun _=>rfl,fun h=>absurd hes h⟩
   simp only [if_true,List.append_nil,List.nil_append,Option.getD_none]
   rw [kk hag hb,hfr]
   show (w.heap.push _)[w.heap.size]? = _
   simp
  ·simp only [if_neg hin] at hc
   obtain ⟨r,h1,h2,h3⟩:=hr.blk i c hc
   refine ⟨r, ?_,h2, ?_⟩
   ·rw [kk hag (hg i c hc).2]
    simp only [if_neg hin]
    rw [Below.heap_alloc _ _ _ (hlt i c hc)]
    exact h1
   ·simpa [if_neg hin] using h3
 ·by_cases hin:i=nb
  ·by_cases hjn:j=nb
   ·rw [hin,hjn]
   ·simp only [if_neg hjn,hin,if_true] at hj he
    obtain ⟨c,hc⟩:=Option.isSome_iff_exists.1 hj
    have:=hlt j c hc
    omega
  ·by_cases hjn:j=nb
   ·simp only [if_neg hin,hjn,if_true] at hi he
    obtain ⟨c,hc⟩:=Option.isSome_iff_exists.1 hi
    have:=hlt i c hc
    omega
   ·simp only [if_neg hin,if_neg hjn] at hi hj he
    exact hr.inj i j hi hj he
theorem YY {p:Nat→Bool} {b:Blk} {v:LV} {cs:List (Bool×Bool)} {rd:List Nat} (hr:Rel E g w) (hg:∀i c,g i=some c→p i=true∧okL p c.cells=true) (hn:p nb=false) (hb:okL p b.cells=true)
  (hes:b.es=0) (hfr:b.fr=(0,0)):
  Post w E g nb ⟨v,[],[b],rd,cs⟩ (fun i=>if i=nb then Loc.at w.heap.size 0 else E i) (w.alloc (.cells (b.cells.map (At.den E)).toArray b.ty)):=by
 refine ⟨fun i hi=> ?_,jlA hr hg hn hb hes hfr,rfl,rfl,rfl,by simp,fun k hk _=>Below.heap_alloc _ _ _ hk,fun i h1 h2=> ?_⟩
 ·simp at hi;rw [if_neg (by omega)]
 ·simp at h2;left;rw [if_pos (by omega)];exact Nat.le_refl _
theorem jbx {p:Nat→Bool} {o:Oper} {t:TypeId} {d:Dl} (ho:o.op = .alloc t) (h:Zt P nb t=some d) (hr:Rel E g w) (hg:∀i c,g i=some c→p i=true∧okL p c.cells=true) (hn:∀i,nb≤i→i<nb+d.nw.length→p i=false):
  StepOK P o a w E g nb d:=by
 unfold Zt at h
 split at h
 ·rename_i l hl
  cases h
  intro _ K Q hk
  obtain ⟨z,h1,h2,h3⟩:=qg hl w
  unfold Oper.wp execOp
  simp only [ho,Sem.run_bind,Instr.alloc,h1,Result.andThen_ok,newVar,newRow,run_newObj_alloc,Sem.run_pure,h2 E]
  have:=hk _ _ (YY (v:= .v (.one (.ptr nb 0))) (cs:=[]) (rd:=[]) (b:=⟨t,(0,0),0,l⟩) hr hg (hn nb (Nat.le_refl _) (by simp)) (h3 p) rfl rfl)
  simpa [LV.den,V1.den,At.den,Oper.upon] using this
 ·cases h
theorem jfN {p:Nat→Bool} {o:Oper} {t:TypeId} {x:Operand} {v:LV} {d:Dl} (ho:o.op = .box t x) (hx:a.eval x=v.den E) (hv:v.ok p=true) (h:jor nb t v=some d) (hr:Rel E g w)
  (hg:∀i c,g i=some c→p i=true∧okL p c.cells=true) (hn:∀i,nb≤i→i<nb+d.nw.length→p i=false):StepOK P o a w E g nb d:=by
 unfold jor at h
 split at h
 ·rename_i l hl
  cases h
  intro _ K Q hk
  obtain ⟨h1,_⟩:=xz (E:=E) hl
  unfold Oper.wp execOp
  simp only [ho,Sem.run_bind,Instr.box,hx,Result.andThen_ok,newVar,newRow,run_newObj_alloc,Sem.run_pure,h1]
  have:=hk _ _ (YY (v:= .v (.one (.ptr nb 0))) (cs:=[]) (rd:=[]) (b:=⟨t,(0,0),0,l⟩) hr hg (hn nb (Nat.le_refl _) (by simp)) (xO hl hv) rfl rfl)
  simpa [LV.den,V1.den,At.den,Oper.upon] using this
 ·cases h
theorem jby (b o:Nat):(LV.v (V1.one (At.ptr b o))).den E = .pointer (some ⟨(E b).1,o+(E b).pre.length,none⟩):=rfl
theorem z7 {i:Nat} {b:Blk} (h:blkAt E i b w) {o:Nat} {x:At} (hx:b.cells[o]? = some x):w.cell? ⟨(E i).1,o+(E i).pre.length,none⟩=some (x.den E):=by
 obtain ⟨r,h1,_⟩:=h
 have hlt:o<b.cells.length:=(List.getElem?_eq_some_iff.1 hx).1
 simp only [World.cell?,h1]
 have he:b.cells[o]=x:=by rw [List.getElem?_eq_getElem hlt] at hx;exact Option.some.inj hx
 rw [List.append_assoc,List.append_assoc,List.getElem?_toArray,List.getElem?_append_right (by omega),Nat.add_sub_cancel]
 simp [List.getElem?_append_left,hlt,he]
theorem zC {t:TypeId} {i o:Nat} {b:Blk} {x:V1} (hb:blkAt E i b w) (h:xI P t b.cells o=some x):(loadVar t ⟨(E i).1,o+(E i).pre.length,none⟩).run P w = .ok (x.den E) w:=by
 unfold xI at h
 split at h
 ·rename_i ha
  split at h
  ·rename_i n hn
   split at h
   ·rename_i r hr
    cases h
    obtain ⟨e,hl⟩:=yK hr
    have hlen:(r.map (At.den E)).length=n:=by rw [e];simp;omega
    have:=run_loadCells_list (P:=P) w ⟨(E i).1,o+(E i).pre.length,none⟩ (r.map (At.den E)) (fun j v hv=>by
     simp only [List.getElem?_map,Option.map_eq_some_iff] at hv
     obtain ⟨y,hy,rfl⟩:=hv
     rw [kt,show o+(E i).pre.length+j=o+j+(E i).pre.length by omega]
     refine z7 hb ?_
     rw [e] at hy
     have hj:j<n:=by
      have:=(List.getElem?_eq_some_iff.1 hy).1
      simp at this;omega
     rw [List.getElem?_take_of_lt hj,List.getElem?_drop] at hy
     exact hy)
    rw [hlen] at this
    simp [loadVar,J4 ha,jQ hn,this,V1.den]
   ·cases h
  ·cases h
 ·rename_i ha
  split at h
  ·rename_i y hy
   cases h
   rw [z4] at hy
   have:=z7 hb hy
   simp [loadVar,J4 ha,this,V1.den]
  ·cases h
 ·cases h
theorem jdw {t:TypeId} {v:LV} {d:Dl} (hr:Rel E g w) (h:QC P t v g=some d):Pur P E w (Instr.loadAt t (v.den E)) d:=by
 unfold QC at h
 split at h
 ·rename_i b o
  split at h
  ·rename_i k hk
   split at h
   ·rename_i x hx
    cases h
    have:=zC (hr.blk b k hk) hx
    exact ⟨rfl,rfl,fun _=>by simp [Instr.loadAt,LV.den,V1.den,At.den,Instr.sureAddr,this]⟩
   ·cases h
  ·cases h
 ·cases h
theorem Jx {k l:IntKind} (h:QA k l=true):k=l:=by
 cases k <;> cases l <;> first | rfl | (exact absurd h (by decide))
theorem Z8:∀(l:List At) (o n:Nat) (a:At) (r:List At),atS l o=some a→Yl l (o+1) n=some r→Yl l o (n+1)=some (a::r)
 | [],o,n,a,r,h,_=>by simp [atS] at h
 | b::l,0,n,a,r,h,h2=>by
  simp only [atS,Option.some.injEq] at h
  subst h
  simp only [Yl] at h2 ⊢
  rw [h2]
 | b::l,o+1,n,a,r,h,h2=>by
  simp only [atS] at h
  simp only [Yl] at h2 ⊢
  exact Z8 l o n a r h h2
theorem jie (l:List At) (o n:Nat) (a:At) (r:List At) (h:atL l o=some a) (k:cut l (o+1) n=some r):cut l o (n+1)=some (a::r):=by
 rw [jfH] at h
 rw [jfG] at k ⊢
 exact Z8 l o n a r h k
theorem zD {k:IntKind} {l:List At} {o:Nat} (h:isIntAt k l o=true):atL l o=some (.int k (jo l o)):=by
 unfold isIntAt at h
 split at h
 ·rename_i k' n hn
  have:=Jx h
  subst this
  rw [hn]
  simp only [jo,hn]
 ·cases h
theorem YZ {l:List At} {o:Nat} (h:Ym l o=true):atL l o=some (.bool (jem l o)):=by
 unfold Ym at h
 split at h
 ·rename_i n hn
  rw [hn]
  simp only [jem,hn]
 ·cases h
theorem Z9:∀(l:List At) (o:Nat),o≤l.length→Yl l o 0=some []
 | l,0,_=>by cases l <;> rfl
 | [],o+1,h=>by simp at h
 | b::l,o+1,h=>by simp only [Yl];exact Z9 l o (by simpa using h)
theorem jif (l:List At) (o:Nat) (h:o≤l.length):cut l o 0=some []:=by rw [jfG];exact Z9 l o h
theorem jaa {l:List At} {o:Nat} {a:At} (h:atL l o=some a):o<l.length:=by
 rw [z4] at h
 exact (List.getElem?_eq_some_iff.1 h).1
theorem Q8:∀(n o:Nat) (l:List At),o≤l.length→qT l o n=true→cut l o n=some (jq l o n)
 | 0,o,l,h,_=>jif l o h
 | n+1,o,l,_,h=>by
  simp only [qT,Bool.and_eq_true] at h
  have ha:=zD h.1
  exact jie l o n _ _ ha (Q8 n (o+1) l (jaa ha) h.2)
theorem jdx {t:TypeId} {l:List At} {o:Nat} {x:V1} {cs:List (Bool×Bool)} (h:jen P t l o=some (x,cs)) (hc:∀c∈cs,c.1=c.2):xI P t l o=some x:=by
 unfold jen at h
 unfold xI
 split at h
 ·rename_i ha
  split at h
  ·rename_i n hn
   cases h
   have h1:(qT l o n&&decide (n≠0))=true:=hc _ (List.mem_singleton.2 rfl)
   cases n with
   | zero=>exact absurd h1 (by simp)
   | succ n=>
    simp only [Bool.and_eq_true,decide_eq_true_eq] at h1
    have h2:o≤l.length:=by
     have:qT l o (n+1)=true:=h1.1
     simp only [qT,Bool.and_eq_true] at this
     exact Nat.le_of_lt (jaa (zD this.1))
    simp only [Q8 (n+1) o l h2 h1.1]
  ·cases h
 ·rename_i ha
  split at h
  ·cases h
   simp only [zD (hc _ (List.mem_singleton.2 rfl))]
  ·cases h
   simp only [YZ (hc _ (List.mem_singleton.2 rfl))]
  ·cases h
 ·cases h
theorem jbz {t:TypeId} {v:LV} {d:Dl} (hr:Rel E g w) (h:KG P t v g=some d):Pur P E w (Instr.loadAt t (v.den E)) d:=by
 unfold KG at h
 split at h
 ·rename_i b o
  split at h
  ·rename_i k hk
   split at h
   ·rename_i x cs hx
    cases h
    exact ⟨rfl,rfl,fun hc=>by
     have:=zC (hr.blk b k hk) (jdx hx hc)
     simp [Instr.loadAt,LV.den,V1.den,At.den,Instr.sureAddr,this]⟩
   ·cases h
  ·cases h
 ·exact jdw hr h
theorem jfO {pre l vs rest:List Value} {off:Nat} (hle:off+vs.length≤l.length):
  List.take (off+pre.length) (pre++(l++rest))++(vs++List.drop (off+pre.length+vs.length) (pre++(l++rest)))=pre++(List.take off l++(vs++(List.drop (off+vs.length) l++rest))):=by
 have e1:List.take (off+pre.length) (pre++(l++rest))=pre++List.take off l:=by
  rw [List.take_append,List.take_of_length_le (show pre.length≤off+pre.length by omega),Nat.add_sub_cancel,List.take_append_of_le_length (by omega)]
 have e2:List.drop (off+pre.length+vs.length) (pre++(l++rest))=List.drop (off+vs.length) l++rest:=by
  rw [List.drop_append,List.drop_of_length_le (show pre.length≤off+pre.length+vs.length by omega),List.nil_append,show off+pre.length+vs.length - pre.length=off+vs.length by omega,List.drop_append_of_le_length hle]
 rw [e1,e2,List.append_assoc]
theorem Jy {o:Oper} {t:TypeId} {x y:Operand} {u v:LV} {d:Dl} (ho:o.op = .store t x y) (hx:a.eval x=u.den E) (hy:a.eval y=v.den E)
  (h:zb P t u v g=some d) (hr:Rel E g w):StepOK P o a w E g nb d:=by
 unfold zb at h
 split at h
 ·rename_i b off
  split at h
  ·rename_i ty es l hk
   split at h
   ·rename_i vs n hvs hn
    split at h
    ·rename_i r hlen hlay
     cases h
     intro _ K Q hk'
     obtain ⟨c1,c2⟩:=xz (E:=E) hvs
     obtain ⟨e,hle⟩:=z5 hlay
     obtain ⟨rest,h1,h2,h3⟩:=hr.blk b _ hk
     rw [xi,yV] at hlen
     have hlen':vs.length=n:=by simpa using hlen
     have hst:=run_storeCells_at P (E b).1 (off+(E b).pre.length) ((E b).ty.getD ty) (vs.map (At.den E)) 0 ((E b).pre++l.map (At.den E)++rest++(E b).suf).toArray w h1 (by simp;omega) c2
     have hrun:(Instr.storeAt t (a.eval x) (a.eval y)).run P w = .ok () (w.setRow (E b).1 ((E b).pre++(r.map (At.den E))++rest++(E b).suf).toArray):=by
      rw [hx,hy,jby]
      simp only [Instr.storeAt,Instr.sureAddr,Sem.run_bind,Sem.run_pure,Result.andThen_ok,storeVar,jQ hn]
      rw [c1]
      simp only [List.size_toArray,List.length_map,hlen',ne_eq,not_true_eq_false,if_false]
      rw [hst]
      congr 3
      subst e
      have hl2:off+(vs.map (At.den E)).length≤(l.map (At.den E)).length:=by simpa using hle
      have:=jfO (pre:=(E b).pre) (rest:=rest++(E b).suf) hl2
      simpa using this
     unfold Oper.wp execOp
     simp only [ho,Sem.run_bind,hrun,Result.andThen_ok,Sem.run_pure]
     have hr2:Rel E (nwG (wrG g [(b,some ⟨ty,(0,0),es,r⟩)]) nb []) (w.setRow (E b).1 ((E b).pre++(r.map (At.den E))++rest++(E b).suf).toArray):=by
      refine ⟨fun i c hc=> ?_,fun i j hi hj he=>hr.inj i j ?_ ?_ he⟩
      ·simp only [nwG,wrG] at hc
       by_cases hib:i=b
       ·subst hib
        simp only [if_true,Option.some.injEq] at hc
        subst hc
        refine ⟨rest,setRow_heap w _ _ _ _ (0,0) h1,h2,fun hh=> ?_⟩
        have:=h3 hh
        subst e
        simp at this ⊢
        omega
       ·simp only [if_neg hib] at hc
        obtain ⟨r',g1,g2,g3⟩:=hr.blk i c hc
        refine ⟨r', ?_,g2,g3⟩
        rw [setRow_other]
        ·exact g1
        ·intro hh
         exact hib (hr.inj i b (by simp [hc]) (by simp [hk]) hh)
      ·simp only [nwG,wrG] at hi
       by_cases hib:i=b
       ·subst hib;simp [hk]
       ·simpa [if_neg hib] using hi
      ·simp only [nwG,wrG] at hj
       by_cases hib:j=b
       ·subst hib;simp [hk]
       ·simpa [if_neg hib] using hj
     exact hk' E _ ⟨fun _ _=>rfl,hr2,rfl,rfl,rfl,by simp [World.setRow],fun k _ hne=>setRow_other _ _ _ _ (fun hh=>hne b (by simp [hk]) hh.symm),fun i i1 i2=>by simp at i2;omega⟩
    ·cases h
   ·cases h
  ·cases h
 ·cases h
theorem jcN:∀(l:List At) (o:Nat) (x:At),o<l.length→XK l o [x]=some (l.set o x)
 | [],o,x,h=>by simp at h
 | a::l,0,x,_=>by cases l <;> rfl
 | a::l,o+1,x,h=>by
  simp only [XK,List.set_cons_succ]
  rw [jcN l o x (by simpa using h)]
theorem jlB (l:List At) (o:Nat) (x:At) (h:o<l.length):lay l o [x]=some (l.set o x):=by rw [jjI];exact jcN l o x h
theorem jdy {u:LV} {b o:Nat} (h:jko u=some (b,o)):u = .v (.one (.ptx b o)):=by
 unfold jko at h
 split at h
 ·cases h;rfl
 ·cases h
theorem Jz {t:TypeId} {b o:Nat} {v:LV} {d:Dl} (h:jb7 P t b o v g=some d):
  ∃ty es l x,g b=some ⟨ty,(0,0),es,l⟩∧v = .v (.one x)∧kY P t=some 1∧x.cell=true∧d=⟨xt,[(b,some ⟨ty,(0,0),es,l.set o x⟩)],[],[],[(decide (o<l.length),true)]⟩:=by
 unfold jb7 at h
 split at h
 ·rename_i ty es l hk
  split at h
  ·rename_i x hs
   split at h
   ·rename_i hx
    cases h
    exact ⟨ty,es,l,x,hk,rfl,hs,hx,rfl⟩
   ·cases h
  ·cases h
 ·cases h
theorem jbA {o:Oper} {t:TypeId} {x y:Operand} {u v:LV} {d:Dl} (ho:o.op = .store t x y) (hx:a.eval x=u.den E) (hy:a.eval y=v.den E)
  (h:KH P t u v g=some d) (hr:Rel E g w):StepOK P o a w E g nb d:=by
 unfold KH at h
 split at h
 ·rename_i b off hu
  have hu:=jdy hu
  subst hu
  split at h
  ·exact Jy (u:= .v (.one (.ptr b off))) ho (by rw [hx];rfl) hy h hr
  obtain ⟨ty,es,l,z,hk,rfl,hs,hz,rfl⟩:=Jz h
  intro hc K Q hK
  have hlt:off<l.length:=by
   have:=hc _ (List.mem_singleton.2 rfl)
   simpa using this
  have h2:zb P t (.v (.one (.ptr b off))) (.v (.one z)) g=some ⟨xt,[(b,some ⟨ty,(0,0),es,l.set off z⟩)],[],[],[]⟩:=by
   unfold zb
   simp only [hk,xv,hz,hs,jlB l off z hlt]
   rfl
  refine Jy (nb:=nb) (u:= .v (.one (.ptr b off))) (v:= .v (.one z)) ho (by rw [hx];rfl) hy h2 hr (by simp) K Q fun E' w' hp=> ?_
  exact hK E' w' ⟨hp.1,hp.2,hp.3,hp.4,hp.5,hp.6,hp.7,hp.8⟩
 ·exact Jy ho hx hy h hr
theorem jfP {b off:Nat} {ty:TypeId} {es:Nat} {l vs r:List At} (hr:Rel E g w) (hk:g b=some ⟨ty,(0,0),es,l⟩) (hlay:lay l off vs=some r) (hall:∀u∈vs.map (At.den E),u.oneCell'=true):
  ∃w',(storeCells ⟨(E b).1,off+(E b).pre.length,none⟩ (vs.map (At.den E))).run P w = .ok () w'∧∀v rd cs,Post w E g nb ⟨v,[(b,some ⟨ty,(0,0),es,r⟩)],[],rd,cs⟩ E w':=by
 obtain ⟨e,hle⟩:=z5 hlay
 obtain ⟨rest,h1,h2,h3⟩:=hr.blk b _ hk
 have hst:=run_storeCells_at P (E b).1 (off+(E b).pre.length) ((E b).ty.getD ty) (vs.map (At.den E)) 0 ((E b).pre++l.map (At.den E)++rest++(E b).suf).toArray w h1 (by simp;omega) hall
 refine ⟨w.setRow (E b).1 ((E b).pre++(r.map (At.den E))++rest++(E b).suf).toArray, ?_,fun v rd cs=> ?_⟩
 ·simp only [Nat.add_zero] at hst
  rw [hst]
  congr 3
  subst e
  have hl2:off+(vs.map (At.den E)).length≤(l.map (At.den E)).length:=by simpa using hle
  have:=jfO (pre:=(E b).pre) (rest:=rest++(E b).suf) hl2
  simpa using this
 ·have hr2:Rel E (nwG (wrG g [(b,some ⟨ty,(0,0),es,r⟩)]) nb []) (w.setRow (E b).1 ((E b).pre++(r.map (At.den E))++rest++(E b).suf).toArray):=by
   refine ⟨fun i c hc=> ?_,fun i j hi hj he=>hr.inj i j ?_ ?_ he⟩
   ·simp only [nwG,wrG] at hc
    by_cases hib:i=b
    ·subst hib
     simp only [if_true,Option.some.injEq] at hc
     subst hc
     refine ⟨rest,setRow_heap w _ _ _ _ (0,0) h1,h2,fun hh=> ?_⟩
     have:=h3 hh
     subst e
     simp at this ⊢
     omega
    ·simp only [if_neg hib] at hc
     obtain ⟨r',g1,g2,g3⟩:=hr.blk i c hc
     refine ⟨r', ?_,g2,g3⟩
     rw [setRow_other]
     ·exact g1
     ·intro hh
      exact hib (hr.inj i b (by simp [hc]) (by simp [hk]) hh)
   ·simp only [nwG,wrG] at hi
    by_cases hib:i=b
    ·subst hib;simp [hk]
    ·simpa [if_neg hib] using hi
   ·simp only [nwG,wrG] at hj
    by_cases hib:j=b
    ·subst hib;simp [hk]
    ·simpa [if_neg hib] using hj
  exact ⟨fun _ _=>rfl,hr2,rfl,rfl,rfl,by simp [World.setRow],fun k _ hne=>setRow_other _ _ _ _ (fun hh=>hne b (by simp [hk]) hh.symm),fun i i1 i2=>by simp at i2;omega⟩
theorem jbB {b:Nat} {ty:TypeId} {es:Nat} {l:List At} (hr:Rel E g w) (hk:g b=some ⟨ty,(0,0),es,l⟩) (hes:1≤es):l.length≤(E b).2*es:=by
 obtain ⟨r,-,-,h3⟩:=hr.blk b _ hk
 have:=h3 (by show es≠0;omega)
 simp only at this
 omega
theorem Qr {v:Option LV} {dflt n k:Nat} (h:kG v dflt n=some k) (hd:dflt≤n):k≤n:=by
 cases v with
 | none=>simp only [kG,Option.some.injEq] at h;omega
 | some v=>obtain ⟨_,_,hle⟩:=qf h;exact hle
theorem jdz {t e:TypeId} {s:Nat} {a:Addr} {n c h k:Nat} {lo hi:Option LV} (hu:P.underlying t=some (.slice e)) (hs:kY P e=some s) (hb:kG hi n c=some h) (hl:kG lo 0 h=some k):
  (Instr.sliceAt t (.slice (some a) n c) (lo.map (LV.den E)) (hi.map (LV.den E)) none).run P w = .ok (.slice (some (if c=k then a else a.add (k*s))) (h - k) (c - k)) w:=by
 have h1:=kS (P:=P) (E:=E) (w:=w) true hb hl
 simp only [Instr.sliceAt,Instr.slice,Sem.run_bind,run_underlying hu,Result.andThen_ok,h1,jQ hs,Sem.run_pure]
 by_cases hc:c=k
 ·simp [hc]
 ·simp [hc]
theorem X9 {v:Option LV} {dflt n m k:Nat} (h:kG v dflt n=some k) (hm:n≤m):kG v dflt m=some k:=by
 cases v with
 | none=>exact h
 | some v=>
  obtain ⟨i,rfl,hle⟩:=qf h
  simp only [kG]
  have:Nat.ble k m=true:=by rw [jaC];simp;omega
  show (match Nat.ble k m with | true=>some k | false=>none)=some k
  rw [this]
theorem jfQ {p:Nat→Bool} {b:Nat} {e:TypeId} {s:Nat} {l:List At} {n k:Nat} {v:LV} {cs:List (Bool×Bool)} {rd:List Nat} (hr:Rel E g w) (hg:∀i c,g i=some c→p i=true∧okL p c.cells=true) (hn:p nb=false)
  (hk:g b=some ⟨e,(0,0),s,l⟩) (hs:1≤s) (hl:l.length=n*s) (hkn:k≤n):
  ∃E',(∀i,p i=true→E' i=E i)∧Value.slice (some (if (E b).2=k then (⟨(E b).1,(E b).pre.length,none⟩:Addr) else (⟨(E b).1,(E b).pre.length,none⟩:Addr).add (k*s))) (n - k) ((E b).2 - k)=(At.slu nb (n - k)).den E'∧
   Post w E g nb ⟨v,[(b,none)],[⟨e,(0,0),s,l.drop (k*s)⟩],rd,cs⟩ E' w:=by
 obtain ⟨r,h1,h2,h3⟩:=hr.blk b _ hk
 have hcap:=h3 (by show s≠0;omega)
 simp only at hcap h1
 have hgne:∀j c,g j=some c→j≠nb:=fun j c hj e'=>by
  have:=(hg j c hj).1
  rw [e',hn] at this;cases this
 have hnb:g nb=none:=by
  cases h:g nb with
  | none=>rfl
  | some c=>exact absurd rfl (hgne nb c h)
 have key:∃L:Loc,L.blk=(E b).1∧Value.slice (some (if (E b).2=k then (⟨(E b).1,(E b).pre.length,none⟩:Addr) else (⟨(E b).1,(E b).pre.length,none⟩:Addr).add (k*s))) (n - k) ((E b).2 - k) = .slice (some ⟨L.blk,L.pre.length,none⟩) (n - k) L.cap∧
   ∃r':List Value,w.heap[L.blk]? = some (.cells (L.pre++(l.drop (k*s)).map (At.den E)++r'++L.suf).toArray (L.ty.getD e) (0,0))∧(l.drop (k*s)).length+r'.length=L.cap*s:=by
  by_cases hc:(E b).2=k
  ·have hlk:l.length≤k*s:=by rw [hl];exact Nat.mul_le_mul_right _ (by
    have:n*s≤k*s:=by rw [←hl,←hc];omega
    exact Nat.le_of_mul_le_mul_right this (by omega))
   refine ⟨⟨(E b).1,0,(E b).pre,l.map (At.den E)++r++(E b).suf,(E b).ty⟩,rfl, ?_,[], ?_, ?_⟩
   ·rw [if_pos hc,hc,Nat.sub_self]
   ·rw [List.drop_of_length_le hlk]
    simpa using h1
   ·rw [List.drop_of_length_le hlk];simp
  ·have hle:k*s≤l.length:=by rw [hl];exact Nat.mul_le_mul_right _ hkn
   refine ⟨⟨(E b).1,(E b).2 - k,(E b).pre++(l.take (k*s)).map (At.den E),(E b).suf,(E b).ty⟩,rfl, ?_,r, ?_, ?_⟩
   ·rw [if_neg hc,kt]
    simp [Nat.min_eq_left hle]
   ·show w.heap[(E b).1]? = _
    rw [h1]
    congr 3
    have:l.map (At.den E)=(l.take (k*s)).map (At.den E)++(l.drop (k*s)).map (At.den E):=by rw [←List.map_append,List.take_append_drop]
    rw [this]
    simp
   ·show _=((E b).2 - k)*s
    rw [List.length_drop,Nat.sub_mul]
    omega
 obtain ⟨L,hL1,hL2,r',hL3,hL4⟩:=key
 have hag:∀i,p i=true→(fun i=>if i=nb then L else E i) i=E i:=fun i hi=>by
  have:i≠nb:=fun e'=>by rw [e',hn] at hi;cases hi
  simp [this]
 refine ⟨fun i=>if i=nb then L else E i,hag, ?_,fun i hi=> ?_,⟨fun i c hc=> ?_,fun i j hi hj he=> ?_⟩,rfl,rfl,rfl,Nat.le_refl _,fun _ _ _=>rfl,fun i i1 i2=> ?_⟩
 ·rw [hL2];simp [At.den]
 ·simp at hi
  have:i≠nb:=by omega
  simp [this]
 ·simp only [nwG,wrG] at hc
  by_cases hin:i=nb
  ·subst hin
   simp only [if_true,Option.some.injEq] at hc
   subst hc
   refine ⟨r', ?_,fun h0=>absurd h0 (by show s≠0;omega),fun _=> ?_⟩
   ·simp only [if_true]
    rw [kk hag (okL_iff.2 fun a ha=>okL_iff.1 (hg b _ hk).2 a (List.mem_of_mem_drop ha))]
    exact hL3
   ·simp only [if_true];exact hL4
  ·simp only [if_neg hin] at hc
   by_cases hib:i=b
   ·rw [if_pos hib] at hc;cases hc
   ·rw [if_neg hib] at hc
    obtain ⟨r2,g1,g2,g3⟩:=hr.blk i c hc
    refine ⟨r2, ?_,g2, ?_⟩
    ·rw [kk hag (hg i c hc).2]
     simp only [if_neg hin];exact g1
    ·simpa [if_neg hin] using g3
 ·have hsome:∀q,(nwG (wrG g [(b,none)]) nb [⟨e,(0,0),s,l.drop (k*s)⟩] q).isSome→q≠nb→(g q).isSome∧q≠b:=by
   intro q hq hqn
   simp only [nwG,wrG,if_neg hqn] at hq
   by_cases hqb:q=b
   ·rw [if_pos hqb] at hq;cases hq
   ·rw [if_neg hqb] at hq;exact ⟨hq,hqb⟩
  by_cases hin:i=nb
  ·by_cases hjn:j=nb
   ·rw [hin,hjn]
   ·obtain ⟨q1,q2⟩:=hsome j hj hjn
    simp only [hin,if_true,if_neg hjn] at he
    exact absurd (hr.inj b j (by simp [hk]) q1 (hL1.symm.trans he)).symm q2
  ·obtain ⟨q1,q2⟩:=hsome i hi hin
   by_cases hjn:j=nb
   ·simp only [if_neg hin,hjn,if_true] at he
    exact absurd (hr.inj i b q1 (by simp [hk]) (he.trans hL1)) q2
   ·obtain ⟨q3,q4⟩:=hsome j hj hjn
    simp only [if_neg hin,if_neg hjn] at he
    exact hr.inj i j q1 q3 he
 ·simp at i2
  have:i=nb:=by omega
  subst this
  exact .inr ⟨b,by simp [hk],by simp [hL1]⟩
end
end Go.Lr

/- The local evaluator's literals, function values, choices; what its operations name. -/
set_option linter.unusedVariables false
set_option linter.unusedSimpArgs false
namespace Go.Lr
open Go.RowKit
theorem jcO (o:Nat):∀(vs:List Value) (k:Nat) (l:List Value),o+k+vs.length≤l.length→
  (vs.zipIdx k).foldl (fun (cs:Array Value) (x:Value×Nat)=>cs.setIfInBounds (o+x.2) x.1) l.toArray=(l.take (o+k)++vs++l.drop (o+k+vs.length)).toArray
 | [],k,l,_=>by simp
 | v::vs,k,l,h=>by
  simp only [List.zipIdx_cons,List.foldl_cons,List.setIfInBounds_toArray]
  rw [jcO o vs (k+1) (l.set (o+k) v) (by simp at h ⊢;omega)]
  have e:=list_seg_step l (o+k) v vs (by simp at h ⊢;omega)
  simp only [List.length_cons]
  rw [show o+(k+1)=o+k+1 by omega,e,show o+k+(vs.length+1)=o+k+1+vs.length by omega]
section
variable {P:Program} {E:Env} {τ:Nat→LV} {a:Act} {w:World} {g:Nat→Option Blk} {nb:Nat}
theorem jcP {cells r vs:List At} {o:Nat} (h:lay cells o vs=some r):
  ((vs.map (At.den E)).toArray.zipIdx.foldl (fun (cs:Array Value) (x:Value×Nat)=>cs.setIfInBounds (o+x.2) x.1) (cells.map (At.den E)).toArray)=(r.map (At.den E)).toArray:=by
 obtain ⟨e,hl⟩:=z5 h
 have:=jcO o (vs.map (At.den E)) 0 (cells.map (At.den E)) (by simpa using hl)
 rw [←Array.foldl_toList]
 simp only [Array.toList_zipIdx]
 rw [this]
 subst e
 simp
theorem Ya {fs:List Field} (places:Array (Nat×Nat)) (hp:∀(i:Nat) (f:Field) (n:Nat),fs[i]? = some f→kY P f.type=some n→places[i]? = some (f.offset,n)):
  ∀{parts:List (Nat×LV)} {cells r:List At},Zu P fs cells parts=some r→
   Instr.fill (places[·]?) (cells.map (At.den E)).toArray (parts.map fun q=>(q.1,q.2.den E))=some (r.map (At.den E)).toArray
 | [],cells,r,h=>by simp only [Zu] at h;cases h;rfl
 | (i,v)::rest,cells,r,h=>by
  simp only [Zu] at h
  split at h
  ·rename_i f vs hf hvs
   split at h
   ·rename_i n hn
    split at h
    ·rename_i r' hlen hlay
     rw [qW] at hf
     rw [xi,yV] at hlen
     have hlen':vs.length=n:=by simpa using hlen
     obtain ⟨c1,_⟩:=xz (E:=E) hvs
     have ih:=Ya places hp h
     simp only [List.map_cons,Instr.fill,hp i f n hf hn,c1]
     obtain ⟨_,hle⟩:=z5 hlay
     rw [if_neg (by simp;omega)]
     rw [jcP hlay]
     exact ih
    ·cases h
   ·cases h
  ·cases h
theorem Ks {s:Nat}:∀{parts:List (Nat×LV)} {cells r:List At},Yn s cells parts=some r→
  Instr.fill (fun i=>some (i*s,s)) (cells.map (At.den E)).toArray (parts.map fun q=>(q.1,q.2.den E))=some (r.map (At.den E)).toArray
 | [],cells,r,h=>by simp only [Yn] at h;cases h;rfl
 | (i,v)::rest,cells,r,h=>by
  simp only [Yn] at h
  split at h
  ·rename_i vs hvs
   split at h
   ·rename_i r' hlen hlay
    rw [xi,yV] at hlen
    have hlen':vs.length=s:=by simpa using hlen
    obtain ⟨c1,_⟩:=xz (E:=E) hvs
    have ih:=Ks h
    simp only [List.map_cons,Instr.fill,c1]
    obtain ⟨_,hle⟩:=z5 hlay
    rw [if_neg (by simp;omega)]
    rw [jcP hlay]
    exact ih
   ·cases h
  ·cases h
theorem jcQ {p:Nat→Bool} {fs:List Field}:∀{parts:List (Nat×LV)} {cells r:List At},Zu P fs cells parts=some r→okL p cells=true→(∀q∈parts,q.2.ok p=true)→okL p r=true
 | [],cells,r,h,hc,_=>by simp only [Zu] at h;cases h;exact hc
 | (i,v)::rest,cells,r,h,hc,hq=>by
  simp only [Zu] at h
  split at h
  ·rename_i f vs hf hvs
   split at h
   ·split at h
    ·rename_i r' hlen hlay
     exact jcQ h (Z5 hlay hc (xO hvs (hq (i,v) (by simp)))) fun q hm=>hq q (by simp [hm])
    ·cases h
   ·cases h
  ·cases h
theorem Qs {p:Nat→Bool} {s:Nat}:∀{parts:List (Nat×LV)} {cells r:List At},Yn s cells parts=some r→okL p cells=true→(∀q∈parts,q.2.ok p=true)→okL p r=true
 | [],cells,r,h,hc,_=>by simp only [Yn] at h;cases h;exact hc
 | (i,v)::rest,cells,r,h,hc,hq=>by
  simp only [Yn] at h
  split at h
  ·rename_i vs hvs
   split at h
   ·rename_i r' hlen hlay
    exact Qs h (Z5 hlay hc (xO hvs (hq (i,v) (by simp)))) fun q hm=>hq q (by simp [hm])
   ·cases h
  ·cases h
theorem jdA:∀{fs:List Field},jhk P fs=true→∃sz:Field→Nat,∀f∈fs,kY P f.type=some (sz f):=by
 intro fs h
 refine ⟨fun f=>(kY P f.type).getD 0, ?_⟩
 induction fs with
 | nil=>simp
 | cons f l ih=>
  simp only [jhk] at h
  split at h
  ·rename_i n hn
   intro f' hf'
   rcases List.mem_cons.1 hf' with rfl | hf'
   ·simp [hn]
   ·exact ih h f' hf'
  ·cases h
theorem jcR {α β:Type} (f:α→Sem β) (r:α→β) (w:World):∀(l:List α),(∀x∈l,(f x).run P w = .ok (r x) w)→(l.mapM f).run P w = .ok (l.map r) w
 | [],_=>by simp
 | x::l,h=>by
  simp only [List.mapM_cons,Sem.run_bind,h x (by simp),Result.andThen_ok,jcR f r w l fun y hy=>h y (by simp [hy]),Sem.run_pure,List.map_cons]
theorem jfR {α β:Type} (f:α→Sem β) (r:α→β) (w:World) (l:Array α) (h:∀x∈l.toList,(f x).run P w = .ok (r x) w):(l.mapM f).run P w = .ok (l.map r) w:=by
 rw [Array.mapM_eq_mapM_toList]
 have:=jcR (P:=P) f r w l.toList h
 rcases l with ⟨l⟩
 simp at this
 simp [this]
theorem jbC {t:TypeId} {parts:List (Nat×LV)} {d:Dl} (h:Zv P t parts=some d):Pur P E w (Instr.build t (parts.map fun q=>(q.1,q.2.den E)).toArray) d:=by
 unfold Zv at h
 split at h
 ·rename_i z hz
  obtain ⟨zv,h1,h2,_⟩:=qg hz w
  split at h
  ·rename_i fs hu
   split at h
   ·rename_i l hsz hl
    cases h
    refine .of_run ?_
    obtain ⟨sz,hszs⟩:=jdA hsz
    have hm:=jfR (P:=P) (fun f:Field=>(do pure (f.offset,←sizeOf f.type):Sem (Nat×Nat))) (fun f=>(f.offset,sz f)) w fs (fun f hf=>by simp [jQ (hszs f hf)])
    have hf:=Ya (P:=P) (E:=E) (fs.map fun f=>(f.offset,sz f)) (fs:=fs.toList) (fun i f n hi hn=>by
     have hi':fs[i]? = some f:=by simpa using hi
     have:=hszs f (List.mem_of_getElem? hi)
     rw [hn] at this
     simp [hi',Option.some.inj this]) hl
    simp only [Instr.build,Sem.run_bind,h1,Result.andThen_ok,run_underlying hu,hm,h2 E]
    rw [hf]
    rfl
   ·cases h
  ·rename_i n e hu
   split at h
   ·rename_i s hs
    split at h
    ·rename_i l hl
     cases h
     refine .of_run ?_
     have hf:=Ks (E:=E) hl
     simp only [Instr.build,Sem.run_bind,h1,Result.andThen_ok,run_underlying hu,jQ hs,h2 E]
     rw [hf]
     rfl
    ·cases h
   ·cases h
  ·cases h
 ·cases h
theorem JA (z:List At) (hz:0<z.length):∀(n i:Nat),i<n*z.length→(kO z n)[i]? = z[i%z.length]?
 | 0,i,h=>by omega
 | n+1,i,h=>by
  simp only [kO]
  by_cases hi:i<z.length
  ·rw [List.getElem?_append_left hi,Nat.mod_eq_of_lt hi]
  ·have e:i%z.length=(i - z.length)%z.length:=Nat.mod_eq_sub_mod (by omega)
   rw [Nat.add_mul,Nat.one_mul] at h
   rw [List.getElem?_append_right (by omega),JA z hz n (i - z.length) (by omega),e]
theorem xP (z:List At):∀n,(kO z n).length=n*z.length
 | 0=>by simp [kO]
 | n+1=>by simp [kO,xP z n,Nat.add_mul,Nat.add_comm]
theorem z8 {p:Nat→Bool} {z:List At} (h:okL p z=true):∀n,okL p (kO z n)=true
 | 0=>rfl
 | n+1=>by
  rw [okL_iff] at *
  intro x hx
  simp only [kO,List.mem_append] at hx
  rcases hx with hx | hx
  ·exact h x hx
  ·exact okL_iff.1 (z8 (okL_iff.2 h) n) x hx
theorem Qa {p:Nat→Bool} {o:Oper} {t:TypeId} {n:Nat} {ps:Array (Nat×Operand)} {parts:List (Nat×LV)} {d:Dl} (ho:o.op = .buildSlice t n ps)
  (hps:ps.toList.map (fun (i,x)=>(i,a.eval x))=parts.map fun q=>(q.1,q.2.den E)) (hpo:∀q∈parts,q.2.ok p=true)
  (h:xJ P nb t n parts=some d) (hr:Rel E g w) (hg:∀i c,g i=some c→p i=true∧okL p c.cells=true) (hn:∀i,nb≤i→i<nb+d.nw.length→p i=false):StepOK P o a w E g nb d:=by
 unfold xJ at h
 split at h
 ·rename_i e hu
  split at h
  ·rename_i s z hs hz
   split at h
   ·rename_i l hb hzl hs1 hl
    cases h
    intro _ K Q hk
    rw [jaC] at hb hs1
    rw [xi,yV] at hzl
    have hb':n*s≤16777216:=by simpa using hb
    have hs1':1≤s:=by simpa using hs1
    have hzl':z.length=s:=by simpa using hzl
    obtain ⟨zv,h1,h2,h3⟩:=qg hz w
    have hf:=Ks (E:=E) hl
    have hps':(ps.map fun (i,x)=>(i,a.eval x)).toList=parts.map fun q=>(q.1,q.2.den E):=by rw [←hps];simp
    have hzero:(Array.range (n*s)).map ((z.map (At.den E)).toArray[· % (z.map (At.den E)).toArray.size]!)=((kO z n).map (At.den E)).toArray:=by
     apply Array.ext
     ·simp [xP,hzl']
     ·intro i hi1 hi2
      have hi:i<n*s:=by simpa using hi1
      have hlt:i%s<z.length:=by rw [hzl'];exact Nat.mod_lt _ hs1'
      have hget:=JA z (by omega) n i (by rw [hzl'];exact hi)
      rw [hzl',List.getElem?_eq_getElem hlt] at hget
      have hlt2:i<(kO z n).length:=by rw [xP,hzl'];exact hi
      rw [List.getElem?_eq_getElem hlt2] at hget
      have hget':=Option.some.inj hget
      have hsz:i%(z.map (At.den E)).toArray.size<(z.map (At.den E)).toArray.size:=by simpa [hzl'] using Nat.mod_lt i hs1'
      simp only [Array.getElem_map,Array.getElem_range]
      rw [getElem!_pos (z.map (At.den E)).toArray (i%(z.map (At.den E)).toArray.size) hsz]
      simp only [List.getElem_toArray,List.getElem_map,hget']
      simp [hzl']
    have hrun:(Instr.buildSlice t n (ps.map fun (i,x)=>(i,a.eval x))).run P w = .ok (.slice (some ⟨w.heap.size,0,none⟩) n n) (w.alloc (.cells (l.map (At.den E)).toArray e)):=by
     simp only [Instr.buildSlice,Sem.run_bind,run_underlying hu,Result.andThen_ok,jQ hs]
     rw [if_neg (by omega)]
     simp only [Sem.run_bind,Sem.run_ite,Sem.run_pure,h1,Result.andThen_ok,h2 E]
     by_cases h0:n*s=0
     ·have hn0:n=0:=by
       rcases Nat.mul_eq_zero.1 h0 with h | h
       ·exact h
       ·omega
      subst hn0
      simp only [Nat.zero_mul,if_true]
      simp only [kO,List.map_nil] at hf
      rw [hps']
      have he:(Array.range 0).map (fun x=>(#[]:Array Value)[x%(#[]:Array Value).size]!) = #[]:=by simp
      rw [he,hf]
      rfl
     ·simp only [if_neg h0]
      rw [hzero,hps',hf]
      rfl
    unfold Oper.wp execOp
    simp only [ho,Sem.run_bind,hrun,Result.andThen_ok,Sem.run_pure]
    have:=hk _ _ (YY (v:= .v (.one (.sl nb 0 n n))) (cs:=[]) (rd:=[]) (b:=⟨e,(0,0),0,l⟩) hr hg (hn nb (Nat.le_refl _) (by simp)) (Qs hl (z8 (h3 p) n) hpo) rfl rfl)
    simpa [LV.den,V1.den,At.den,Oper.upon] using this
   ·cases h
  ·cases h
 ·cases h
theorem Q9:∀{l:List LV} {r:List (Nat×Nat)},XL l=some r→l.map (LV.den E)=r.map fun p=>Value.pointer (some ⟨(E p.1).1,p.2+(E p.1).pre.length,none⟩)
 | [],r,h=>by cases h;rfl
 | x::l,r,h=>by
  unfold XL at h
  split at h
  ·rename_i he;cases he
  ·rename_i b o l' he
   cases he
   split at h
   ·rename_i r' hr
    cases h
    simp [Q9 hr,jby]
   ·cases h
  ·cases h
theorem jab {p:Nat→Bool}:∀{l:List LV} {r:List (Nat×Nat)},XL l=some r→(∀v∈l,v.ok p=true)→∀q∈r,p q.1=true
 | [],r,h,_=>by cases h;simp
 | x::l,r,h,hl=>by
  unfold XL at h
  split at h
  ·rename_i he;cases he
  ·rename_i b o l' he
   cases he
   split at h
   ·rename_i r' hr
    cases h
    simp only [List.mem_cons,forall_eq_or_imp]
    exact ⟨hl (.v (.one (.ptr b o))) (by simp),jab hr fun v hv=>hl v (by simp [hv])⟩
   ·cases h
  ·cases h
theorem Xv {f:Fn} {first:List Operand} {caps:List LV} {d:Dl} (h:zd f first caps=some d):
  Pur P E w (Instr.makeFunc f (first.map a.eval).toArray (caps.map (LV.den E)).toArray) d:=by
 unfold zd at h
 split at h
 ·rename_i f' l hl
  refine jX h ?_
  simp [Instr.makeFunc,At.den,Q9 (E:=E) hl]
 ·cases h
theorem xQ {pd:Option Bool} {t b:Bool} {cs:List (Bool×Bool)} (h:Zs pd t=some (b,cs)) (hc:∀c∈cs,c.1=c.2):t=b:=by
 unfold Zs at h
 split at h
 ·cases h;exact hc (t,b) (by simp)
 ·cases h;rfl
 ·cases h;rfl
theorem jdB (hτ:∀t,a.eval (.tmp t)=(τ t).den E) {pd:Option Bool} {c x y:Operand} {d:Dl} (h:jaH τ pd c x y=some d):
  d.wr=[]∧d.nw=[]∧((∀c∈d.cs,c.1=c.2)→(do pure (.value (if ←asBool (a.eval c) then a.eval x else a.eval y)):Sem Next).run P w = .ok (.value (d.val.den E)) w):=by
 unfold jaH at h
 split at h
 ·rename_i t ht
  have hcv:=kj hτ ht
  split at h
  ·rename_i cs hb
   split at h
   ·rename_i v hv
    cases h
    refine ⟨rfl,rfl,fun hc=> ?_⟩
    have:=xQ hb hc
    subst this
    rw [hcv,←kj hτ hv]
    simp [LV.den,V1.den,At.den,asBool]
   ·cases h
  ·rename_i cs hb
   split at h
   ·rename_i v hv
    cases h
    refine ⟨rfl,rfl,fun hc=> ?_⟩
    have:=xQ hb hc
    subst this
    rw [hcv,←kj hτ hv]
    simp [LV.den,V1.den,At.den,asBool]
   ·cases h
  ·cases h
 ·cases h
theorem Xw (t ty e ty0:TypeId) (i:TypeInfo) (ht:P.underlying t=some (.slice e)) (hi:P.info? e=some i) (G off n cap:Nat) (cells:Array Value) (hG:w.heap[G]? = some (.cells cells ty0 (0,0)))
  (A:Addr) (m c:Nat) (news:List Value) (hl:news.length=m*i.size) (hnews:∀j u,news[j]? = some u→w.cell? (A.add j)=some u) (h1:∀u∈news,u.oneCell'=true) (hroom:n+m≤cap) (hfit:off+n*i.size+news.length≤cells.size):
  (Builtin.append_ #[t,t] ty #[.slice (some ⟨G,off,none⟩) n cap,.slice (some A) m c]).run P w = .ok (.slice (some ⟨G,off,none⟩) (n+m) cap) (w.setRow G (cells.toList.take (off+n*i.size)++news++cells.toList.drop (off+n*i.size+news.length)).toArray):=by
 have hfc:=run_firstCells_some (P:=P) w i.size m A m c news hl hnews
 have hst:=run_storeCells_at P G (off+n*i.size) ty0 news 0 cells w hG (by simpa using hfit) h1
 simp only [Nat.add_zero] at hst
 simp [Builtin.append_,run_underlying ht,sizeOf,typeInfo,hi,Builtin.lenOf,hroom,hfc,Addr.add_lit,hst]
theorem jdC (t ty e:TypeId) (i:TypeInfo) (z:Value) (ht:P.underlying t=some (.slice e)) (hi:P.info? e=some i) (hz:i.zero=some z) (hzs:z.cells.size=i.size)
  (row:Option Nat) (v:Value) (n:Nat) (xs:List Value) (hx:xs.length=n*i.size)
  (hrow:(row=none∧(∃a0,v = .slice a0 0 0)∧n=0)∨(∃(L:Loc) (r:List Value),row=some L.blk∧v = .slice (some ⟨L.blk,L.pre.length,none⟩) n L.cap∧w.heap[L.blk]? = some (.cells (L.pre++xs++r++L.suf).toArray (L.ty.getD e) (0,0))∧xs.length+r.length=L.cap*i.size))
  (A:Addr) (m c:Nat) (news:List Value) (hl:news.length=m*i.size) (hnews:∀j u,news[j]? = some u→w.cell? (A.add j)=some u) (h1:∀u∈news,u.oneCell'=true)
  (hb:(n+m)*(i.bytes+1)≤140737488355328) (hm:row=none→1≤m):
  ∃(L:Loc) (r':List Value) (w':World),(Builtin.append_ #[t,t] ty #[v,.slice (some A) m c]).run P w = .ok (.slice (some ⟨L.blk,L.pre.length,none⟩) (n+m) L.cap) w'∧
   w'.heap[L.blk]? = some (.cells (L.pre++(xs++news)++r'++L.suf).toArray (L.ty.getD e) (0,0))∧xs.length+news.length+r'.length=L.cap*i.size∧w.grownBy w' row∧(row=some L.blk∨w.heap.size≤L.blk):=by
 have hb1:(n+m)*i.bytes≤140737488355328:=by rw [Nat.mul_add] at hb;omega
 have hb2:n+m≤140737488355328:=by rw [Nat.mul_add] at hb;omega
 rcases hrow with ⟨rfl,⟨a0,rfl⟩,rfl⟩ | ⟨⟨G,cap,pre,suf,oty⟩,r,rfl,rfl,hG,hcap⟩
 ·have hxs:xs=[]:=List.eq_nil_of_length_eq_zero (by simpa using hx)
  subst hxs
  have hm1:=hm rfl
  have hr:(Builtin.append_ #[t,t] ty #[.slice a0 0 0,.slice (some A) m c]).run P w = .ok (.slice (some ⟨w.heap.size,0,none⟩) m (grownCap w m 0 e)) (w.drew.alloc (.cells (news.toArray++Builtin.zeroCells z.cells (grownCap w m 0 e - m)) e)):=by
   cases a0 with
   | none=>exact run_append_nil (P:=P) w t ty e i z ht hi hz A m c news hl hnews (by omega) (by omega) (by have:=hb1;simp only [Nat.zero_add] at this;omega)
   | some a1=>
    have:=run_append_grow (P:=P) w t ty e i z ht hi hz a1 0 0 [] (by simp) (by simp) A m c news hl hnews (by omega) (by simp;omega) (growslice_fits (by omega) (by have:=hb1;simp only [Nat.zero_add] at this ⊢;omega))
    simpa only [Nat.zero_add,List.toArray,Array.empty_append] using this
  have hge:=grownCap_ge w m 0 e
  have hzl:(Builtin.zeroCells z.cells (grownCap w m 0 e - m)).toList.length=(grownCap w m 0 e - m)*i.size:=by rw [Array.length_toList,size_zeroCells,hzs]
  refine ⟨Loc.at w.heap.size (grownCap w m 0 e),(Builtin.zeroCells z.cells (grownCap w m 0 e - m)).toList,w.drew.alloc (.cells (news.toArray++Builtin.zeroCells z.cells (grownCap w m 0 e - m)) e),by rw [Nat.zero_add];exact hr, ?_, ?_,⟨rfl,rfl,rfl,by simp,fun k hk _=>Below.heap_alloc w.drew _ k hk⟩,.inr (Nat.le_refl _)⟩
  ·show (w.drew.alloc _).heap[w.drew.heap.size]? = _
   rw [heap_alloc_new]
   congr 2
   apply Array.ext'
   simp
  ·rw [hzl,hl]
   simp only [List.length_nil,Nat.zero_add]
   rw [←Nat.add_mul]
   show _=grownCap w m 0 e*i.size
   congr 1
   omega
 ·simp only at hG hcap
  by_cases hroom:n+m≤cap
  ·have hfit:pre.length+n*i.size+news.length≤(pre++xs++r++suf).toArray.size:=by
    simp only [List.size_toArray,List.length_append]
    have:(n+m)*i.size≤cap*i.size:=Nat.mul_le_mul_right _ hroom
    rw [Nat.add_mul] at this
    omega
   have hr:=Xw (P:=P) (w:=w) t ty e (oty.getD e) i ht hi G pre.length n cap (pre++xs++r++suf).toArray hG A m c news hl hnews h1 hroom hfit
   have hrl:news.length≤r.length:=by
    have:(n+m)*i.size≤cap*i.size:=Nat.mul_le_mul_right _ hroom
    rw [Nat.add_mul] at this
    omega
   have hlist:(pre++xs++r++suf).toArray.toList.take (pre.length+n*i.size)++news++(pre++xs++r++suf).toArray.toList.drop (pre.length+n*i.size+news.length)=pre++(xs++news)++r.drop news.length++suf:=by
    have e1:(pre++xs++r++suf).toArray.toList=(pre++xs)++(r++suf):=by simp
    have e2:(pre++xs).length=pre.length+n*i.size:=by simp [hx]
    rw [e1,←e2,List.take_left,List.drop_append,List.drop_of_length_le (by omega),List.nil_append,Nat.add_sub_cancel_left,List.drop_append_of_le_length hrl]
    simp
   rw [hlist] at hr
   refine ⟨⟨G,cap,pre,suf,oty⟩,r.drop news.length,w.setRow G (pre++(xs++news)++r.drop news.length++suf).toArray,hr,setRow_heap w G _ _ _ _ hG, ?_,⟨rfl,rfl,rfl,by simp [World.setRow],fun k _ hk=>setRow_other w G k _ (fun e=>hk (by simp [e]))⟩,.inl rfl⟩
   simp only [List.length_drop]
   omega
  ·have holds:∀j u,xs[j]? = some u→w.cell? ((⟨G,pre.length,none⟩:Addr).add j)=some u:=by
    intro j u hu
    rw [kt,cell_of_row w G (pre.length+j) _ _ (0,0) hG]
    obtain ⟨hlt,hu'⟩:=List.getElem?_eq_some_iff.1 hu
    rw [List.append_assoc,List.append_assoc,List.getElem?_toArray,List.getElem?_append_right (by omega),Nat.add_sub_cancel_left]
    simp [List.getElem?_append_left,hlt,hu']
   have hr:=run_append_grow (P:=P) w t ty e i z ht hi hz ⟨G,pre.length,none⟩ n cap xs hx holds A m c news hl hnews (by omega) (by omega) (growslice_fits (by omega) hb1)
   have hge:=grownCap_ge w (n+m) cap e
   have hzl:(Builtin.zeroCells z.cells (grownCap w (n+m) cap e - (n+m))).toList.length=(grownCap w (n+m) cap e - (n+m))*i.size:=by rw [Array.length_toList,size_zeroCells,hzs]
   refine ⟨Loc.at w.heap.size (grownCap w (n+m) cap e),(Builtin.zeroCells z.cells (grownCap w (n+m) cap e - (n+m))).toList,w.drew.alloc (.cells (xs.toArray++news.toArray++Builtin.zeroCells z.cells (grownCap w (n+m) cap e - (n+m))) e),hr, ?_, ?_,⟨rfl,rfl,rfl,by simp,fun k hk _=>Below.heap_alloc w.drew _ k hk⟩,.inr (Nat.le_refl _)⟩
   ·show (w.drew.alloc _).heap[w.drew.heap.size]? = _
    rw [heap_alloc_new]
    congr 2
    apply Array.ext'
    simp
   ·show _=grownCap w (n+m) cap e*i.size
    rw [hzl,hl,hx,←Nat.add_mul,←Nat.add_mul]
    congr 1
    omega
theorem jbD {s:Nat} {x:LV} {m b:Nat} {news:List At} {cs:List (Bool×Bool)} (hr:Rel E g w) (h:KJ g s x=some (m,news,b,cs)) (hc:∀c∈cs,c.1=c.2):
  ∃A c,x.den E = .slice (some A) m c∧news.length=m*s∧(∀j u,(news.map (At.den E))[j]? = some u→w.cell? (A.add j)=some u)∧(∀u∈news.map (At.den E),u.oneCell'=true)∧(∃k,g b=some k∧∀a∈news,a∈k.cells):=by
 have key:∀(b o m c:Nat) (k:Blk),g b=some k→o+m*s≤k.cells.length→xl ((k.cells.drop o).take (m*s))=true→
   ∃A c',Value.slice (some ⟨(E b).1,o+(E b).pre.length,none⟩) m c = .slice (some A) m c'∧((k.cells.drop o).take (m*s)).length=m*s∧
    (∀j u,(((k.cells.drop o).take (m*s)).map (At.den E))[j]? = some u→w.cell? (A.add j)=some u)∧(∀u∈((k.cells.drop o).take (m*s)).map (At.den E),u.oneCell'=true)∧(∃k',g b=some k'∧∀a∈(k.cells.drop o).take (m*s),a∈k'.cells):=by
  intro b o m c k hk hle hall
  refine ⟨_,c,rfl, ?_,fun j u hu=> ?_,fun u hu=> ?_,k,hk,fun a ha=>List.mem_of_mem_drop (List.mem_of_mem_take ha)⟩
  ·simp only [List.length_take,List.length_drop];omega
  ·rw [kt,show o+(E b).pre.length+j=o+j+(E b).pre.length by omega]
   rw [List.getElem?_map] at hu
   obtain ⟨x,hx,rfl⟩:=Option.map_eq_some_iff.1 hu
   refine z7 (hr.blk b k hk) ?_
   rw [List.getElem?_take] at hx
   split at hx
   ·rw [List.getElem?_drop] at hx;exact hx
   ·cases hx
  ·obtain ⟨x,hx,rfl⟩:=List.mem_map.1 hu
   exact (z6 (allCell_iff.1 hall x hx)).2
 unfold KJ at h
 split at h
 ·rename_i b o m c
  split at h
  ·rename_i k hk
   split at h
   ·rename_i l hcut
    split at h
    ·rename_i hall
     cases h
     obtain ⟨h1,h2⟩:=yK hcut
     subst h1
     exact key b o m c k hk h2 hall
    ·cases h
   ·cases h
  ·cases h
 ·rename_i b m
  split at h
  ·rename_i k hk
   split at h
   ·rename_i l hcut
    split at h
    ·rename_i hall
     cases h
     obtain ⟨h1,h2⟩:=yK hcut
     subst h1
     have:=key b 0 m (E b).2 k hk h2 hall
     rw [Nat.zero_add] at this
     exact this
    ·cases h
   ·cases h
  ·cases h
 ·rename_i b o m c
  split at h
  ·rename_i k hk
   cases h
   have:=hc _ (List.mem_singleton.2 rfl)
   simp only [Bool.and_eq_true,decide_eq_true_eq] at this
   exact key b o m c k hk this.1 this.2
  ·cases h
 ·cases h
theorem Y0:∀(l m:List At),jks l m=l++m
 | [],_=>rfl
 | a::l,m=>by simp [jks,Y0 l m]
theorem jbE {e:TypeId} {s:Nat} {x:LV} {n:Nat} {old:List At} {kill:Option Nat} (hr:Rel E g w) (h:Jk g e s x=some (n,old,kill)) (hs:1≤s):
  old.length=n*s∧(∀b,kill=some b→∃k,g b=some k∧∀a∈old,a∈k.cells)∧
  ((kill.map fun b=>(E b).1)=none∧(∃a0,x.den E = .slice a0 0 0)∧n=0∨
    ∃(L:Loc) (r:List Value),(kill.map fun b=>(E b).1)=some L.blk∧x.den E = .slice (some ⟨L.blk,L.pre.length,none⟩) n L.cap∧w.heap[L.blk]? = some (.cells (L.pre++old.map (At.den E)++r++L.suf).toArray (L.ty.getD e) (0,0))∧(old.map (At.den E)).length+r.length=L.cap*s):=by
 unfold Jk at h
 split at h
 ·cases h;exact ⟨by simp,by simp,.inl ⟨rfl,⟨none,rfl⟩,rfl⟩⟩
 ·rename_i b n'
  split at h
  ·rename_i ty es l hk
   split at h
   ·rename_i old' h1 h2 h3
    rw [xi] at h1 h2
    obtain ⟨h3,h4⟩:=yK h3
    simp only [decide_eq_true_eq] at h1 h2
    rw [List.drop_zero] at h3
    subst h1
    subst h2
    cases h
    obtain ⟨r,g1,g2,g3⟩:=hr.blk b _ hk
    have hlen:old.length=n*es:=by rw [h3,List.length_take];omega
    refine ⟨hlen,fun b' hb=>by cases hb;exact ⟨_,hk,fun a ha=>by rw [h3] at ha;exact List.mem_of_mem_take ha⟩,.inr ⟨E b,(l.drop (n*es)).map (At.den E)++r,rfl,rfl, ?_, ?_⟩⟩
    ·rw [g1]
     congr 3
     have:l.map (At.den E)=old.map (At.den E)++(l.drop (n*es)).map (At.den E):=by rw [h3,←List.map_append,List.take_append_drop]
     rw [this]
     simp
    ·have:=g3 (by show es≠0;omega)
     simp only at this
     simp only [List.length_map,List.length_append,List.length_drop,hlen]
     omega
   ·cases h
  ·cases h
 ·cases h;exact ⟨by simp,by simp,.inl ⟨rfl,⟨_,rfl⟩,rfl⟩⟩
 ·rename_i b n' c _
  split at h
  ·rename_i ty l hk
   split at h
   ·rename_i h1 h2 h3
    rw [xi] at h1 h2 h3
    rw [yV] at h3
    simp only [decide_eq_true_eq] at h1 h2 h3
    subst h1
    subst h2
    cases h
    obtain ⟨r,g1,g2,g3⟩:=hr.blk b _ hk
    have hr0:=g2 rfl
    subst hr0
    refine ⟨h3,fun b' hb=>by cases hb;exact ⟨_,hk,fun a ha=>ha⟩,.inr ⟨⟨(E b).1,n,(E b).pre,(E b).suf,(E b).ty⟩,[],rfl,by simp [LV.den,V1.den,At.den],g1,by simpa using h3⟩⟩
   ·cases h
  ·cases h
 ·cases h
theorem jad {p:Nat→Bool} {o:Oper} {c:Call} {args:List LV} {d:Dl} (ho:o.op = .call c) (hb:c.callee = .builtin .append) (hargs:c.args.map a.eval=(args.map (LV.den E)).toArray)
  (h:zg P nb g c.argTypes.toList args=some d) (hr:Rel E g w) (hg:∀i c,g i=some c→p i=true∧okL p c.cells=true) (hn:∀i,nb≤i→i<nb+d.nw.length→p i=false):StepOK P o a w E g nb d:=by
 unfold zg at h
 split at h
 ·rename_i t u s x hts
  split at h
  ·rename_i e htu hu
   rw [xi] at htu
   simp only [decide_eq_true_eq] at htu
   subst htu
   split at h
   ·rename_i i z hi hz
    split at h
    ·rename_i n old kill m news b cs hold hnews
     split at h
     ·rename_i q1 q2 q3
      cases h
      intro hc K Q hk
      rw [xi,yV] at q1
      rw [jaC] at q2
      simp only [decide_eq_true_eq] at q1 q2
      obtain ⟨zv,z1,z2,_⟩:=qg hz w
      have hcs:∀c∈cs,c.1=c.2:=fun c' hc'=>hc c' (List.mem_cons_of_mem _ hc')
      have hask:=hc _ (List.mem_cons_self ..)
      simp only [Bool.and_eq_true,jaC,decide_eq_true_eq] at hask
      obtain ⟨A,ca,hx,n1,n2,n3,kb,hkb,hmem⟩:=jbD hr hnews hcs
      obtain ⟨o1,o2,o3⟩:=jbE hr hold q2
      have hzero:∃z',i.zero=some z'∧z'.cells.size=i.size:=by
       unfold Qz at hz
       rw [hi] at hz
       simp only at hz
       split at hz
       ·rename_i z' hz'
        refine ⟨z',hz', ?_⟩
        have e1:(zeroValue e).run P w = .ok z' w:=by simp [zeroValue,typeInfo,hi,hz']
        rw [e1] at z1
        cases z1
        rw [z2 E]
        simpa using q1
       ·cases hz
      obtain ⟨z',hz',hzs⟩:=hzero
      have hm:(kill.map fun b=>(E b).1)=none→1≤m:=by
       intro hk0
       cases kill with
       | none=>have:=hask.2;simp only [jaN,jaC,decide_eq_true_eq] at this;exact this
       | some b=>cases hk0
      obtain ⟨L,r',w',hrun,h1,h2,h3,h4⟩:=jdC (P:=P) (w:=w) t o.type e i z' hu hi hz' hzs (kill.map fun b=>(E b).1) (s.den E) n (old.map (At.den E)) (by simpa using o1) o3
       A m ca (news.map (At.den E)) (by simpa using n1) n2 n3 hask.1 hm
      have hat:c.argTypes = #[t,t]:=by
       rcases c with ⟨_,_,⟨l⟩⟩
       simpa using hts
      have hex:(execOp a.eval o).run P w = .ok (.value (.slice (some ⟨L.blk,L.pre.length,none⟩) (n+m) L.cap)) w':=by
       have:execOp a.eval o=(do pure (.value (←Builtin.append_ #[t,t] o.type #[s.den E,x.den E]))):=by
        simp [execOp,ho,resolve,hb,hargs,hat,invoke,builtin]
       rw [this,hx]
       simp only [Sem.run_bind,hrun,Result.andThen_ok,Sem.run_pure]
      unfold Oper.wp
      rw [hex]
      have hpnb:p nb=false:=hn nb (Nat.le_refl _) (by simp)
      have hgnb:∀j,(g j).isSome→j≠nb:=fun j hj e=>by
       obtain ⟨b',hb'⟩:=Option.isSome_iff_exists.1 hj
       rw [e] at hb'
       have:=(hg nb b' hb').1
       rw [hpnb] at this
       cases this
      have hold_lt:∀j b',g j=some b'→(E j).1<w.heap.size:=fun j b' hj=>by
       obtain ⟨r,g1,_⟩:=hr.blk j b' hj
       exact (Array.getElem?_eq_some_iff.1 g1).1
      have hokN:okL p news=true:=okL_iff.2 fun a' ha'=>okL_iff.1 (hg b kb hkb).2 a' (hmem a' ha')
      have hokO:okL p old=true:=by
       cases kill with
       | none=>
        rcases o3 with ⟨_,_,hn0⟩ | ⟨L0,r,he,_⟩
        ·have:old=[]:=List.eq_nil_of_length_eq_zero (by rw [o1,hn0];simp)
         rw [this];rfl
        ·cases he
       | some kb'=>
        obtain ⟨k,hk1,hk2⟩:=o2 kb' rfl
        exact okL_iff.2 fun a' ha'=>okL_iff.1 (hg kb' k hk1).2 a' (hk2 a' ha')
      have hagE:∀j,p j=true→(if j=nb then L else E j)=E j:=fun j hj=>by
       rw [if_neg];intro e;rw [e,hpnb] at hj;cases hj
      have hlive:∀j b',nwG (wrG g (jaM kill)) nb [⟨e,(0,0),i.size,jks old news⟩] j=some b'→j≠nb→g j=some b'∧∀q,kill=some q→j≠q:=by
       intro j b' hj hne
       simp only [nwG,if_neg hne] at hj
       cases kill with
       | none=>exact ⟨hj,fun q hq=>by cases hq⟩
       | some q=>
        simp only [jaM,wrG] at hj
        split at hj
        ·cases hj
        ·rename_i hjq;exact ⟨hj,fun q' hq'=>by cases hq';exact hjq⟩
      have hrowne:∀j b',g j=some b'→(∀q,kill=some q→j≠q)→some (E j).1≠kill.map fun b=>(E b).1:=by
       intro j b' hj hq he
       cases kill with
       | none=>cases he
       | some q=>
        obtain ⟨k,hk1,_⟩:=o2 q rfl
        simp only [Option.map_some,Option.some.injEq] at he
        exact hq q rfl (hr.inj j q (by simp [hj]) (by simp [hk1]) he)
      have hGne:∀j b',g j=some b'→(∀q,kill=some q→j≠q)→(E j).1≠L.blk:=by
       intro j b' hj hq he
       rcases h4 with h4 | h4
       ·exact hrowne j b' hj hq (by rw [h4,he])
       ·have:=hold_lt j b' hj;omega
      have hpost:Post w E g nb ⟨.v (.one (.slu nb (n+m))),jaM kill,[⟨e,(0,0),i.size,jks old news⟩],b::jxj kill,(Nat.ble ((n+m)*(i.bytes+1)) 140737488355328&&jaN kill m,true)::cs⟩
        (fun j=>if j=nb then L else E j) w':=by
       refine ⟨fun j hj=> ?_,⟨fun j b' hj=> ?_,fun j k hj hk he=> ?_⟩,h3.os,h3.tape,h3.output,h3.size,fun k hk hne=>h3.block k hk ?_,fun j j1 j2=> ?_⟩
       ·simp only [List.length_cons,List.length_nil] at hj
        rw [if_neg (by omega)]
       ·by_cases hjn:j=nb
        ·subst hjn
         simp only [nwG,if_true,Option.some.injEq] at hj
         subst hj
         refine ⟨r', ?_,fun h0=> ?_,fun _=> ?_⟩
         ·simp only [if_true]
          rw [h1,Y0,List.map_append,kk hagE hokO,kk hagE hokN]
         ·exact absurd h0 (by show i.size≠0;omega)
         ·simp only [if_true,Y0]
          simpa using h2
        ·obtain ⟨hj1,hj2⟩:=hlive j b' hj hjn
         obtain ⟨r,g1,g2,g3⟩:=hr.blk j b' hj1
         refine ⟨r, ?_,g2, ?_⟩
         ·simp only [if_neg hjn]
          rw [h3.block _ (hold_lt j b' hj1) (hrowne j b' hj1 hj2),kk hagE (hg j b' hj1).2]
          exact g1
         ·simp only [if_neg hjn];exact g3
       ·obtain ⟨bj,hbj⟩:=Option.isSome_iff_exists.1 hj
        obtain ⟨bk,hbk⟩:=Option.isSome_iff_exists.1 hk
        by_cases hjn:j=nb
        ·by_cases hkn:k=nb
         ·rw [hjn,hkn]
         ·obtain ⟨k1,k2⟩:=hlive k bk hbk hkn
          simp only [if_pos hjn,if_neg hkn] at he
          exact absurd he.symm (hGne k bk k1 k2)
        ·obtain ⟨j1,j2⟩:=hlive j bj hbj hjn
         by_cases hkn:k=nb
         ·simp only [if_pos hkn,if_neg hjn] at he
          exact absurd he (hGne j bj j1 j2)
         ·obtain ⟨k1,k2⟩:=hlive k bk hbk hkn
          simp only [if_neg hjn,if_neg hkn] at he
          exact hr.inj j k (by simp [j1]) (by simp [k1]) he
       ·cases kill with
        | none=>simp
        | some q=>
         obtain ⟨kq,hk1,_⟩:=o2 q rfl
         simp only [Option.map_some,ne_eq,Option.some.injEq]
         exact fun he=>hne q (by simp [hk1]) he.symm
       ·simp only [List.length_cons,List.length_nil] at j2
        have:j=nb:=by omega
        subst this
        simp only [if_true]
        rcases h4 with h4 | h4
        ·right
         cases kill with
         | none=>cases h4
         | some q=>
          obtain ⟨kq,hk1,_⟩:=o2 q rfl
          simp only [Option.map_some,Option.some.injEq] at h4
          exact ⟨q,by simp [hk1],h4.symm⟩
        ·exact .inl h4
      have:=hk _ _ hpost
      simpa [LV.den,V1.den,At.den,Oper.upon] using this
     ·cases h
    ·cases h
   ·cases h
  ·cases h
 ·cases h
theorem Xa (t ty e:TypeId) (i:TypeInfo) (ht:P.underlying t=some (.slice e)) (hi:P.info? e=some i) (b:Option Addr) (n c:Nat) (hc:n≤c) (b':Option Addr) (c':Nat) (w:World):
  (Builtin.append_ #[t,t] ty #[.slice b n c,.slice b' 0 c']).run P w = .ok (.slice b n c) w:=by
 have hl:∀a w,(loadCells a 0).run P w = .ok #[] w:=fun a w=>by simpa using run_loadCells_list (P:=P) w a [] (by simp)
 cases b <;> cases b' <;> simp [Builtin.append_,run_underlying ht,sizeOf,typeInfo,hi,Builtin.lenOf,hc,Builtin.firstCells,storeCells,hl]
theorem jbF {args:List LV} {s:LV} (h:jes args=some s):∃x,args=[s,x]∧∀E:Env,∃b c,x.den E = .slice b 0 c:=by
 unfold jes at h
 split at h <;> (try (cases h;done)) <;> cases h <;> exact ⟨_,rfl,fun E=>⟨_,_,rfl⟩⟩
theorem zE {ts:List TypeId} {s:LV} {d:Dl} (h:Yr P g ts s=some d):
  ∃t e i,ts=[t,t]∧P.underlying t=some (.slice e)∧P.info? e=some i∧((s = .v (.one .nilsl)∧val1 .nilsl=some d)∨(∃b o n c k,s = .v (.one (.sl b o n c))∧g b=some k∧n≤c∧d=⟨.v (.one (.sl b o n c)),[],[],[b],[]⟩)∨
   ∃b n ty es l,s = .v (.one (.slu b n))∧g b=some ⟨ty,(0,0),es,l⟩∧1≤es∧n*es≤l.length∧d=⟨.v (.one (.slu b n)),[],[],[b],[]⟩):=by
 unfold Yr at h
 split at h
 ·rename_i t u
  split at h
  ·rename_i e htu hu
   rw [xi] at htu
   simp only [decide_eq_true_eq] at htu
   subst htu
   split at h
   ·rename_i i hi
    split at h
    ·exact ⟨_,e,i,rfl,hu,hi,.inl ⟨rfl,h⟩⟩
    ·rename_i b o n c
     split at h
     ·rename_i k hk hnc
      cases h
      rw [jaC] at hnc
      exact ⟨_,e,i,rfl,hu,hi,.inr (.inl ⟨b,o,n,c,k,rfl,hk,by simpa using hnc,rfl⟩)⟩
     ·cases h
    ·rename_i b n
     split at h
     ·rename_i ty es l s hk hs
      split at h
      ·rename_i q1 q2 q3
       cases h
       rw [xi] at q1
       rw [jaC] at q2 q3
       rw [yV] at q3
       simp only [decide_eq_true_eq] at q1 q2 q3
       subst q1
       exact ⟨_,e,i,rfl,hu,hi,.inr (.inr ⟨b,n,ty,es,l,rfl,hk,q2,q3,rfl⟩)⟩
      ·cases h
     ·cases h
    ·cases h
   ·cases h
  ·cases h
 ·cases h
theorem jae {p:Nat→Bool} {o:Oper} {c:Call} {args:List LV} {d:Dl} (ho:o.op = .call c) (hb:c.callee = .builtin .append) (hargs:c.args.map a.eval=(args.map (LV.den E)).toArray)
  (h:zh P nb g c.argTypes.toList args=some d) (hr:Rel E g w) (hg:∀i c,g i=some c→p i=true∧okL p c.cells=true) (hn:∀i,nb≤i→i<nb+d.nw.length→p i=false):StepOK P o a w E g nb d:=by
 unfold zh at h
 split at h
 ·rename_i s hs
  obtain ⟨x,hs,hx⟩:=jbF hs
  subst hs
  obtain ⟨b',c',hx⟩:=hx E
  obtain ⟨t,e,i,hts,hu,hi,hd⟩:=zE h
  have hat:c.argTypes = #[t,t]:=by
   rcases c with ⟨_,_,⟨l⟩⟩
   simpa using hts
  have hex:∀(b:Option Addr) (n cp:Nat),s.den E = .slice b n cp→n≤cp→(execOp a.eval o).run P w = .ok (.value (.slice b n cp)) w:=by
   intro b n cp hsd hnc
   have hrun:=Xa (P:=P) t o.type e i hu hi b n cp hnc b' c' w
   have:execOp a.eval o=(do pure (.value (←Builtin.append_ #[t,t] o.type #[s.den E,x.den E]))):=by
    simp [execOp,ho,resolve,hb,hargs,hat,invoke,builtin]
   rw [this,hsd,hx]
   simp only [Sem.run_bind,hrun,Result.andThen_ok,Sem.run_pure]
  rcases hd with ⟨rfl,hd⟩ | ⟨b,o',n,cp,k,rfl,hk,hnc,rfl⟩ | ⟨b,n,ty,es,l,rfl,hk,hes,hle,rfl⟩
  ·cases hd
   intro hc K Q hK
   unfold Oper.wp
   rw [hex none 0 0 rfl (Nat.le_refl _)]
   exact hK E w (.refl rfl rfl hr)
  ·intro hc K Q hK
   unfold Oper.wp
   rw [hex _ n cp rfl hnc]
   exact hK E w (.refl rfl rfl hr)
  ·intro hc K Q hK
   unfold Oper.wp
   have hcap:=jbB hr hk hes
   have hn:n≤(E b).2:=Nat.le_of_mul_le_mul_right (Nat.le_trans hle hcap) (by omega)
   rw [hex _ n _ rfl hn]
   exact hK E w (.refl rfl rfl hr)
 ·exact jad ho hb hargs h hr hg hn
theorem jbG {p:Nat→Bool} {o:Oper} {t:TypeId} {c:Bool} {b n:Nat} {lo hi:Option LV} {d:Dl} {s:Sem Value} (ho:execOp a.eval o=(do pure (.value (←s))))
  (hs0:s=Instr.sliceAt t ((At.slu b n).den E) (lo.map (LV.den E)) (hi.map (LV.den E)) none) (h:Jj P g nb t c b n lo hi=some d) (hr:Rel E g w)
  (hg:∀i c,g i=some c→p i=true∧okL p c.cells=true) (hn:∀i,nb≤i→i<nb+d.nw.length→p i=false):StepOK P o a w E g nb d:=by
 unfold Jj at h
 split at h
 ·rename_i e hu
  split at h
  ·rename_i s' ty es l hs hk
   split at h
   ·rename_i hh q1 q2 q3 hb
    rw [xi] at q1 q2
    rw [jaC] at q3
    simp only [decide_eq_true_eq] at q1 q2 q3
    rw [yV] at hb
    subst q1
    subst q2
    have hcap:=jbB hr hk q3
    have hdiv:l.length/es≤(E b).2:=by
     have:l.length/es*es≤(E b).2*es:=Nat.le_trans (Nat.div_mul_le_self _ _) hcap
     exact Nat.le_of_mul_le_mul_right this (by omega)
    have hb':=X9 hb hdiv
    have run:∀k,kG lo 0 hh=some k→(execOp a.eval o).run P w = .ok (.value (.slice (some (if (E b).2=k then (⟨(E b).1,(E b).pre.length,none⟩:Addr) else (⟨(E b).1,(E b).pre.length,none⟩:Addr).add (k*es))) (hh - k) ((E b).2 - k))) w:=by
     intro k hl
     rw [ho,hs0]
     have:=jdz (P:=P) (E:=E) (w:=w) (a:=(⟨(E b).1,(E b).pre.length,none⟩:Addr)) (n:=n) hu hs hb' hl
     simp only [At.den,Sem.run_bind,this,Result.andThen_ok,Sem.run_pure]
    split at h
    ·rename_i hl _
     cases h
     intro hc K Q hK
     unfold Oper.wp
     rw [run 0 hl]
     have:=hK E w (.refl rfl rfl hr)
     have e:(if (E b).2=0 then (⟨(E b).1,(E b).pre.length,none⟩:Addr) else (⟨(E b).1,(E b).pre.length,none⟩:Addr).add (0*es))=⟨(E b).1,(E b).pre.length,none⟩:=by
      by_cases h0:(E b).2=0
      ·rw [if_pos h0]
      ·rw [if_neg h0,Nat.zero_mul,kt,Nat.add_zero]
     rw [e]
     exact this
    ·rename_i k hl _
     split at h
     ·rename_i q4
      cases h
      rw [xi,yV] at q4
      simp only [decide_eq_true_eq] at q4
      simp only [kG,Option.some.injEq] at hb
      subst hb
      have hkn:k+1≤n:=Qr hl (Nat.zero_le _)
      intro hc K Q hK
      obtain ⟨E',-,h1,h2⟩:=jfQ (p:=p) (v:= .v (.one (.slu nb (n - (k+1))))) (cs:=[]) (rd:=[b]) hr hg (hn nb (Nat.le_refl _) (by simp)) hk q3 q4 hkn
      unfold Oper.wp
      rw [run (k+1) hl,h1]
      exact hK E' w h2
     ·split at h
      ·rename_i q4
       cases h
       rw [xi] at q4
       simp only [decide_eq_true_eq] at q4
       intro hc K Q hK
       unfold Oper.wp
       rw [run (k+1) hl]
       have:=hK E w (.refl rfl rfl hr)
       have e:Value.slice (some (if (E b).2=k+1 then (⟨(E b).1,(E b).pre.length,none⟩:Addr) else (⟨(E b).1,(E b).pre.length,none⟩:Addr).add ((k+1)*es))) (hh - (k+1)) ((E b).2 - (k+1))=(At.slt b ((k+1)*es) (k+1)).den E:=by
        simp only [At.den]
        rw [←q4,Nat.sub_self]
        by_cases h0:(E b).2=k+1
        ·simp [h0]
        ·simp only [if_neg h0];rw [kt,Nat.add_comm]
       rw [e]
       exact this
      ·cases h
    ·cases h
   ·cases h
  ·cases h
 ·cases h
theorem Kt {lo:Option LV} {hi mx:LV} {n c m h l:Nat} (hm:kG (some mx) 0 c=some m) (hh:kG (some hi) 0 m=some h) (hl:kG lo 0 h=some l):
  (Instr.sliceBounds true n c (lo.map (LV.den E)) ((some hi).map (LV.den E)) ((some mx).map (LV.den E))).run P w = .ok (l,h,m) w:=by
 obtain ⟨i1,rfl,m1⟩:=qf hm
 obtain ⟨i2,rfl,m2⟩:=qf hh
 cases lo with
 | none=>simp only [kG,Option.some.injEq] at hl;subst hl;simp [Instr.sliceBounds,Instr.sliceBound,LV.den,V1.den,At.den,asIntOf,m1,m2]
 | some v=>
  obtain ⟨i3,rfl,m3⟩:=qf hl
  simp [Instr.sliceBounds,Instr.sliceBound,LV.den,V1.den,At.den,asIntOf,m1,m2,m3]
theorem yr {t e:TypeId} {s:Nat} {x:Value} {a:Option Addr} {n c m h l:Nat} {lo:Option LV} {hi mx:LV} (hu:P.underlying t=some (.slice e)) (hs:kY P e=some s) (hx:x = .slice a n c)
  (hm:kG (some mx) 0 c=some m) (hh:kG (some hi) 0 m=some h) (hl:kG lo 0 h=some l):
  (Instr.sliceAt t x (lo.map (LV.den E)) ((some hi).map (LV.den E)) ((some mx).map (LV.den E))).run P w = .ok (.slice (if m=l then a else a.map (·.add (l*s))) (h - l) (m - l)) w:=by
 subst hx
 have h1:=Kt (P:=P) (E:=E) (w:=w) (n:=n) hm hh hl
 simp only [Instr.sliceAt,Instr.slice,Sem.run_bind,run_underlying hu,Result.andThen_ok,h1,jQ hs,Sem.run_pure]
theorem jbH {t:TypeId} {x:LV} {lo:Option LV} {hi mx:LV} {d:Dl} (hr:Rel E g w) (h:yS P g t x lo hi mx=some d):
  Pur P E w (Instr.sliceAt t (x.den E) (lo.map (LV.den E)) ((some hi).map (LV.den E)) ((some mx).map (LV.den E))) d:=by
 unfold yS at h
 split at h
 ·rename_i e hu
  split at h
  ·rename_i s hs
   split at h
   ·rename_i m hm
    split at h
    ·rename_i hh hb
     split at h
     ·rename_i l hl
      have hm0:m=0:=by have:=Qr hm (Nat.le_refl _);omega
      subst hm0
      have hh0:hh=0:=by have:=Qr hb (Nat.le_refl _);omega
      subst hh0
      have hl0:l=0:=by have:=Qr hl (Nat.le_refl _);omega
      subst hl0
      refine jX h ?_
      rw [yr hu hs (x:=(LV.v (V1.one At.nilsl)).den E) (a:=none) (n:=0) rfl hm hb hl]
      rfl
     ·cases h
    ·cases h
   ·cases h
  ·rename_i s b o n c hs
   split at h
   ·rename_i m hm
    split at h
    ·rename_i hh hb
     split at h
     ·rename_i l hl
      split at h <;> rename_i hq <;> rw [xi] at hq <;> refine jX h ?_
      ·have hq':m=l:=by simpa using hq
       rw [yr hu hs (x:=(LV.v (V1.one (At.sl b o n c))).den E) (a:=some ⟨(E b).1,o+(E b).pre.length,none⟩) (n:=n) rfl hm hb hl,if_pos hq']
       rfl
      ·have hq':¬m=l:=by simpa using hq
       rw [yr hu hs (x:=(LV.v (V1.one (At.sl b o n c))).den E) (a:=some ⟨(E b).1,o+(E b).pre.length,none⟩) (n:=n) rfl hm hb hl,if_neg hq']
       simp only [Option.map_some,kt,At.den]
       rw [show o+(E b).pre.length+l*s=o+l*s+(E b).pre.length by omega]
     ·cases h
    ·cases h
   ·cases h
  ·rename_i s b n hs
   split at h
   ·rename_i ty es l hk
    split at h
    ·rename_i m q1 q2 q3 hm
     rw [xi] at q1 q2
     rw [jaC] at q3
     simp only [decide_eq_true_eq] at q1 q2 q3
     rw [yV] at hm
     subst q1
     subst q2
     have hcap:=jbB hr hk q3
     have hdiv:l.length/es≤(E b).2:=by
      have:l.length/es*es≤(E b).2*es:=Nat.le_trans (Nat.div_mul_le_self _ _) hcap
      exact Nat.le_of_mul_le_mul_right this (by omega)
     have hm':=X9 hm hdiv
     split at h
     ·rename_i hh hb
      split at h
      ·rename_i l' hl
       split at h <;> rename_i hq <;> rw [xi] at hq <;> cases h <;> refine ⟨rfl,rfl,fun _=> ?_⟩
       ·have hq':m=l':=by simpa using hq
        rw [yr hu hs (x:=(LV.v (V1.one (At.slu b n))).den E) (a:=some ⟨(E b).1,(E b).pre.length,none⟩) (n:=n) rfl hm' hb hl,if_pos hq']
        simp only [LV.den,V1.den,At.den,Nat.zero_add]
       ·have hq':¬m=l':=by simpa using hq
        rw [yr hu hs (x:=(LV.v (V1.one (At.slu b n))).den E) (a:=some ⟨(E b).1,(E b).pre.length,none⟩) (n:=n) rfl hm' hb hl,if_neg hq']
        simp only [Option.map_some,kt,LV.den,V1.den,At.den,Nat.zero_add]
        rw [Nat.add_comm]
      ·cases h
     ·cases h
    ·cases h
   ·cases h
  ·cases h
 ·cases h
theorem JB {x:LV} {b o n:Nat} (h:ZA x=some (b,o,n)):∃c,x.den E = .slice (some ⟨(E b).1,o+(E b).pre.length,none⟩) n c:=by
 unfold ZA at h
 split at h
 ·cases h;exact ⟨_,rfl⟩
 ·cases h;exact ⟨_,by simp only [LV.den,V1.den,At.den,Nat.zero_add];rfl⟩
 ·cases h
theorem jdD {o:Oper} {c:Call} {args:List LV} {d:Dl} (ho:o.op = .call c) (hb:c.callee = .builtin .copy) (hargs:c.args.map a.eval=(args.map (LV.den E)).toArray)
  (h:Ys P g c.argTypes.toList args=some d) (hr:Rel E g w):StepOK P o a w E g nb d:=by
 unfold Ys at h
 split at h
 ·rename_i t tl x y hts
  split at h
  ·rename_i e b off n b' off' m hu hx hy
   split at h
   ·rename_i s ty es l k hs hk hk'
    split at h
    ·rename_i r hcut
     split at h
     ·rename_i l' hall hlay
      cases h
      obtain ⟨cx,ex⟩:=JB (E:=E) hx
      obtain ⟨cy,ey⟩:=JB (E:=E) hy
      obtain ⟨e1,e2⟩:=yK hcut
      have hone:∀u∈r.map (At.den E),u.oneCell'=true:=fun u hu=>by
       obtain ⟨q,hq,rfl⟩:=List.mem_map.1 hu
       exact (z6 (allCell_iff.1 hall q hq)).2
      obtain ⟨w',hst,hpost⟩:=jfP (P:=P) (nb:=nb) hr hk hlay hone
      have hlr:(r.map (At.den E)).length=Nat.min m n*s:=by rw [List.length_map,e1];simp only [List.length_take,List.length_drop];omega
      have hfc:=run_firstCells_some (P:=P) w s (Nat.min m n) ⟨(E b').1,off'+(E b').pre.length,none⟩ m cy (r.map (At.den E)) hlr (fun j u hu=>by
       rw [kt,show off'+(E b').pre.length+j=off'+j+(E b').pre.length by omega]
       rw [List.getElem?_map] at hu
       obtain ⟨q,hq,rfl⟩:=Option.map_eq_some_iff.1 hu
       refine z7 (hr.blk b' k hk') ?_
       rw [e1,List.getElem?_take] at hq
       split at hq
       ·rw [List.getElem?_drop] at hq;exact hq
       ·cases hq)
      have hrun:(Builtin.copy_ c.argTypes o.type #[x.den E,y.den E]).run P w = .ok (goInt (Nat.min m n)) w':=by
       have ha0:c.argTypes[0]? = some t:=by
        rcases c with ⟨_,_,⟨q⟩⟩
        simp only at hts
        rw [hts];rfl
       rw [ex,ey]
       simp [Builtin.copy_,ha0,run_underlying hu,Builtin.lenOf,jQ hs,hfc,hst]
      intro hc K Q hK
      unfold Oper.wp
      have hex:(execOp a.eval o).run P w = .ok (.value (goInt (Nat.min m n))) w':=by
       have:execOp a.eval o=(do pure (.value (←Builtin.copy_ c.argTypes o.type #[x.den E,y.den E]))):=by
        simp [execOp,ho,resolve,hb,hargs,invoke,builtin]
       rw [this]
       simp only [Sem.run_bind,hrun,Result.andThen_ok,Sem.run_pure]
      rw [hex]
      exact hK E w' (hpost _ _ _)
     ·cases h
    ·cases h
   ·cases h
  ·cases h
 ·cases h
theorem Y1 {z:List At} (hz:1≤z.length) (n:Nat):(Builtin.zeroCells (z.map (At.den E)).toArray n).toList=(kO z n).map (At.den E):=by
 unfold Builtin.zeroCells
 have:((Array.range (n*(z.map (At.den E)).toArray.size)).map fun i=>(z.map (At.den E)).toArray[i%(z.map (At.den E)).toArray.size]!)=((kO z n).map (At.den E)).toArray:=by
  apply Array.ext
  ·simp [xP]
  ·intro i hi1 hi2
   have hi:i<n*z.length:=by simpa using hi1
   have hlt:i%z.length<z.length:=Nat.mod_lt _ hz
   have hget:=JA z (by omega) n i hi
   rw [List.getElem?_eq_getElem hlt] at hget
   have hlt2:i<(kO z n).length:=by rw [xP];exact hi
   rw [List.getElem?_eq_getElem hlt2] at hget
   have hget':=Option.some.inj hget
   have hsz:i%(z.map (At.den E)).toArray.size<(z.map (At.den E)).toArray.size:=by simpa using hlt
   simp only [Array.getElem_map,Array.getElem_range]
   rw [getElem!_pos (z.map (At.den E)).toArray (i%(z.map (At.den E)).toArray.size) hsz]
   simp only [List.getElem_toArray,List.getElem_map,hget']
   simp
 rw [this]
theorem Xb (z:List At):∀(n:Nat) (q:At),q∈kO z n→q∈z
 | 0,q,h=>by cases h
 | n+1,q,h=>by
  simp only [kO,List.mem_append] at h
  rcases h with h | h
  ·exact h
  ·exact Xb z n q h
theorem jdE {t:TypeId} {l:List At} (h:Qz P t=some l):∀q∈l,q.cell=true:=by
 unfold Qz at h
 split at h
 ·split at h
  ·rename_i z hz
   split at h
   ·rename_i x hx
    cases h
    intro q hq
    rw [List.mem_singleton] at hq
    subst hq
    unfold jaF at hx
    split at hx
    ·split at hx <;> cases hx
    ·split at hx
     ·rename_i y hy;cases hx;exact (yJ hy).2.2
     ·cases hx
   ·rename_i x hx
    cases h
    unfold jaF at hx
    split at hx
    ·split at hx
     ·rename_i l' hl
      cases hx
      exact allCell_iff.1 (zu hl).2.2
     ·cases hx
    ·split at hx <;> cases hx
   ·cases h
  ·cases h
 ·cases h
theorem jbI {o:Oper} {c:Call} {args:List LV} {d:Dl} (ho:o.op = .call c) (hb:c.callee = .builtin .clear) (hargs:c.args.map a.eval=(args.map (LV.den E)).toArray)
  (h:JP P g c.argTypes.toList args=some d) (hr:Rel E g w):StepOK P o a w E g nb d:=by
 unfold JP at h
 split at h
 ·rename_i t x hts
  split at h
  ·rename_i e b off n hu hx
   split at h
   ·rename_i s z ty es l hs hz hk
    split at h
    ·rename_i l' q1 q2 q3 hlay
     cases h
     rw [xi,yV] at q1
     rw [jaC] at q2 q3
     simp only [decide_eq_true_eq] at q1 q2 q3
     obtain ⟨cx,ex⟩:=JB (E:=E) hx
     obtain ⟨zv,z1,z2,z3⟩:=qg hz w
     have hcell:=jdE hz
     have hone:∀u∈(kO z n).map (At.den E),u.oneCell'=true:=fun u hu=>by
      obtain ⟨q,hq,rfl⟩:=List.mem_map.1 hu
      exact (z6 (hcell q (Xb z n q hq))).2
     obtain ⟨w',hst,hpost⟩:=jfP (P:=P) (nb:=nb) hr hk hlay hone
     have hzc:=Y1 (E:=E) (z:=z) (by omega) n
     have hrun:(Builtin.clear_ c.argTypes o.type #[x.den E]).run P w = .ok (.tuple #[]) w':=by
      have ha0:c.argTypes[0]? = some t:=by
       rcases c with ⟨_,_,⟨q⟩⟩
       simp only at hts
       rw [hts];rfl
      rw [ex]
      obtain ⟨n',rfl⟩:∃n',n=n'+1:=⟨n - 1,by omega⟩
      simp [Builtin.clear_,ha0,run_underlying hu,z1,z2 E,hzc,hst]
     intro hc K Q hK
     unfold Oper.wp
     have hex:(execOp a.eval o).run P w = .ok (.value (.tuple #[])) w':=by
      have:execOp a.eval o=(do pure (.value (←Builtin.clear_ c.argTypes o.type #[x.den E]))):=by
       simp [execOp,ho,resolve,hb,hargs,invoke,builtin]
      rw [this]
      simp only [Sem.run_bind,hrun,Result.andThen_ok,Sem.run_pure]
     rw [hex]
     exact hK E w' (hpost _ _ _)
    ·cases h
   ·cases h
  ·cases h
 ·cases h
end
end Go.Lr

/- The local evaluator: every operation, and calls that are told of. -/
namespace Go.Lr
open Go.RowKit
def pn (p:Nat→Bool) (nb k:Nat):Nat→Bool:=fun i=>p i||(decide (nb≤i)&&decide (i<nb+k))
theorem yY {p:Nat→Bool} {nb k i:Nat} (h:p i=true):pn p nb k i=true:=by simp [pn,h]
structure OkD (p:Nat→Bool) (g:Nat→Option Blk) (nb:Nat) (d:Dl):Prop where
 val:d.val.ok (pn p nb d.nw.length)=true
 wr:∀x∈d.wr,∀b,x.2=some b→okL (pn p nb d.nw.length) b.cells=true
 nw:okBs (pn p nb d.nw.length) d.nw=true
 live:∀x∈d.wr,(g x.1).isSome
 nd:(d.wr.map (·.1)).Nodup
theorem OkD.plain {p:Nat→Bool} {g:Nat→Option Blk} {nb:Nat} {d:Dl} (h1:d.wr=[]) (h2:d.nw=[]) (hv:d.val.ok p=true):OkD p g nb d:=
 ⟨LV.ok_mono (fun _ h=>yY h) hv,by simp [h1],by simp [h2,okBs],by simp [h1],by simp [h1]⟩
theorem OkD.val1 {p:Nat→Bool} {g:Nat→Option Blk} {nb:Nat} {d:Dl} {x:At} (h:val1 x=some d) (hx:x.ok p=true):OkD p g nb d:=by
 cases h;exact .plain rfl rfl hx
theorem OkD.ask {p:Nat→Bool} {g:Nat→Option Blk} {nb:Nat} {d:Dl} {x:At} {kn b:Bool} (h:(ask kn b false fun cs=>some ⟨.v (.one x),[],[],[],cs⟩)=some d) (hx:x.ok p=true):OkD p g nb d:=by
 unfold Go.Lr.ask at h
 cases kn <;> cases b <;> simp at h
 ·cases h;exact .plain rfl rfl hx
 ·cases h;exact .plain rfl rfl hx
 ·cases h;exact .plain rfl rfl hx
section
variable {P:Program} {E:Env} {τ:Nat→LV} {a:Act} {w:World} {g:Nat→Option Blk} {nb:Nat} {p:Nat→Bool}
theorem jig {op:BinOp} {k k':IntKind} {x y:Int} {kn:Bool} {d:Dl} (h:jep op k x k' y kn=some d):OkD p g nb d:=by
 unfold jep at h
 split at h
 ·exact .ask h rfl
 ·exact .ask h rfl
 ·split at h
  ·unfold jve at h
   split at h <;> first
    | exact .val1 h rfl
    | exact .ask h rfl
    | (split at h <;> first | exact .val1 h rfl | cases h)
  ·cases h
theorem jqq {op:UnOp} {x:LV} {d:Dl} (h:unD op x=some d):OkD p g nb d:=by
 unfold unD at h
 split at h
 ·exact .val1 h rfl
 ·split at h
  ·exact .val1 h rfl
  ·cases h
 ·exact .val1 h rfl
 ·cases h
theorem jih {t u:TypeId} {x:LV} {d:Dl} (h:jeo P t u x=some d):OkD p g nb d:=by
 unfold jeo at h
 split at h
 ·exact .val1 h rfl
 ·cases h
theorem jfS {t:TypeId} {x:LV} {i:Nat} {d:Dl} (h:Zw P t x i=some d) (hx:x.ok p=true):OkD p g nb d:=by
 unfold Zw at h
 split at h
 ·split at h
  ·split at h
   ·rename_i v hv
    cases h
    exact .plain rfl rfl (Qp hv hx)
   ·cases h
  ·cases h
 ·cases h
theorem jfT {t:TypeId} {x ix:LV} {d:Dl} (h:Zx P t x ix=some d) (hx:x.ok p=true):OkD p g nb d:=by
 unfold Zx at h
 split at h
 ·split at h
  ·split at h
   ·rename_i v hv
    cases h
    exact .plain rfl rfl (Qp hv hx)
   ·cases h
  ·cases h
 ·cases h
theorem jbJ {x:LV} {i:Nat} {d:Dl} (h:extractD x i=some d) (hx:x.ok p=true):OkD p g nb d:=by
 unfold extractD at h
 split at h
 ·obtain ⟨v,hv,rfl⟩:=xb h
  exact .plain rfl rfl (okVs_iff.1 hx v (List.mem_of_getElem? hv))
 ·cases h
theorem Y2 {t:TypeId} {x:LV} {i:Nat} {d:Dl} (h:yh P t x i=some d) (hx:x.ok p=true):OkD p g nb d:=by
 unfold yh at h
 split at h
 ·split at h
  ·split at h
   ·exact .val1 h hx
   ·cases h
  ·cases h
 ·split at h
  ·split at h
   ·exact .val1 h hx
   ·cases h
  ·cases h
 ·cases h
theorem jdF {t:TypeId} {x:LV} {d:Dl} (h:QE P t x=some d) (hx:x.ok p=true):OkD p g nb d:=by
 unfold QE at h
 split at h
 ·split at h
  ·exact .val1 h hx
  ·cases h
 ·cases h
theorem Y3 {t:TypeId} {x ix:LV} {d:Dl} (h:yi P t x ix=some d) (hx:x.ok p=true):OkD p g nb d:=by
 unfold yi at h
 split at h
 ·split at h
  ·exact .val1 h hx
  ·cases h
 ·split at h
  ·exact .val1 h hx
  ·cases h
 ·split at h
  ·exact .val1 h hx
  ·cases h
 ·split at h
  ·cases h;exact .plain rfl rfl hx
  ·cases h
 ·split at h
  ·cases h;exact .plain rfl rfl hx
  ·cases h
 ·cases h
theorem jfU {t:TypeId} {x:LV} {lo hi:Option LV} {d:Dl} (h:Zy P t x lo hi=some d) (hx:x.ok p=true):OkD p g nb d:=by
 unfold Zy at h
 split at h
 ·split at h
  ·split at h
   ·split at h <;> exact .val1 h hx
   ·cases h
  ·cases h
 ·split at h
  ·split at h
   ·split at h <;> exact .val1 h hx
   ·cases h
  ·cases h
 ·split at h
  ·unfold jaI at h
   split at h
   ·cases h;exact .plain rfl rfl hx
   ·cases h
  ·cases h
 ·split at h
  ·split at h
   ·exact .val1 h rfl
   ·cases h
  ·cases h
 ·split at h
  ·split at h
   ·split at h <;> exact .val1 h hx
   ·cases h
  ·cases h
 ·cases h
theorem jfV {t:TypeId} {c:Bool} {b n:Nat} {lo hi:Option LV} {d:Dl} (hg:∀i c,g i=some c→p i=true∧okL p c.cells=true) (h:Jj P g nb t c b n lo hi=some d):OkD p g nb d:=by
 unfold Jj at h
 split at h
 ·split at h
  ·rename_i s ty es l hs hk
   have hb:=(hg b _ hk).1
   split at h
   ·split at h
    ·cases h;exact .plain rfl rfl hb
    ·split at h
     ·cases h
      refine ⟨by show pn p nb 1 nb=true;unfold pn;simp,fun x hx c hc=> ?_, ?_,fun x hx=> ?_,by simp⟩
      ·rw [List.mem_singleton] at hx;subst hx;cases hc
      ·refine okBs_iff.2 fun x hx=> ?_
       rw [List.mem_singleton] at hx
       subst hx
       exact jn (fun _ h=>yY h) (okL_iff.2 fun a ha=>okL_iff.1 (hg b _ hk).2 a (List.mem_of_mem_drop ha))
      ·rw [List.mem_singleton] at hx;subst hx;simp [hk]
     ·split at h
      ·cases h;exact .plain rfl rfl hb
      ·cases h
    ·cases h
   ·cases h
  ·cases h
 ·cases h
theorem jfW {t:TypeId} {x:LV} {lo:Option LV} {hi mx:LV} {d:Dl} (h:yS P g t x lo hi mx=some d) (hx:x.ok p=true):OkD p g nb d:=by
 unfold yS at h
 split at h
 ·split at h
  ·split at h
   ·split at h
    ·split at h
     ·exact .val1 h rfl
     ·cases h
    ·cases h
   ·cases h
  ·split at h
   ·split at h
    ·split at h
     ·split at h <;> exact .val1 h hx
     ·cases h
    ·cases h
   ·cases h
  ·split at h
   ·split at h
    ·split at h
     ·split at h
      ·split at h <;> (cases h;exact .plain rfl rfl hx)
      ·cases h
     ·cases h
    ·cases h
   ·cases h
  ·cases h
 ·cases h
theorem jdG {x:LV} {b n:Nat} (h:jkp x=some (b,n)):x = .v (.one (.slu b n)):=by
 unfold jkp at h
 split at h
 ·cases h;rfl
 ·cases h
theorem jfX {t:TypeId} {c:Bool} {x:LV} {lo hi mx:Option LV} {d:Dl} (hg:∀i c,g i=some c→p i=true∧okL p c.cells=true) (h:QD P g nb t c x lo hi mx=some d) (hx:x.ok p=true):OkD p g nb d:=by
 unfold QD at h
 split at h
 ·split at h
  ·exact jfW h hx
  ·cases h
 ·split at h
  ·exact jfV hg h
  ·exact jfU h hx
theorem jlC {t:TypeId} {x:LV} {d:Dl} (h:jou P t x=some d):OkD p g nb d:=by
 unfold jou at h
 split at h <;> first | exact .val1 h rfl | cases h
theorem jfY:∀{mx:Bool} {l:List LV} {k:IntKind} {x:Int} {d:Dl},kZ mx k x l=some d→OkD p g nb d:=by
 intro mx l
 induction l with
 | nil=>intro k x d h;simp only [kZ] at h;exact .val1 h rfl
 | cons y l ih=>
  intro k x d h
  unfold kZ at h
  split at h
  ·rename_i he;cases he
  ·rename_i he
   cases he
   split at h <;> exact ih h
  ·cases h
theorem Yb {mx:Bool} {l:List LV} {d:Dl} (h:ze mx l=some d):OkD p g nb d:=by
 unfold ze at h
 split at h
 ·exact jfY h
 ·cases h
theorem jfZ {t:TypeId} {parts:List (Nat×LV)} {d:Dl} (h:Zv P t parts=some d) (hp:∀q∈parts,q.2.ok p=true):OkD p g nb d:=by
 unfold Zv at h
 split at h
 ·rename_i z hz
  obtain ⟨_,_,_,h3⟩:=qg hz default
  split at h
  ·split at h
   ·rename_i l _ hl
    cases h
    exact .plain rfl rfl (jcQ hl (h3 p) hp)
   ·cases h
  ·split at h
   ·split at h
    ·rename_i l hl
     cases h
     exact .plain rfl rfl (Qs hl (h3 p) hp)
    ·cases h
   ·cases h
  ·cases h
 ·cases h
theorem jaf {f:Fn} {first:List Operand} {caps:List LV} {d:Dl} (h:zd f first caps=some d) (hp:∀v∈caps,v.ok p=true):OkD p g nb d:=by
 unfold zd at h
 split at h
 ·rename_i l hl
  refine .val1 h ?_
  simp only [At.ok,List.all_eq_true]
  exact fun q hq=>jab hl hp q hq
 ·cases h
theorem jii (hp:∀t,(τ t).ok p=true) {pd:Option Bool} {c x y:Operand} {d:Dl} (h:jaH τ pd c x y=some d):OkD p g nb d:=by
 unfold jaH at h
 split at h
 ·split at h
  ·split at h
   ·rename_i v hv
    cases h
    exact .plain rfl rfl (yX hp hv)
   ·cases h
  ·split at h
   ·rename_i v hv
    cases h
    exact .plain rfl rfl (yX hp hv)
   ·cases h
  ·cases h
 ·cases h
theorem jbK {p:Nat→Bool} {nb:Nat}:pn p nb 1 nb=true:=by simp [pn]
theorem jbL {p:Nat→Bool} {b:Blk} {v:LV} (hv:v.ok (pn p nb 1)=true) (hb:okL p b.cells=true):OkD p g nb ⟨v,[],[b],[],[]⟩:=
 ⟨hv,by simp,okBs_iff.2 fun x hx=>by rw [List.mem_singleton] at hx;subst hx;exact jn (fun _ h=>yY h) hb,by simp,by simp⟩
theorem jf0 {t:TypeId} {d:Dl} (h:Zt P nb t=some d):OkD p g nb d:=by
 unfold Zt at h
 split at h
 ·rename_i l hl
  obtain ⟨_,_,_,h3⟩:=qg hl default
  cases h
  exact jbL jbK (h3 p)
 ·cases h
theorem jlD {t:TypeId} {v:LV} {d:Dl} (h:jor nb t v=some d) (hv:v.ok p=true):OkD p g nb d:=by
 unfold jor at h
 split at h
 ·rename_i l hl
  cases h
  exact jbL jbK (xO hl hv)
 ·cases h
theorem Xx {t:TypeId} {n:Nat} {parts:List (Nat×LV)} {d:Dl} (h:xJ P nb t n parts=some d) (hp:∀q∈parts,q.2.ok p=true):OkD p g nb d:=by
 unfold xJ at h
 split at h
 ·split at h
  ·rename_i s z hs hz
   obtain ⟨_,_,_,h3⟩:=qg hz default
   split at h
   ·rename_i l _ _ _ hl
    cases h
    exact jbL jbK (Qs hl (z8 (h3 p) n) hp)
   ·cases h
  ·cases h
 ·cases h
theorem jij {t:TypeId} {v:LV} {d:Dl} (hg:∀i c,g i=some c→p i=true∧okL p c.cells=true) (h:QC P t v g=some d):OkD p g nb d:=by
 unfold QC at h
 split at h
 ·split at h
  ·rename_i k hk
   split at h
   ·rename_i x hx
    cases h
    exact .plain rfl rfl (Qp hx (hg _ _ hk).2)
   ·cases h
  ·cases h
 ·cases h
theorem jag (l:List At):∀(n o:Nat),okL p (jq l o n)=true
 | 0,o=>rfl
 | n+1,o=>by simp only [jq,okL,At.ok];exact jag l n (o+1)
theorem jik {t:TypeId} {l:List At} {o:Nat} {x:V1} {cs:List (Bool×Bool)} (h:jen P t l o=some (x,cs)):x.ok p=true:=by
 unfold jen at h
 split at h
 ·split at h
  ·cases h;exact jag l _ _
  ·cases h
 ·split at h
  ·cases h;rfl
  ·cases h;rfl
  ·cases h
 ·cases h
theorem jf1 {t:TypeId} {v:LV} {d:Dl} (hg:∀i c,g i=some c→p i=true∧okL p c.cells=true) (h:KG P t v g=some d):OkD p g nb d:=by
 unfold KG at h
 split at h
 ·split at h
  ·split at h
   ·rename_i x cs hx
    cases h
    exact .plain rfl rfl (jik hx)
   ·cases h
  ·cases h
 ·exact jij hg h
theorem jf2 {s:Nat} {x:LV} {m b:Nat} {news:List At} {cs:List (Bool×Bool)} (hg:∀i c,g i=some c→p i=true∧okL p c.cells=true) (h:KJ g s x=some (m,news,b,cs)):okL p news=true:=by
 unfold KJ at h
 split at h
 ·split at h
  ·rename_i k hk
   split at h
   ·rename_i l hcut
    split at h
    ·cases h;exact Z6 hcut (hg _ k hk).2
    ·cases h
   ·cases h
  ·cases h
 ·split at h
  ·rename_i k hk
   split at h
   ·rename_i l hcut
    split at h
    ·cases h;exact Z6 hcut (hg _ k hk).2
    ·cases h
   ·cases h
  ·cases h
 ·split at h
  ·rename_i k hk
   cases h
   exact okL_iff.2 fun a' ha'=>okL_iff.1 (hg _ k hk).2 a' (List.mem_of_mem_drop (List.mem_of_mem_take ha'))
  ·cases h
 ·cases h
theorem jf3 {e:TypeId} {s:Nat} {x:LV} {n:Nat} {old:List At} {kill:Option Nat} (hg:∀i c,g i=some c→p i=true∧okL p c.cells=true) (h:Jk g e s x=some (n,old,kill)):
  okL p old=true∧∀q,kill=some q→(g q).isSome:=by
 unfold Jk at h
 split at h
 ·cases h;exact ⟨rfl,fun q hq=>by cases hq⟩
 ·split at h
  ·rename_i ty es l hk
   split at h
   ·rename_i hcut
    cases h;exact ⟨Z6 hcut (hg _ _ hk).2,fun q hq=>by cases hq;simp [hk]⟩
   ·cases h
  ·cases h
 ·cases h;exact ⟨rfl,fun q hq=>by cases hq⟩
 ·split at h
  ·rename_i ty l hk
   split at h
   ·cases h;exact ⟨(hg _ _ hk).2,fun q hq=>by cases hq;simp [hk]⟩
   ·cases h
  ·cases h
 ·cases h
theorem jdH {ts:List TypeId} {args:List LV} {d:Dl} (hg:∀i c,g i=some c→p i=true∧okL p c.cells=true) (h:zg P nb g ts args=some d):OkD p g nb d:=by
 unfold zg at h
 split at h
 ·split at h
  ·split at h
   ·split at h
    ·rename_i n old kill m news b cs hold hnews
     split at h
     ·cases h
      obtain ⟨h1,h2⟩:=jf3 hg hold
      have h3:=jf2 hg hnews
      have hok:okL p (jks old news)=true:=by
       rw [Y0]
       exact okL_iff.2 fun a' ha'=>by
        rcases List.mem_append.1 ha' with ha' | ha'
        ·exact okL_iff.1 h1 a' ha'
        ·exact okL_iff.1 h3 a' ha'
      refine ⟨?_, ?_, ?_, ?_, ?_⟩
      ·show pn p nb 1 nb=true
       unfold pn
       simp
      ·intro x hx b hb
       cases kill with
       | none=>cases hx
       | some q=>simp only [jaM,List.mem_singleton] at hx;subst hx;cases hb
      ·simp only [okBs,jn (fun _ h=>yY h) hok]
      ·intro x hx
       cases kill with
       | none=>cases hx
       | some q=>simp only [jaM,List.mem_singleton] at hx;subst hx;exact h2 q rfl
      ·cases kill <;> simp [jaM]
     ·cases h
    ·cases h
   ·cases h
  ·cases h
 ·cases h
theorem jdI {ts:List TypeId} {args:List LV} {d:Dl} (hg:∀i c,g i=some c→p i=true∧okL p c.cells=true) (h:zh P nb g ts args=some d):OkD p g nb d:=by
 unfold zh at h
 split at h
 ·obtain ⟨t,e,i,-,-,-,hd⟩:=zE h
  rcases hd with ⟨-,hd⟩ | ⟨b,o,n,c,k,-,hk,-,rfl⟩ | ⟨b,n,ty,es,l,-,hk,-,-,rfl⟩
  ·exact .val1 hd rfl
  ·exact .plain rfl rfl (hg b k hk).1
  ·exact .plain rfl rfl (hg b _ hk).1
 ·exact jdH hg h
theorem jil {ts:List TypeId} {args:List LV} {d:Dl} (hg:∀i c,g i=some c→p i=true∧okL p c.cells=true) (h:Ys P g ts args=some d):OkD p g nb d:=by
 unfold Ys at h
 split at h
 ·split at h
  ·split at h
   ·rename_i s ty es l k hs hk hk'
    split at h
    ·rename_i r hcut
     split at h
     ·rename_i l' hall hlay
      cases h
      refine ⟨rfl,fun x hx b hb=> ?_,rfl,fun x hx=> ?_,by simp⟩
      ·rw [List.mem_singleton] at hx
       subst hx
       cases hb
       exact jn (fun _ h=>yY h) (Z5 hlay (hg _ _ hk).2 (Z6 hcut (hg _ _ hk').2))
      ·rw [List.mem_singleton] at hx
       subst hx
       simp [hk]
     ·cases h
    ·cases h
   ·cases h
  ·cases h
 ·cases h
theorem jf4 {ts:List TypeId} {args:List LV} {d:Dl} (hg:∀i c,g i=some c→p i=true∧okL p c.cells=true) (h:JP P g ts args=some d):OkD p g nb d:=by
 unfold JP at h
 split at h
 ·split at h
  ·split at h
   ·rename_i s z ty es l hs hz hk
    split at h
    ·rename_i l' _ _ _ hlay
     cases h
     obtain ⟨_,_,_,h3⟩:=qg hz default
     refine ⟨rfl,fun x hx b hb=> ?_,rfl,fun x hx=> ?_,by simp⟩
     ·rw [List.mem_singleton] at hx
      subst hx
      cases hb
      exact jn (fun _ h=>yY h) (Z5 hlay (hg _ _ hk).2 (z8 (h3 p) _))
     ·rw [List.mem_singleton] at hx
      subst hx
      simp [hk]
    ·cases h
   ·cases h
  ·cases h
 ·cases h
theorem jah {t:TypeId} {u v:LV} {d:Dl} (hg:∀i c,g i=some c→p i=true∧okL p c.cells=true) (hv:v.ok p=true) (h:zb P t u v g=some d):OkD p g nb d:=by
 unfold zb at h
 split at h
 ·split at h
  ·rename_i ty es l hk
   split at h
   ·rename_i vs n hvs hn
    split at h
    ·rename_i r hlen hlay
     cases h
     refine ⟨rfl,fun x hx b hb=> ?_,rfl,fun x hx=> ?_,by simp⟩
     ·rw [List.mem_singleton] at hx
      subst hx
      cases hb
      exact jn (fun _ h=>yY h) (Z5 hlay (hg _ _ hk).2 (xO hvs hv))
     ·rw [List.mem_singleton] at hx
      subst hx
      simp [hk]
    ·cases h
   ·cases h
  ·cases h
 ·cases h
theorem jf5 {t:TypeId} {u v:LV} {d:Dl} (hg:∀i c,g i=some c→p i=true∧okL p c.cells=true) (hv:v.ok p=true) (h:KH P t u v g=some d):OkD p g nb d:=by
 unfold KH at h
 split at h
 ·split at h
  ·exact jah hg hv h
  obtain ⟨ty,es,l,z,hk,rfl,hs,hz,rfl⟩:=Jz h
  refine ⟨rfl,fun x hx b hb=> ?_,rfl,fun x hx=> ?_,by simp⟩
  ·rw [List.mem_singleton] at hx
   subst hx
   cases hb
   refine jn (fun _ h=>yY h) (okL_iff.2 fun a ha=> ?_)
   rcases List.mem_or_eq_of_mem_set ha with ha | rfl
   ·exact okL_iff.1 (hg _ _ hk).2 a ha
   ·exact hv
  ·rw [List.mem_singleton] at hx
   subst hx
   simp [hk]
 ·exact jah hg hv h
def CallOK (P:Program) (f:FuncId) (args:Array Value) (w:World) (R:Value→World→Prop):Prop:=
 (∃fn,P.funcs[f]? = some fn∧fn.name≠ "runtime.NumGoroutine"∧fn.body.isSome∧Calls P f args w fun e w'=>∃v,e = .returned v∧R v w')∨
  ∃v w',(callFunc f args).run P w = .ok (.value v) w'∧R v w'
def SumOK (P:Program) (f:FuncId) (s:Sum):Prop:=
 ∀(args:List LV) (t:Tch) (g:Nat→Option Blk) (nb:Nat) (p:Nat→Bool) (rdB wrB:List Blk) (ans:Ans) (ws:List (Nat×Option Blk)) (E:Env) (w:World),
  s args=some t→jE g t.rd=some rdB→jE g t.wr=some wrB→xV t.wr=true→t.go rdB wrB nb=some ans→Xm t.wr ans.wr=some ws→(∀c∈ans.cs,c.1=c.2)→
  Rel E g w→(∀i c,g i=some c→p i=true∧okL p c.cells=true)→(∀v∈args,v.ok p=true)→(∀i,nb≤i→i<nb+ans.nw.length→p i=false)→
  CallOK P f (args.map (LV.den E)).toArray w fun v w'=>∃E',v=ans.val.den E'∧Post w E g nb ⟨ans.val,ws,ans.nw,[],[]⟩ E' w'
def KU (P:Program) (f:FuncId) (s:List LV→List (Nat×LV)→Option Tch):Prop:=
 ∀(args:List LV) (t:Tch) (g:Nat→Option Blk) (nb:Nat) (p:Nat→Bool) (rdB wrB:List Blk) (ans:Ans) (ws:List (Nat×Option Blk)) (E:Env) (w:World),
  s args (Yp g (jaK args))=some t→jE g t.rd=some rdB→jE g t.wr=some wrB→xV t.wr=true→t.go rdB wrB nb=some ans→Xm t.wr ans.wr=some ws→(∀c∈ans.cs,c.1=c.2)→
  Rel E g w→(∀i c,g i=some c→p i=true∧okL p c.cells=true)→(∀v∈args,v.ok p=true)→(∀i,nb≤i→i<nb+ans.nw.length→p i=false)→
  CallOK P f (args.map (LV.den E)).toArray w fun v w'=>∃E',v=ans.val.den E'∧Post w E g nb ⟨ans.val,ws,ans.nw,[],[]⟩ E' w'
def GenOK (P:Program) (f:FuncId) (s:List LV→List Nat→List Blk→Nat→Option Dl):Prop:=
 ∀(args:List LV) (seen:List Nat) (ks:List Blk) (g:Nat→Option Blk) (nb:Nat) (p:Nat→Bool) (d:Dl) (E:Env) (w:World),
  jE g seen=some ks→s args seen ks nb=some d→(Jh d.wr).Nodup→(∀c∈d.cs,c.1=c.2)→
  Rel E g w→(∀i c,g i=some c→p i=true∧okL p c.cells=true)→(∀v∈args,v.ok p=true)→(∀i,nb≤i→i<nb+d.nw.length→p i=false)→
  CallOK P f (args.map (LV.den E)).toArray w fun v w'=>∃E',v=d.val.den E'∧Post w E g nb ⟨d.val,d.wr,d.nw,[],[]⟩ E' w'
def KOK (P:Program) (f:FuncId):SumK→Prop
 | .old s=>SumOK P f s
 | .peek s=>KU P f s
 | .gen s=>GenOK P f s
def AllOK (P:Program) (S:FuncId→Option SumK):Prop:=∀f s,S f=some s→KOK P f s
theorem jbM (hτ:∀t,a.eval (.tmp t)=(τ t).den E) {c:Call} {f:FuncId} {args:List LV} (h:callee τ c=some (f,args)) (ty:TypeId):
  (do let d ←resolve a.eval c ty;invoke d.target d.args:Sem Next)=callFunc f (args.map (LV.den E)).toArray:=by
 unfold callee at h
 split at h
 ·rename_i x hx
  split at h
  ·rename_i f' caps args' hf hargs
   cases h
   have h1:=kj hτ hf
   have h2:=J3 hτ hargs
   have h3:c.args.map a.eval=(args'.map (LV.den E)).toArray:=by
    rw [←h2]
    rcases c with ⟨_,⟨l⟩,_⟩
    simp
   unfold resolve
   rw [hx]
   simp only [h1,h3,LV.den,V1.den,At.den,Deferred.ofValue,pure_bind,invoke]
   congr 1
   simp [LV.den,V1.den,At.den]
  ·cases h
 ·cases h
theorem zH (hp:∀t,(τ t).ok p=true) {c:Call} {f:FuncId} {args:List LV} (h:callee τ c=some (f,args)):∀v∈args,v.ok p=true:=by
 unfold callee at h
 split at h
 ·split at h
  ·rename_i f' caps args' hf hargs
   cases h
   intro v hv
   rcases List.mem_append.1 hv with hv | hv
   ·exact jfE hp hargs v hv
   ·obtain ⟨q,hq,rfl⟩:=List.mem_map.1 hv
    have:=yX hp hf
    simp only [LV.ok,V1.ok,At.ok,List.all_eq_true] at this
    exact this q hq
  ·cases h
 ·cases h
theorem CallOK.wp {o:Oper} {c:Call} {f:FuncId} {args:List LV} {R:Value→World→Prop} {K:Act→World→Prop} {Q:Exit→Act→World→Prop} (ho:o.op = .call c)
  (hτ:∀t,a.eval (.tmp t)=(τ t).den E) (hc:callee τ c=some (f,args)) (h:CallOK P f (args.map (LV.den E)).toArray w R)
  (hk:∀v w',R v w'→K (a.put o.dst v) w'):o.wp P a w K Q:=by
 unfold Oper.wp execOp
 simp only [ho]
 rw [jbM hτ hc]
 rcases h with ⟨fn,h1,h2,h3,h4⟩ | ⟨v,w',h1,h2⟩
 ·have hrun:(callFunc f (args.map (LV.den E)).toArray).run P w = .ok (.enter f (args.map (LV.den E)).toArray) w:=by
   unfold callFunc
   obtain ⟨bd,hbd⟩:=Option.isSome_iff_exists.1 h3
   simp [program,h1,h2,hbd,Sem.run]
  rw [hrun]
  simp only [Oper.upon]
  refine h4.mono fun e w' he=> ?_
  obtain ⟨v,rfl,hv⟩:=he
  exact hk v w' hv
 ·rw [h1]
  exact hk v w' h2
theorem memB_iff:∀{l:List Nat} {i:Nat},Jg l i=true↔i∈l
 | [],i=>by simp [Jg]
 | a::l,i=>by
  simp only [Jg,xi]
  by_cases h:a=i
  ·simp [h]
  ·simp [h,memB_iff (l:=l),Ne.symm h]
theorem nodupB_iff:∀{l:List Nat},xV l=true↔l.Nodup
 | []=>by simp [xV]
 | a::l=>by
  simp only [xV,List.nodup_cons]
  cases h:Jg l a
  ·have:a ∉ l:=fun hm=>by rw [memB_iff.2 hm] at h;cases h
   simp [this,nodupB_iff (l:=l)]
  ·simp [memB_iff.1 h]
theorem kw:∀{l:List Nat} {r:List Blk},jE g l=some r→∀i∈l,(g i).isSome
 | [],r,_=>by simp
 | b::l,r,h=>by
  simp only [jE] at h
  split at h
  ·rename_i k r' hk hr
   simp only [List.mem_cons,forall_eq_or_imp]
   exact ⟨by simp [hk],kw hr⟩
  ·cases h
theorem jai:∀{l:List Nat} {bs:List Blk} {ws:List (Nat×Option Blk)},Xm l bs=some ws→ws.map (·.1)=l∧∀x∈ws,∃b∈bs,x.2=some b
 | [],[],ws,h=>by simp only [Xm] at h;cases h;simp
 | [],b::bs,ws,h=>by simp [Xm] at h
 | i::l,[],ws,h=>by simp [Xm] at h
 | i::l,b::bs,ws,h=>by
  simp only [Xm] at h
  split at h
  ·rename_i r hr
   cases h
   obtain ⟨h1,h2⟩:=jai hr
   refine ⟨by simp [h1],fun x hx=> ?_⟩
   rcases List.mem_cons.1 hx with rfl | hx
   ·exact ⟨b,by simp,rfl⟩
   ·obtain ⟨b',hb',he⟩:=h2 x hx
    exact ⟨b',by simp [hb'],he⟩
  ·cases h
theorem Y4:∀{l m:List Nat} {i:Nat},i∈jhm l m↔i∈l∨i∈m
 | [],m,i=>by simp [jhm]
 | a::l,m,i=>by simp only [jhm,List.mem_cons,Y4 (l:=l)];exact ⟨fun h=>h.elim (fun h=> .inl (.inl h)) (fun h=>h.elim (fun h=> .inl (.inr h)) .inr),fun h=>h.elim (fun h=>h.elim .inl fun h=> .inr (.inl h)) fun h=> .inr (.inr h)⟩
theorem jcS:∀{l:List (Nat×Nat)} {i:Nat},i∈jvf l→∃c∈l,c.1=i
 | [],i,h=>by cases h
 | c::l,i,h=>by
  simp only [jvf,List.mem_cons] at h
  rcases h with rfl | h
  ·exact ⟨c,List.mem_cons_self ..,rfl⟩
  ·obtain ⟨d,hd,e⟩:=jcS h
   exact ⟨d,List.mem_cons_of_mem _ hd,e⟩
theorem jim {q:Nat→Bool} {a:At} (h:a.ok q=true) {i:Nat} (hi:i∈Yo a):q i=true:=by
 cases a with
 | fn f caps=>
  simp only [At.ok,List.all_eq_true] at h
  obtain ⟨c,hc,rfl⟩:=jcS hi
  exact h c hc
 | ptr b o=>simp only [Yo,List.mem_singleton] at hi;subst hi;exact h
 | sl b o n c=>simp only [Yo,List.mem_singleton] at hi;subst hi;exact h
 | slu b n=>simp only [Yo,List.mem_singleton] at hi;subst hi;exact h
 | slx b o n c=>simp only [Yo,List.mem_singleton] at hi;subst hi;exact h
 | ptx b o=>simp only [Yo,List.mem_singleton] at hi;subst hi;exact h
 | slt b o n=>simp only [Yo,List.mem_singleton] at hi;subst hi;exact h
 | _=>cases hi
theorem jcT {q:Nat→Bool}:∀{l:List At},okL q l=true→∀{i:Nat},i∈jaJ l→q i=true
 | [],_,i,hi=>by cases hi
 | a::l,h,i,hi=>by
  simp only [okL] at h
  split at h
  ·rename_i ha
   simp only [jaJ,Y4] at hi
   rcases hi with hi | hi
   ·exact jim ha hi
   ·exact jcT h hi
  ·cases h
theorem Yc:∀{l:List Blk} {i:Nat},i∈jb9 l→∃b∈l,i∈jaJ b.cells
 | [],i,h=>by cases h
 | b::l,i,h=>by
  simp only [jb9,Y4] at h
  rcases h with h | h
  ·exact ⟨b,List.mem_cons_self ..,h⟩
  ·obtain ⟨c,hc,e⟩:=Yc h
   exact ⟨c,List.mem_cons_of_mem _ hc,e⟩
theorem KV:∀{l:List Nat} {r:List Blk},jE g l=some r→∀b∈r,∃i,g i=some b
 | [],r,h,b,hb=>by simp only [jE] at h;cases h;cases hb
 | a::l,r,h,b,hb=>by
  simp only [jE] at h
  split at h
  ·rename_i k r' hk hr
   cases h
   rcases List.mem_cons.1 hb with rfl | hb
   ·exact ⟨a,hk⟩
   ·exact KV hr b hb
  ·cases h
theorem jf6 {t:Tch} {d:Dl} (hg:∀i c,g i=some c→p i=true∧okL p c.cells=true) (h:jg9 t g nb=some d):OkD p g nb d:=by
 unfold jg9 at h
 split at h
 ·rename_i r ws' hr hw hnd
  split at h
  ·rename_i ans hans
   split at h
   ·rename_i ws hws
    split at h
    ·rename_i k1 k2 k3
     cases h
     have hname:∀i,qZ t nb (jb8 ans.nw) i=true→pn p nb ans.nw.length i=true:=by
      intro i hi
      unfold qZ at hi
      cases h1:Jg t.rd i with
      | true=>
       obtain ⟨c,hc⟩:=Option.isSome_iff_exists.1 (kw hr i (memB_iff.1 h1))
       exact yY (hg i c hc).1
      | false=>
       cases h2:Jg t.wr i with
       | true=>
        obtain ⟨c,hc⟩:=Option.isSome_iff_exists.1 (kw hw i (memB_iff.1 h2))
        exact yY (hg i c hc).1
       | false=>
        simp only [h1,h2,jaC,Ko,jbs] at hi
        by_cases h3:nb≤i
        ·simp only [h3,decide_true] at hi
         simp only [pn,h3,decide_true,Bool.true_and,hi,Bool.or_true]
        ·simp [h3] at hi
     obtain ⟨z1,z2⟩:=jai hws
     refine ⟨LV.ok_mono hname k1,fun x hx b hb=> ?_,Z2 hname k3,fun x hx=> ?_, ?_⟩
     ·obtain ⟨b',hb',he⟩:=z2 x hx
      rw [he] at hb
      rw [←Option.some.inj hb]
      refine jn (fun i hi=> ?_) (okBs_iff.1 k2 b' hb')
      unfold jBT at hi
      split at hi
      ·rename_i hm;exact hname i hm
      ·obtain ⟨kb,hkb,hir⟩:=Yc (memB_iff.1 hi)
       obtain ⟨j,hj⟩:=KV hw kb hkb
       exact yY (jcT (hg j kb hj).2 hir)
     ·exact kw hw x.1 (by rw [←z1];exact List.mem_map_of_mem hx)
     ·show (ws.map (·.1)).Nodup
      rw [z1]
      exact nodupB_iff.1 hnd
    ·cases h
   ·cases h
  ·cases h
 ·cases h
theorem Ku {t:Tch} {d:Dl} (h:jg9 t g nb=some d):∃rB wB ans ws,jE g t.rd=some rB∧jE g t.wr=some wB∧xV t.wr=true∧t.go rB wB nb=some ans∧Xm t.wr ans.wr=some ws∧d=⟨ans.val,ws,ans.nw,t.rd++t.wr,ans.cs⟩:=by
 unfold jg9 at h
 split at h
 ·rename_i rB wB hrB hwB hnd
  split at h
  ·rename_i ans hans
   split at h
   ·rename_i ws hws
    split at h
    ·cases h
     exact ⟨rB,wB,ans,ws,hrB,hwB,hnd,hans,hws,rfl⟩
    ·cases h
   ·cases h
  ·cases h
 ·cases h
theorem J5:∀l:List (Nat×Option Blk),Jh l=l.map (·.1)
 | []=>rfl
 | x::l=>by simp [Jh,J5 l]
theorem Qt {q:Nat→Bool}:∀{l:List (Nat×Option Blk)},jkr q l=true→∀x∈l,∀b,x.2=some b→okL q b.cells=true
 | [],_,x,hx=>by cases hx
 | (i,none)::l,h,x,hx=>by
  rcases List.mem_cons.1 hx with rfl | hx
  ·intro b hb;cases hb
  ·exact Qt (l:=l) h x hx
 | (i,some b)::l,h,x,hx=>by
  simp only [jkr] at h
  split at h
  ·rename_i hb
   rcases List.mem_cons.1 hx with rfl | hx
   ·intro c hc;cases hc;exact hb
   ·exact Qt h x hx
  ·cases h
theorem Xc:∀{l m:List Nat},Zz l m=true→∀i∈l,i∈m
 | [],_,_,i,hi=>by cases hi
 | a::l,m,h,i,hi=>by
  simp only [Zz] at h
  split at h
  ·rename_i ha
   rcases List.mem_cons.1 hi with rfl | hi
   ·exact memB_iff.1 ha
   ·exact Xc h i hi
  ·cases h
theorem Kv {args:List LV} {s:List LV→List Nat→List Blk→Nat→Option Dl} {seen:List Nat} {ks:List Blk} {d:Dl} (h:jvg args s seen ks nb=some d):
  ∃d0,s args seen ks nb=some d0∧(Jh d0.wr).Nodup∧(∀i∈Jh d0.wr,i∈seen)∧d0.val.ok (qZ ⟨seen,[],fun _ _ _=>none⟩ nb (jb8 d0.nw))=true∧okBs (qZ ⟨seen,[],fun _ _ _=>none⟩ nb (jb8 d0.nw)) d0.nw=true∧
   jkr (qZ ⟨seen,[],fun _ _ _=>none⟩ nb (jb8 d0.nw)) d0.wr=true∧d=⟨d0.val,d0.wr,d0.nw,seen,d0.cs⟩:=by
 unfold jvg at h
 split at h
 ·rename_i d0 hd0
  split at h
  ·rename_i h1 h2 h3
   split at h
   ·rename_i h4 h5
    cases h
    exact ⟨d0,hd0,nodupB_iff.1 h1,Xc h2,h3,h4,h5,rfl⟩
   ·cases h
  ·cases h
 ·cases h
theorem jlE {args:List LV} {s:List LV→List Nat→List Blk→Nat→Option Dl} {seen:List Nat} {ks:List Blk} {d:Dl} (hg:∀i c,g i=some c→p i=true∧okL p c.cells=true) (hl:jE g seen=some ks) (h:jvg args s seen ks nb=some d):OkD p g nb d:=by
 obtain ⟨d0,-,h1,h2,h3,h4,h5,rfl⟩:=Kv h
 have hname:∀i,qZ ⟨seen,[],fun _ _ _=>none⟩ nb (jb8 d0.nw) i=true→pn p nb d0.nw.length i=true:=by
  intro i hi
  unfold qZ at hi
  cases h1:Jg seen i with
  | true=>
   obtain ⟨c,hc⟩:=Option.isSome_iff_exists.1 (kw hl i (memB_iff.1 h1))
   exact yY (hg i c hc).1
  | false=>
   simp only [h1,Jg,jaC,Ko,jbs] at hi
   by_cases h3:nb≤i
   ·simp only [h3,decide_true] at hi
    simp only [pn,h3,decide_true,Bool.true_and,hi,Bool.or_true]
   ·simp [h3] at hi
 refine ⟨LV.ok_mono hname h3,fun x hx b hb=>jn hname (Qt h5 x hx b hb),Z2 hname h4,fun x hx=> ?_, ?_⟩
 ·exact kw hl x.1 (h2 x.1 (by rw [J5];exact List.mem_map_of_mem hx))
 ·rw [←J5];exact h1
theorem jf7 {S:FuncId→Option SumK} (hS:AllOK P S) (hτ:∀t,a.eval (.tmp t)=(τ t).den E) (hp:∀t,(τ t).ok p=true) {o:Oper} {c:Call} {f:FuncId} {args:List LV} {s:SumK} {d:Dl} (ho:o.op = .call c)
  (hc:callee τ c=some (f,args)) (hs:S f=some s) (h:jc4 s args g nb=some d) (hr:Rel E g w) (hg:∀i c,g i=some c→p i=true∧okL p c.cells=true)
  (hn:∀i,nb≤i→i<nb+d.nw.length→p i=false):StepOK P o a w E g nb d:=by
 have hK:=hS f s hs
 cases s with
 | old s=>
  simp only [jc4] at h
  split at h
  ·rename_i t ht
   obtain ⟨rB,wB,ans,ws,hrB,hwB,hnd,hans,hws,rfl⟩:=Ku h
   intro hcs K Q hk
   refine CallOK.wp ho hτ hc (hK args t g nb p rB wB ans ws E w ht hrB hwB hnd hans hws hcs hr hg (zH hp hc) hn) ?_
   rintro v w' ⟨E',rfl,hpost⟩
   exact hk E' w' ⟨hpost.agree,hpost.rel,hpost.os,hpost.tape,hpost.output,hpost.size,hpost.frame,hpost.fresh⟩
  ·cases h
 | peek s=>
  simp only [jc4] at h
  split at h
  ·rename_i t ht
   split at h
   ·obtain ⟨rB,wB,ans,ws,hrB,hwB,hnd,hans,hws,rfl⟩:=Ku h
    intro hcs K Q hk
    refine CallOK.wp ho hτ hc (hK args t g nb p rB wB ans ws E w ht hrB hwB hnd hans hws hcs hr hg (zH hp hc) hn) ?_
    rintro v w' ⟨E',rfl,hpost⟩
    exact hk E' w' ⟨hpost.agree,hpost.rel,hpost.os,hpost.tape,hpost.output,hpost.size,hpost.frame,hpost.fresh⟩
   ·cases h
  ·cases h
 | gen s=>
  simp only [jc4] at h
  split at h
  ·rename_i seen hseen
   split at h
   ·rename_i ks hks
    obtain ⟨d0,hd0,k1,-,-,-,-,rfl⟩:=Kv h
    intro hcs K Q hk
    refine CallOK.wp ho hτ hc (hK args seen ks g nb p d0 E w hks hd0 k1 hcs hr hg (zH hp hc) hn) ?_
    rintro v w' ⟨E',rfl,hpost⟩
    exact hk E' w' ⟨hpost.agree,hpost.rel,hpost.os,hpost.tape,hpost.output,hpost.size,hpost.frame,hpost.fresh⟩
   ·cases h
  ·cases h
theorem StepOK.of_pick {o:Oper} {c x y:Operand} {pd:Option Bool} {d:Dl} (hτ:∀t,a.eval (.tmp t)=(τ t).den E) (ho:o.op = .pick c x y) (h:jaH τ pd c x y=some d) (hr:Rel E g w):StepOK P o a w E g nb d:=by
 obtain ⟨h1,h2,h3⟩:=jdB (P:=P) (w:=w) hτ h
 intro hc K Q hk
 have:=h3 hc
 unfold Oper.wp execOp
 simp only [ho]
 rw [this]
 exact hk E w (.refl h1 h2 hr)
theorem Xy {o:Oper} {x:Operand} {v:LV} {d:Dl} (ho:o.op = .nilCheck x) (hx:a.eval x=v.den E) (h:zf v=some d) (hr:Rel E g w):StepOK P o a w E g nb d:=by
 unfold zf at h
 split at h
 ·refine .of_pur (s:=pure (a.eval x)) hr (jX h (by rw [hx];rfl)) ?_
  simp [execOp,ho,hx,LV.den,V1.den,At.den]
 ·refine .of_pur (s:=pure (a.eval x)) hr (jX h (by rw [hx];rfl)) ?_
  simp [execOp,ho,hx,LV.den,V1.den,At.den]
 ·refine .of_pur (s:=pure (a.eval x)) hr (jX h (by rw [hx];rfl)) ?_
  simp [execOp,ho,hx,LV.den,V1.den,At.den]
 ·cases h
theorem jaj {v:LV} {d:Dl} (h:zf v=some d) (hv:v.ok p=true):OkD p g nb d:=by
 unfold zf at h
 split at h
 ·exact .val1 h hv
 ·exact .val1 h hv
 ·exact .val1 h hv
 ·cases h
theorem jin {S:FuncId→Option SumK} (hS:AllOK P S) (hτ:∀t,a.eval (.tmp t)=(τ t).den E) (hp:∀t,(τ t).ok p=true) {z:Bool} {pd:Option Bool} {o:Oper} {d:Dl}
  (hbin:∀(op:BinOp) (t:TypeId) (x y:LV) (xo yo:Operand) (kn:Bool) (d:Dl),a.eval xo=x.den E→a.eval yo=y.den E→jot P op t x y kn=some d→
   Pur P E w (do eqGuard op t xo yo (x.den E) (y.den E);binOp op t (x.den E) (y.den E)) d)
  (h:opD P S z τ g nb pd o.op=some d) (hr:Rel E g w) (hg:∀i c,g i=some c→p i=true∧okL p c.cells=true) (hn:∀i,nb≤i→i<nb+d.nw.length→p i=false):
  StepOK P o a w E g nb d:=by
 cases ho:o.op <;> rw [ho] at h <;> simp only [opD,on1,on2,onL,onP,jer,reduceCtorEq] at h
 case move x=>
  split at h
  ·rename_i v hv
   cases h
   refine .of_pur (s:=pure (a.eval x)) hr (.of_run (by simp [kj hτ hv])) (by simp [execOp,ho])
  ·cases h
 case assign x=>
  split at h
  ·rename_i v hv
   cases h
   refine .of_pur (s:=pure (a.eval x)) hr (.of_run (by simp [kj hτ hv])) (by simp [execOp,ho])
  ·cases h
 case pick c x y=>exact .of_pick hτ ho h hr
 case alloc t=>exact jbx ho h hr hg hn
 case box t x=>
  split at h
  ·rename_i v hv
   exact jfN ho (kj hτ hv) (yX hp hv) h hr hg hn
  ·cases h
 case build t parts=>
  split at h
  ·rename_i l hl
   refine .of_pur hr (jbC h) ?_
   have h2:(parts.map fun (i,x)=>(i,a.eval x))=(l.map fun q=>(q.1,q.2.den E)).toArray:=by
    rw [←zB hτ hl]
    rcases parts with ⟨l⟩
    simp
   simp only [execOp,ho,h2]
  ·cases h
 case buildSlice t n parts=>
  split at h
  ·rename_i l hl
   exact Qa ho (zB hτ hl) (z0 hp hl) h hr hg hn
  ·cases h
 case load t x=>
  split at h
  ·rename_i v hv
   exact .of_pur hr (jbz hr h) (by simp [execOp,ho,kj hτ hv])
  ·cases h
 case store t x y=>
  split at h
  ·rename_i v hv
   split at h
   ·rename_i u hu
    exact jbA ho (kj hτ hv) (kj hτ hu) h hr
   ·cases h
  ·cases h
 case nilCheck x=>
  split at h
  ·rename_i v hv
   exact Xy ho (kj hτ hv) h hr
  ·cases h
 case binOp op t x y ty=>
  split at h
  ·rename_i v hv
   split at h
   ·rename_i u hu
    have h1:=kj hτ hv
    have h2:=kj hτ hu
    refine .of_pur hr (hbin op t v u x y _ d h1 h2 h) ?_
    simp only [execOp,ho,h1,h2]
   ·cases h
  ·cases h
 case unOp op t x=>
  split at h
  ·rename_i v hv
   exact .of_pur hr (jid h) (by simp [execOp,ho,kj hτ hv])
  ·cases h
 case convert t u x=>
  split at h
  ·rename_i v hv
   exact .of_pur hr (jdv h) (by simp [execOp,ho,kj hτ hv])
  ·cases h
 case makeFunc f first caps=>
  split at h
  ·rename_i l hl
   refine .of_pur hr (Xv (a:=a) h) ?_
   have h2:caps.map a.eval=(l.map (LV.den E)).toArray:=by
    rw [←J3 hτ hl]
    rcases caps with ⟨l⟩
    simp
   simp only [execOp,ho,h2]
   rcases first with ⟨l⟩
   simp
  ·cases h
 case slice t x lo hi mx=>
  unfold slD at h
  split at h
  ·rename_i l hl
   split at h
   ·rename_i u hu
    split at h
    ·rename_i m hm
     simp only [on1] at h
     split at h
     ·rename_i v hv
      have oe:∀{y:Option Operand} {q:Option LV},jhl τ y=some q→y.map a.eval=q.map (LV.den E):=by
       intro y q hq
       cases y with
       | none=>simp only [jhl] at hq;cases hq;rfl
       | some z=>
        simp only [jhl] at hq
        split at hq
        ·rename_i q' hq';cases hq;simp [kj hτ hq']
        ·cases hq
      have e1:=oe hl
      have e2:=oe hu
      have e3:=oe hm
      have hex:execOp a.eval o=(do pure (.value (←Instr.sliceAt t (v.den E) (l.map (LV.den E)) (u.map (LV.den E)) (m.map (LV.den E))))):=by
       simp [execOp,ho,kj hτ hv,e1,e2,e3]
      unfold QD at h
      split at h
      ·split at h
       ·exact .of_pur hr (jbH hr h) hex
       ·cases h
      ·split at h
       ·rename_i b n hb
        have:=jdG hb
        subst this
        exact jbG hex rfl h hr hg hn
       ·exact .of_pur hr (jbw h) hex
     ·cases h
    ·cases h
   ·cases h
  ·cases h
 case sliceToArrayPointer t x=>
  split at h
  ·rename_i v hv
   exact .of_pur hr (Z7 h) (by simp [execOp,ho,kj hτ hv])
  ·cases h
 case fieldAddr t x i=>
  split at h
  ·rename_i v hv
   exact .of_pur hr (Q6 h) (by simp [execOp,ho,kj hτ hv])
  ·cases h
 case field t x i=>
  split at h
  ·rename_i v hv
   exact .of_pur hr (jbu h) (by simp [execOp,ho,kj hτ hv])
  ·cases h
 case indexAddr t x i=>
  split at h
  ·rename_i v hv
   split at h
   ·rename_i u hu
    exact .of_pur hr (Q7 h) (by simp [execOp,ho,kj hτ hv,kj hτ hu])
   ·cases h
  ·cases h
 case index t x i=>
  split at h
  ·rename_i v hv
   split at h
   ·rename_i u hu
    exact .of_pur hr (jbv h) (by simp [execOp,ho,kj hτ hv,kj hτ hu])
   ·cases h
  ·cases h
 case extract x i=>
  split at h
  ·rename_i v hv
   exact .of_pur hr (YX h) (by simp [execOp,ho,kj hτ hv])
  ·cases h
 case call c=>
  unfold jho at h
  split at h
  ·rename_i hb
   simp only [onL] at h
   split at h
   ·rename_i l hl
    have h2:c.args.map a.eval=(l.map (LV.den E)).toArray:=by
     rw [←J3 hτ hl]
     rcases c with ⟨_,⟨l⟩,_⟩
     simp
    exact jae ho hb h2 h hr hg hn
   ·cases h
  ·rename_i b _ hb
   simp only [onL] at h
   split at h
   ·rename_i l hl
    have h2:c.args.map a.eval=(l.map (LV.den E)).toArray:=by
     rw [←J3 hτ hl]
     rcases c with ⟨_,⟨l⟩,_⟩
     simp
    unfold zQ at h
    split at h
    ·exact jdD ho hb h2 h hr
    ·exact jbI ho hb h2 h hr
    unfold Yq at h
    split at h
    ·rename_i t x he1 _ _ _
     have h3:c.argTypes = #[t]:=by
      rcases c with ⟨_,_,⟨l⟩⟩
      simpa using he1
     refine .of_pur hr (jfK (ty:=o.type) h) ?_
     simp [execOp,ho,resolve,hb,h2,h3,invoke,builtin]
    ·refine .of_pur hr (jfL (ts:=c.argTypes) (ty:=o.type) h) ?_
     simp [execOp,ho,resolve,hb,h2,invoke,builtin]
    ·refine .of_pur hr (jfM (ts:=c.argTypes) (ty:=o.type) h) ?_
     simp [execOp,ho,resolve,hb,h2,invoke,builtin]
    ·cases h
   ·cases h
  ·split at h
   ·rename_i f args hc
    split at h
    ·rename_i s hs
     exact jf7 hS hτ hp ho hc hs h hr hg hn
    ·cases h
   ·cases h
theorem jqr {S:FuncId→Option SumK} (hp:∀t,(τ t).ok p=true) {z:Bool} {pd:Option Bool} {op:Op} {d:Dl} (h:opD P S z τ g nb pd op=some d)
  (hg:∀i c,g i=some c→p i=true∧okL p c.cells=true):OkD p g nb d:=by
 cases op <;> simp only [opD,on1,on2,onL,onP,jer,reduceCtorEq] at h
 case move x=>
  split at h
  ·rename_i v hv;cases h;exact .plain rfl rfl (yX hp hv)
  ·cases h
 case assign x=>
  split at h
  ·rename_i v hv;cases h;exact .plain rfl rfl (yX hp hv)
  ·cases h
 case pick c x y=>exact jii hp h
 case alloc t=>exact jf0 h
 case box t x=>
  split at h
  ·rename_i v hv;exact jlD h (yX hp hv)
  ·cases h
 case build t parts=>
  split at h
  ·rename_i l hl;exact jfZ h (z0 hp hl)
  ·cases h
 case buildSlice t n parts=>
  split at h
  ·rename_i l hl;exact Xx h (z0 hp hl)
  ·cases h
 case load t x=>
  split at h
  ·exact jf1 hg h
  ·cases h
 case store t x y=>
  split at h
  ·split at h
   ·rename_i u hu;exact jf5 hg (yX hp hu) h
   ·cases h
  ·cases h
 case nilCheck x=>
  split at h
  ·rename_i v hv
   exact jaj h (yX hp hv)
  ·cases h
 case binOp op t x y ty=>
  split at h
  ·split at h
   ·unfold jot at h
    split at h
    ·split at h
     ·exact jig h
     ·cases h
    ·split at h
     ·split at h
      ·unfold jkq at h
       split at h
       ·split at h
        ·exact .val1 h rfl
        ·cases h
       ·split at h
        ·exact .val1 h rfl
        ·cases h
       ·cases h
      ·cases h
     ·cases h
   ·cases h
  ·cases h
 case unOp op t x=>
  split at h
  ·exact jqq h
  ·cases h
 case convert t u x=>
  split at h
  ·exact jih h
  ·cases h
 case makeFunc f first caps=>
  split at h
  ·rename_i l hl;exact jaf h (jfE hp hl)
  ·cases h
 case slice t x lo hi mx=>
  unfold slD at h
  split at h
  ·split at h
   ·split at h
    ·simp only [on1] at h
     split at h
     ·rename_i v hv;exact jfX hg h (yX hp hv)
     ·cases h
    ·cases h
   ·cases h
  ·cases h
 case sliceToArrayPointer t x=>
  split at h
  ·rename_i v hv;exact jdF h (yX hp hv)
  ·cases h
 case fieldAddr t x i=>
  split at h
  ·rename_i v hv;exact Y2 h (yX hp hv)
  ·cases h
 case field t x i=>
  split at h
  ·rename_i v hv;exact jfS h (yX hp hv)
  ·cases h
 case indexAddr t x i=>
  split at h
  ·rename_i v hv
   split at h
   ·exact Y3 h (yX hp hv)
   ·cases h
  ·cases h
 case index t x i=>
  split at h
  ·rename_i v hv
   split at h
   ·exact jfT h (yX hp hv)
   ·cases h
  ·cases h
 case extract x i=>
  split at h
  ·rename_i v hv;exact jbJ h (yX hp hv)
  ·cases h
 case call c=>
  unfold jho at h
  split at h
  ·simp only [onL] at h
   split at h
   ·exact jdI hg h
   ·cases h
  ·simp only [onL] at h
   split at h
   ·unfold zQ at h
    split at h
    ·exact jil hg h
    ·exact jf4 hg h
    unfold Yq at h
    split at h
    ·exact jlC h
    ·exact Yb h
    ·exact Yb h
    ·cases h
   ·cases h
  ·split at h
   ·split at h
    ·rename_i s _
     cases s with
     | old s=>
      simp only [jc4] at h
      split at h
      ·exact jf6 hg h
      ·cases h
     | peek s=>
      simp only [jc4] at h
      split at h
      ·split at h
       ·exact jf6 hg h
       ·cases h
      ·cases h
     | gen s=>
      simp only [jc4] at h
      split at h
      ·split at h
       ·rename_i ks hks
        exact jlE hg hks h
       ·cases h
      ·cases h
    ·cases h
   ·cases h
end
end Go.Lr

/- The local evaluator's steps: states, their relation to the model's, and how it goes from one to the next. -/
namespace Go.Lr
open Go.RowKit
def below (n:Nat):Nat→Bool:=fun i=>decide (i<n)
structure MRel (E:Env) (s:St) (w:World):Prop where
 rel:Rel E (getM s.mem) w
 okM:∀i b,getM s.mem i=some b→i<s.nb∧okL (below s.nb) b.cells=true
 uq:uniq s.mem
structure R (E:Env) (s:St) (a:Act) (w:World):Prop where
 size:a.tmps.size=s.sz
 le:s.sz≤60000
 tm:∀t:Nat,a.tmps.getD t undef=(getT s.tm t).den E
 defers:a.defers=[]
 okT:∀t,(getT s.tm t).ok (below s.nb)=true
 m:MRel E s w
structure Ext (w:World) (E:Env) (s:St) (w':World) (E':Env) (s':St):Prop where
 nb:s.nb≤s'.nb
 agree:∀i,i<s.nb→E' i=E i
 os:w'.os=w.os
 tape:w'.tape=w.tape
 output:w'.output=w.output
 size:w.heap.size≤w'.heap.size
 frame:∀b,b<w.heap.size→(∀i,(getM s.mem i).isSome→(E i).1≠b)→w'.heap[b]? = w.heap[b]?
 src:∀i,(getM s'.mem i).isSome→w.heap.size≤(E' i).1∨∃j,(getM s.mem j).isSome∧(E' i).1=(E j).1
theorem Ext.refl (w:World) (E:Env) (s:St):Ext w E s w E s:=
 ⟨Nat.le_refl _,fun _ _=>rfl,rfl,rfl,rfl,Nat.le_refl _,fun _ _ _=>rfl,fun i hi=> .inr ⟨i,hi,rfl⟩⟩
theorem Ext.trans {w w1 w2:World} {E E1 E2:Env} {s s1 s2:St} (h:Ext w E s w1 E1 s1) (k:Ext w1 E1 s1 w2 E2 s2):Ext w E s w2 E2 s2:=by
 refine ⟨Nat.le_trans h.nb k.nb,fun i hi=>(k.agree i (Nat.lt_of_lt_of_le hi h.nb)).trans (h.agree i hi),k.os.trans h.os,k.tape.trans h.tape,k.output.trans h.output,Nat.le_trans h.size k.size,fun b hb hn=> ?_,fun i hi=> ?_⟩
 ·rw [←h.frame b hb hn]
  refine k.frame b (Nat.lt_of_lt_of_le hb h.size) fun i hi he=> ?_
  rcases h.src i hi with h1 | ⟨j,hj,h1⟩
  ·omega
  ·exact hn j hj (h1.symm.trans he)
 ·rcases k.src i hi with h1 | ⟨j,hj,h1⟩
  ·exact .inl (Nat.le_trans h.size h1)
  ·rcases h.src j hj with h2 | ⟨q,hq,h2⟩
   ·exact .inl (by omega)
   ·exact .inr ⟨q,hq,h1.trans h2⟩
def Good (s:St):Prop:=∀c∈s.cs,c.1=c.2
theorem Kw {β:Type}:∀(m:Mem) (l:List (Nat×Option Blk)) (k:Mem→β),YM m l k=k (xg m l)
 | _,[],_=>rfl
 | m,(i,s)::l,k=>by simp only [YM,xg,jcJ,Kw]
theorem Kx {β:Type}:∀(m:Mem) (nb:Nat) (l:List Blk) (k:Mem→Nat→β),YN m nb l k=k (xh m nb l) (nb+l.length)
 | _,_,[],_=>rfl
 | m,nb,b::l,k=>by
  simp only [YN,xh,JU,Kx,List.length_cons]
  congr 1
  omega
theorem Y5 {β:Type}:∀(lg:List Nat) (l:List (Nat×Option Blk)) (k:List Nat→β),∃lg',jqm lg l k=k lg'∧(∀i∈lg,i∈lg')∧∀x∈l,x.1∈lg'
 | lg,[],k=>⟨lg,rfl,fun _ h=>h,by simp⟩
 | lg,x::l,k=>by
  simp only [jqm]
  split
  ·rename_i h
   obtain ⟨lg',h1,h2,h3⟩:=Y5 lg l k
   refine ⟨lg',h1,h2,fun y hy=> ?_⟩
   rcases List.mem_cons.1 hy with rfl | hy
   ·exact h2 _ (memB_iff.1 h)
   ·exact h3 y hy
  ·obtain ⟨lg',h1,h2,h3⟩:=Y5 (x.1::lg) l k
   refine ⟨lg',h1,fun i hi=>h2 i (List.mem_cons_of_mem _ hi),fun y hy=> ?_⟩
   rcases List.mem_cons.1 hy with rfl | hy
   ·exact h2 _ (List.mem_cons_self ..)
   ·exact h3 y hy
theorem qh {β:Type}:∀{z:Bool} {l old:List (Bool×Bool)} {k:List (Bool×Bool)→Option β} {r:β},csK z l old k=some r→
  ∃new,k new=some r∧((∀c∈new,c.1=c.2)→(∀c∈l,c.1=c.2)∧(∀c∈old,c.1=c.2))
 | z,[],old,k,r,h=>⟨old,by cases z <;> exact h,fun hc=>⟨by simp,hc⟩⟩
 | false,c::l,old,k,r,h=>by
  simp only [csK] at h
  obtain ⟨new,h1,h2⟩:=qh h
  refine ⟨c::new,h1,fun hc=> ?_⟩
  have:=h2 fun x hx=>hc x (by simp [hx])
  refine ⟨fun x hx=> ?_,this.2⟩
  rcases List.mem_cons.1 hx with rfl | hx
  ·exact hc x (by simp)
  ·exact this.1 x hx
 | true,(true,true)::l,old,k,r,h=>by
  simp only [csK] at h
  obtain ⟨new,h1,h2⟩:=qh h
  refine ⟨new,h1,fun hc=>⟨fun x hx=> ?_,(h2 hc).2⟩⟩
  rcases List.mem_cons.1 hx with rfl | hx
  ·rfl
  ·exact (h2 hc).1 x hx
 | true,(false,false)::l,old,k,r,h=>by
  simp only [csK] at h
  obtain ⟨new,h1,h2⟩:=qh h
  refine ⟨new,h1,fun hc=>⟨fun x hx=> ?_,(h2 hc).2⟩⟩
  rcases List.mem_cons.1 hx with rfl | hx
  ·rfl
  ·exact (h2 hc).1 x hx
 | true,(true,false)::l,old,k,r,h=>by simp [csK] at h
 | true,(false,true)::l,old,k,r,h=>by simp [csK] at h
theorem JC:∀(l:List (Nat×Option Blk)) (m:Mem),uniq m→uniq (xg m l)
 | [],_,h=>h
 | (i,s)::l,m,h=>JC l _ (QU m i s h)
theorem xR:∀(l:List (Nat×Option Blk)) (m:Mem),uniq m→(∀x∈l,(getM m x.1).isSome)→(l.map (·.1)).Nodup→∀k,getM (xg m l) k=wrG (getM m) l k
 | [],_,_,_,_,_=>rfl
 | (i,s)::l,m,hu,hl,hn,k=>by
  have hi:(getM m i).isSome:=hl (i,s) (by simp)
  have hset:∀j,getM (jc2 m i s) j=if j=i then s else getM m j:=fun j=>QT m i s j hu hi
  simp only [List.map_cons,List.nodup_cons] at hn
  simp only [xg,wrG]
  rw [xR l _ (QU m i s hu) (fun x hx=>by
   rw [hset,if_neg (fun e=>hn.1 (by rw [←e];exact List.mem_map_of_mem hx))]
   exact hl x (by simp [hx])) hn.2 k]
  congr 1
  funext j
  exact hset j
theorem JD:∀(l:List Blk) (m:Mem) (nb:Nat) (k:Nat),getM (xh m nb l) k=nwG (getM m) nb l k
 | [],_,_,_=>rfl
 | b::l,m,nb,k=>by
  simp only [xh,nwG]
  rw [JD l]
  congr 1
  funext j
  exact jz nb b m j
theorem JE:∀(l:List Blk) (m:Mem) (nb:Nat),uniq m→(∀i,nb≤i→getM m i=none)→uniq (xh m nb l)
 | [],_,_,h,_=>h
 | b::l,m,nb,h,hf=>by
  refine JE l _ (nb+1) ⟨hf nb (Nat.le_refl _),h⟩ fun i hi=> ?_
  rw [jz,if_neg (by omega)]
  exact hf i (by omega)
theorem qy {g:Nat→Option Blk}:∀(l:List (Nat×Option Blk)) (k:Nat),(∀x∈l,x.1≠k)→wrG g l k=g k
 | [],_,_=>rfl
 | (i,s)::l,k,h=>by
  simp only [wrG]
  have hne:¬k=i:=fun e=>h (i,s) (by simp) e.symm
  have:(fun j=>if j=i then s else g j) k=g k:=by simp [hne]
  rw [←this]
  exact qy (g:=fun j=>if j=i then s else g j) l k fun x hx=>h x (by simp [hx])
theorem Ky {g:Nat→Option Blk}:∀(l:List (Nat×Option Blk)) (k:Nat) (b:Blk),wrG g l k=some b→g k=some b∨∃x∈l,x.1=k∧x.2=some b
 | [],_,_,h=> .inl h
 | (i,s)::l,k,b,h=>by
  simp only [wrG] at h
  rcases Ky l k b h with h | ⟨x,hx,h1,h2⟩
  ·by_cases hk:k=i
   ·rw [if_pos hk] at h;exact .inr ⟨(i,s),by simp,hk.symm,h⟩
   ·rw [if_neg hk] at h;exact .inl h
  ·exact .inr ⟨x,by simp [hx],h1,h2⟩
theorem Xd {g:Nat→Option Blk}:∀(l:List Blk) (nb k:Nat) (b:Blk),nwG g nb l k=some b→g k=some b∨(nb≤k∧k<nb+l.length∧b∈l)
 | [],_,_,_,h=> .inl h
 | c::l,nb,k,b,h=>by
  simp only [nwG] at h
  rcases Xd l (nb+1) k b h with h | ⟨h1,h2,h3⟩
  ·by_cases hk:k=nb
   ·rw [if_pos hk] at h;cases h;exact .inr ⟨by omega,by simp;omega,by simp⟩
   ·rw [if_neg hk] at h;exact .inl h
  ·exact .inr ⟨by omega,by simp;omega,by simp [h3]⟩
theorem Qu {nb k i:Nat} (h:pn (below nb) nb k i=true):below (nb+k) i=true:=by
 simp only [pn,below,Bool.or_eq_true,decide_eq_true_eq,Bool.and_eq_true] at h ⊢
 omega
section
variable {P:Program} {E:Env} {a:Act} {w:World}
theorem MRel.post {s:St} {d:Dl} {E':Env} {w':World} {tm:Tr} {sz:Nat} {dec:List (Option Bool)} {cs:List (Bool×Bool)} {lg:List Nat} (hm:MRel E s w) (hd:OkD (below s.nb) (getM s.mem) s.nb d) (hp:Post w E (getM s.mem) s.nb d E' w'):
  MRel E' ⟨tm,sz,xh (xg s.mem d.wr) s.nb d.nw,s.nb+d.nw.length,dec,cs,lg⟩ w'∧Ext w E s w' E' ⟨tm,sz,xh (xg s.mem d.wr) s.nb d.nw,s.nb+d.nw.length,dec,cs,lg⟩:=by
 have hfree:∀i,s.nb≤i→getM s.mem i=none:=by
  intro i hi
  cases h:getM s.mem i with
  | none=>rfl
  | some b=>have:=(hm.okM i b h).1;omega
 have hget:getM (xh (xg s.mem d.wr) s.nb d.nw)=nwG (wrG (getM s.mem) d.wr) s.nb d.nw:=by
  funext k
  rw [JD]
  congr 1
  funext j
  exact xR d.wr s.mem hm.uq hd.live hd.nd j
 have hsrc:∀i b,nwG (wrG (getM s.mem) d.wr) s.nb d.nw i=some b→
   ((getM s.mem i).isSome∧(getM s.mem i=some b∨∃x∈d.wr,x.1=i∧x.2=some b))∨(s.nb≤i∧i<s.nb+d.nw.length∧b∈d.nw):=by
  intro i b h
  rcases Xd _ _ _ _ h with h | h
  ·rcases Ky _ _ _ h with h | ⟨x,hx,h1,h2⟩
   ·exact .inl ⟨by simp [h],.inl h⟩
   ·exact .inl ⟨by rw [←h1];exact hd.live x hx,.inr ⟨x,hx,h1,h2⟩⟩
  ·exact .inr h
 refine ⟨⟨by rw [hget];exact hp.rel,fun i b h=> ?_, ?_⟩,⟨Nat.le_add_right _ _,fun i hi=>hp.agree i (.inl hi),hp.os,hp.tape,hp.output,hp.size,hp.frame,fun i hi=> ?_⟩⟩
 ·rw [hget] at h
  rcases hsrc i b h with ⟨h0,h1 | ⟨x,hx,h1,h2⟩⟩ | ⟨h1,h2,h3⟩
  ·obtain ⟨g1,g2⟩:=hm.okM i b h1
   exact ⟨by show i<s.nb+_;omega,jn (fun j hj=>Qu (yY hj)) g2⟩
  ·obtain ⟨c,hc⟩:=Option.isSome_iff_exists.1 h0
   have g1:=(hm.okM i c hc).1
   exact ⟨by show i<s.nb+_;omega,jn (fun j hj=>Qu hj) (hd.wr x hx b h2)⟩
  ·exact ⟨h2,jn (fun j hj=>Qu hj) (okBs_iff.1 hd.nw b h3)⟩
 ·refine JE _ _ _ (JC _ _ hm.uq) fun i hi=> ?_
  rw [xR d.wr s.mem hm.uq hd.live hd.nd i,qy]
  ·exact hfree i hi
  ·intro x hx e
   have:=hd.live x hx
   rw [e,hfree i hi] at this
   cases this
 ·obtain ⟨b,hb⟩:=Option.isSome_iff_exists.1 hi
  rw [hget] at hb
  rcases hsrc i b hb with ⟨h0,_⟩ | ⟨h1,h2,_⟩
  ·obtain ⟨c,hc⟩:=Option.isSome_iff_exists.1 h0
   exact .inr ⟨i,h0,by rw [hp.agree i (.inl (hm.okM i c hc).1)]⟩
  ·exact hp.fresh i h1 h2
def updτ (τ:Nat→LV) (dst:Option Tmp) (v:LV):Nat→LV:=
 match dst with
 | some d=>fun t=>if t=d then v else τ t
 | none=>τ
theorem jB5 (d sz:Nat) (h1:d<sz) (h2:sz≤60000):d+1<2 ^ 16:=by omega
theorem J6 (xs:Array Value) (d t:Nat) (v:Value) (hd:d<xs.size):(xs.setIfInBounds d v).getD t undef=if t=d then v else xs.getD t undef:=by
 by_cases h:t=d
 ·subst h
  simp [hd]
 ·rw [if_neg h]
  simp [Array.getElem?_setIfInBounds_ne (Ne.symm h)]
theorem jjJ {s:St} (hsz:a.tmps.size=s.sz) (hle:s.sz≤60000) {dst:Option Tmp} {v:LV} {β:Type} {k:Tr→Option β} {r:β} (h:jdm s dst v k=some r):
  ∃tm,k tm=some r∧(getT tm=updτ (getT s.tm) dst v∧∀d,dst=some d→d<s.sz)∧∀E':Env,(a.put dst (v.den E')).tmps.size=s.sz∧
   ((∀t:Nat,a.tmps.getD t undef=(getT s.tm t).den E')→∀t:Nat,(a.put dst (v.den E')).tmps.getD t undef=(getT tm t).den E'):=by
 unfold jdm at h
 split at h
 ·rename_i d
  split at h
  ·rename_i hlt
   rw [Ko] at hlt
   have hlt':d<s.sz:=by simpa using hlt
   rw [JT] at h
   refine ⟨_,h,⟨?_,fun d' hd=>by cases hd;exact hlt'⟩,fun E'=>⟨by simp [Act.put,hsz],fun ht t=> ?_⟩⟩
   ·funext t
    exact ym 16 s.tm d v t (jB5 d s.sz hlt' hle)
   ·rw [ym 16 s.tm d v t (jB5 d s.sz hlt' hle)]
    simp only [Act.put]
    rw [J6 a.tmps d t _ (by rw [hsz];exact hlt')]
    by_cases hh:t=d
    ·rw [if_pos hh,if_pos hh]
    ·rw [if_neg hh,if_neg hh,ht t]
  ·cases h
 ·exact ⟨s.tm,h,⟨rfl,fun d hd=>by cases hd⟩,fun E'=>⟨hsz,fun ht t=>ht t⟩⟩
theorem jak {β:Type} {z:Md} {s:St} {dst:Option Tmp} {d:Dl} {dec:List (Option Bool)} {cs:List (Bool×Bool)} {k:St→Option β} {r:β} (hsz:a.tmps.size=s.sz) (hle:s.sz≤60000)
  (h:jh7 z s dst d dec cs k=some r):
  ∃s1,k s1=some r∧(Good s1→(∀c∈d.cs,c.1=c.2)∧(∀c∈cs,c.1=c.2)∧Good s)∧s1.dec=dec∧s1.sz=s.sz∧s1.nb=s.nb+d.nw.length∧s1.mem=xh (xg s.mem d.wr) s.nb d.nw∧
   (getT s1.tm=updτ (getT s.tm) dst d.val∧∀d',dst=some d'→d'<s.sz)∧
   ∀E',(a.put dst (d.val.den E')).tmps.size=s.sz∧((∀t:Nat,a.tmps.getD t undef=(getT s.tm t).den E')→∀t:Nat,(a.put dst (d.val.den E')).tmps.getD t undef=(getT s1.tm t).den E'):=by
 unfold jh7 at h
 rw [JU,JV] at h
 obtain ⟨tm,h1,h2,h7⟩:=jjJ hsz hle h
 rw [Kw,Kx] at h1
 obtain ⟨lg',hlg,-,-⟩:=Y5 s.lg d.wr (fun lg=>csK z.z d.cs s.cs fun c1=>csK z.z cs c1 fun c2=>k ⟨tm,s.sz,xh (xg s.mem d.wr) s.nb d.nw,s.nb+d.nw.length,dec,c2,lg⟩)
 rw [hlg] at h1
 obtain ⟨c1,h3,h4⟩:=qh h1
 obtain ⟨c2,h5,h6⟩:=qh h3
 refine ⟨_,h5,fun hg=> ?_,rfl,rfl,rfl,rfl,h2,h7⟩
 have g1:=h6 hg
 have g2:=h4 g1.2
 exact ⟨g2.1,g1.1,g2.2⟩
end
end Go.Lr
