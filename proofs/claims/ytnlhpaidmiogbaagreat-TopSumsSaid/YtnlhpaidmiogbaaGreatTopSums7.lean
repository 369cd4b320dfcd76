/- Joined texts. What each part proves stands ahead of it; no condition. -/
import Derived.Test.YtnlhpaidmiogbaaGreatLrM6
import Derived.Test.YtnlhpaidmiogbaaGreatLrM4

/- Summaries of what the laws of an aided filter reach: samples, the heading, jumps. -/
namespace Go.Proofs.YtnlhpaidmiogbaaGreat
open Go.Lr
set_option linter.unusedVariables false
noncomputable def AS0:FuncId→Option SumK:=more GX2 122 (autoP Tryz.prog GX2 Zl 9000 122)
theorem soundAS0:Sound Tryz.prog AS0:=soundGX2.more (autoP_ok soundGX2 (own_of soundGX2 Tryz.func122 (by kernel_rfl)))
noncomputable def AS1:FuncId→Option SumK:=more AS0 123 (autoP Tryz.prog AS0 Zl 9000 123)
theorem soundAS1:Sound Tryz.prog AS1:=soundAS0.more (autoP_ok soundAS0 (own_of soundAS0 Tryz.func123 (by kernel_rfl)))
noncomputable def AS2:FuncId→Option SumK:=more AS1 186 (autoP Tryz.prog AS1 Zl 9000 186)
theorem soundAS2:Sound Tryz.prog AS2:=soundAS1.more (autoP_ok soundAS1 (own_of soundAS1 Tryz.func186 (by kernel_rfl)))
noncomputable def AS3:FuncId→Option SumK:=more AS2 125 (autoP Tryz.prog AS2 Zl 9000 125)
theorem soundAS3:Sound Tryz.prog AS3:=soundAS2.more (autoP_ok soundAS2 (own_of soundAS2 Tryz.func125 (by kernel_rfl)))
noncomputable def AS4:FuncId→Option SumK:=moreG AS3 79 (autoA Tryz.prog AS3 ⟨false,false,false⟩ 20000 79)
theorem soundAS4:Sound Tryz.prog AS4:=soundAS3.moreG (autoA_ok soundAS3 (own_of soundAS3 Tryz.func79 (by kernel_rfl)))
noncomputable def AS5:FuncId→Option SumK:=moreG AS4 80 (autoA Tryz.prog AS4 ⟨false,false,false⟩ 20000 80)
theorem soundAS5:Sound Tryz.prog AS5:=soundAS4.moreG (autoA_ok soundAS4 (own_of soundAS4 Tryz.func80 (by kernel_rfl)))
noncomputable def AS6:FuncId→Option SumK:=moreG AS5 36 (orGen (narG 0 61 (autoA Tryz.prog AS5 Zl 20000 36)) (autoA Tryz.prog AS5 Zl 20000 36))
theorem soundAS6:Sound Tryz.prog AS6:=soundAS5.moreG (orGen_ok (narG_ok (autoA_ok soundAS5 (own_of soundAS5 Tryz.func36 (by kernel_rfl)))) (autoA_ok soundAS5 (own_of soundAS5 Tryz.func36 (by kernel_rfl))))
noncomputable def AS7:FuncId→Option SumK:=moreG AS6 206 (autoA Tryz.prog AS6 ⟨false,false,false⟩ 20000 206)
theorem soundAS7:Sound Tryz.prog AS7:=soundAS6.moreG (autoA_ok soundAS6 (own_of soundAS6 Tryz.func206 (by kernel_rfl)))
noncomputable def AS8:FuncId→Option SumK:=moreG AS7 236 (orGen (narG 0 61 (autoA Tryz.prog AS7 Zl 20000 236)) (autoA Tryz.prog AS7 Zl 20000 236))
theorem soundAS8:Sound Tryz.prog AS8:=soundAS7.moreG (orGen_ok (narG_ok (autoA_ok soundAS7 (own_of soundAS7 Tryz.func236 (by kernel_rfl)))) (autoA_ok soundAS7 (own_of soundAS7 Tryz.func236 (by kernel_rfl))))
noncomputable def AS9:FuncId→Option SumK:=moreG AS8 205 (orGen (narG 0 61 (autoA Tryz.prog AS8 Zl 20000 205)) (autoA Tryz.prog AS8 Zl 20000 205))
theorem soundAS9:Sound Tryz.prog AS9:=soundAS8.moreG (orGen_ok (narG_ok (autoA_ok soundAS8 (own_of soundAS8 Tryz.func205 (by kernel_rfl)))) (autoA_ok soundAS8 (own_of soundAS8 Tryz.func205 (by kernel_rfl))))
noncomputable def AS10:FuncId→Option SumK:=moreG AS9 70 (orGen (narG 0 61 (autoA Tryz.prog AS9 Zl 20000 70)) (autoA Tryz.prog AS9 Zl 20000 70))
theorem soundAS10:Sound Tryz.prog AS10:=soundAS9.moreG (orGen_ok (narG_ok (autoA_ok soundAS9 (own_of soundAS9 Tryz.func70 (by kernel_rfl)))) (autoA_ok soundAS9 (own_of soundAS9 Tryz.func70 (by kernel_rfl))))
noncomputable def AS11:FuncId→Option SumK:=moreG AS10 207 (orGen (narG 0 61 (autoA Tryz.prog AS10 Zl 20000 207)) (autoA Tryz.prog AS10 Zl 20000 207))
theorem soundAS11:Sound Tryz.prog AS11:=soundAS10.moreG (orGen_ok (narG_ok (autoA_ok soundAS10 (own_of soundAS10 Tryz.func207 (by kernel_rfl)))) (autoA_ok soundAS10 (own_of soundAS10 Tryz.func207 (by kernel_rfl))))
noncomputable def AS12:FuncId→Option SumK:=moreG AS11 249 (orGen (narG 0 61 (autoA Tryz.prog AS11 Zl 20000 249)) (autoA Tryz.prog AS11 Zl 20000 249))
theorem soundAS12:Sound Tryz.prog AS12:=soundAS11.moreG (orGen_ok (narG_ok (autoA_ok soundAS11 (own_of soundAS11 Tryz.func249 (by kernel_rfl)))) (autoA_ok soundAS11 (own_of soundAS11 Tryz.func249 (by kernel_rfl))))
noncomputable def AS13:FuncId→Option SumK:=moreG AS12 237 (orGen (narG 0 61 (autoA Tryz.prog AS12 Zl 20000 237)) (autoA Tryz.prog AS12 Zl 20000 237))
theorem soundAS13:Sound Tryz.prog AS13:=soundAS12.moreG (orGen_ok (narG_ok (autoA_ok soundAS12 (own_of soundAS12 Tryz.func237 (by kernel_rfl)))) (autoA_ok soundAS12 (own_of soundAS12 Tryz.func237 (by kernel_rfl))))
noncomputable def AS14:FuncId→Option SumK:=moreG AS13 238 (orGen (narG 0 61 (autoA Tryz.prog AS13 Zl 20000 238)) (autoA Tryz.prog AS13 Zl 20000 238))
theorem soundAS14:Sound Tryz.prog AS14:=soundAS13.moreG (orGen_ok (narG_ok (autoA_ok soundAS13 (own_of soundAS13 Tryz.func238 (by kernel_rfl)))) (autoA_ok soundAS13 (own_of soundAS13 Tryz.func238 (by kernel_rfl))))
noncomputable def AS15:FuncId→Option SumK:=moreG AS14 239 (orGen (narG 0 61 (autoA Tryz.prog AS14 Zl 20000 239)) (autoA Tryz.prog AS14 Zl 20000 239))
theorem soundAS15:Sound Tryz.prog AS15:=soundAS14.moreG (orGen_ok (narG_ok (autoA_ok soundAS14 (own_of soundAS14 Tryz.func239 (by kernel_rfl)))) (autoA_ok soundAS14 (own_of soundAS14 Tryz.func239 (by kernel_rfl))))
noncomputable def AS16:FuncId→Option SumK:=moreG AS15 23 (orGen (narG 1 61 (autoAD Tryz.prog AS15 ⟨false,false,false⟩ 20000 23 (tt 16 (nn 5 (ff 2 []))))) (autoAD Tryz.prog AS15 ⟨false,false,false⟩ 20000 23 (tt 16 (nn 5 (ff 2 [])))))
theorem soundAS16:Sound Tryz.prog AS16:=soundAS15.moreG (orGen_ok (narG_ok (autoAD_ok soundAS15 (own_of soundAS15 Tryz.func23 (by kernel_rfl)))) (autoAD_ok soundAS15 (own_of soundAS15 Tryz.func23 (by kernel_rfl))))
noncomputable def AS17:FuncId→Option SumK:=moreG AS16 243 (autoA Tryz.prog AS16 ⟨false,false,false⟩ 20000 243)
theorem soundAS17:Sound Tryz.prog AS17:=soundAS16.moreG (autoA_ok soundAS16 (own_of soundAS16 Tryz.func243 (by kernel_rfl)))
noncomputable def AS18:FuncId→Option SumK:=more AS17 217 (autoP Tryz.prog AS17 Zl 9000 217)
theorem soundAS18:Sound Tryz.prog AS18:=soundAS17.more (autoP_ok soundAS17 (own_of soundAS17 Tryz.func217 (by kernel_rfl)))
noncomputable def AS19:FuncId→Option SumK:=moreG AS18 68 (orGen (narG 0 61 (autoA Tryz.prog AS18 Zl 20000 68)) (autoA Tryz.prog AS18 Zl 20000 68))
theorem soundAS19:Sound Tryz.prog AS19:=soundAS18.moreG (orGen_ok (narG_ok (autoA_ok soundAS18 (own_of soundAS18 Tryz.func68 (by kernel_rfl)))) (autoA_ok soundAS18 (own_of soundAS18 Tryz.func68 (by kernel_rfl))))
noncomputable def AS20:FuncId→Option SumK:=moreG AS19 69 (orGen (narG 0 61 (autoA Tryz.prog AS19 Zl 20000 69)) (autoA Tryz.prog AS19 Zl 20000 69))
theorem soundAS20:Sound Tryz.prog AS20:=soundAS19.moreG (orGen_ok (narG_ok (autoA_ok soundAS19 (own_of soundAS19 Tryz.func69 (by kernel_rfl)))) (autoA_ok soundAS19 (own_of soundAS19 Tryz.func69 (by kernel_rfl))))
noncomputable def AS21:FuncId→Option SumK:=moreG AS20 67 (orGen (narG 0 61 (autoAD Tryz.prog AS20 Zl 20000 67 (nn 1 (ff 4 (nn 1 (ff 4 (nn 17 (tt 16 (nn 9 []))))))))) (autoAD Tryz.prog AS20 Zl 20000 67 (nn 1 (ff 4 (nn 1 (ff 4 (nn 17 (tt 16 (nn 9 [])))))))))
theorem soundAS21:Sound Tryz.prog AS21:=soundAS20.moreG (orGen_ok (narG_ok (autoAD_ok soundAS20 (own_of soundAS20 Tryz.func67 (by kernel_rfl)))) (autoAD_ok soundAS20 (own_of soundAS20 Tryz.func67 (by kernel_rfl))))
noncomputable def AS22:FuncId→Option SumK:=moreG AS21 165 (orGen (narG 0 61 (autoA Tryz.prog AS21 Zl 20000 165)) (autoA Tryz.prog AS21 Zl 20000 165))
theorem soundAS22:Sound Tryz.prog AS22:=soundAS21.moreG (orGen_ok (narG_ok (autoA_ok soundAS21 (own_of soundAS21 Tryz.func165 (by kernel_rfl)))) (autoA_ok soundAS21 (own_of soundAS21 Tryz.func165 (by kernel_rfl))))
noncomputable def AS23:FuncId→Option SumK:=moreG AS22 166 (orGen (narG 0 61 (autoA Tryz.prog AS22 Zl 20000 166)) (autoA Tryz.prog AS22 Zl 20000 166))
theorem soundAS23:Sound Tryz.prog AS23:=soundAS22.moreG (orGen_ok (narG_ok (autoA_ok soundAS22 (own_of soundAS22 Tryz.func166 (by kernel_rfl)))) (autoA_ok soundAS22 (own_of soundAS22 Tryz.func166 (by kernel_rfl))))
noncomputable def AS24:FuncId→Option SumK:=moreG AS23 164 (autoA Tryz.prog AS23 ⟨false,false,false⟩ 20000 164)
theorem soundAS24:Sound Tryz.prog AS24:=soundAS23.moreG (autoA_ok soundAS23 (own_of soundAS23 Tryz.func164 (by kernel_rfl)))
noncomputable def AS25:FuncId→Option SumK:=moreG AS24 176 (autoA Tryz.prog AS24 ⟨false,false,false⟩ 20000 176)
theorem soundAS25:Sound Tryz.prog AS25:=soundAS24.moreG (autoA_ok soundAS24 (own_of soundAS24 Tryz.func176 (by kernel_rfl)))
noncomputable def AS26:FuncId→Option SumK:=moreG AS25 106 (orGen (narG 1 61 (autoA Tryz.prog AS25 ⟨false,false,false⟩ 20000 106)) (autoA Tryz.prog AS25 ⟨false,false,false⟩ 20000 106))
theorem soundAS26:Sound Tryz.prog AS26:=soundAS25.moreG (orGen_ok (narG_ok (autoA_ok soundAS25 (own_of soundAS25 Tryz.func106 (by kernel_rfl)))) (autoA_ok soundAS25 (own_of soundAS25 Tryz.func106 (by kernel_rfl))))
noncomputable def AS27:FuncId→Option SumK:=moreG AS26 107 (orGen (narG 0 61 (autoA Tryz.prog AS26 Zl 20000 107)) (autoA Tryz.prog AS26 Zl 20000 107))
theorem soundAS27:Sound Tryz.prog AS27:=soundAS26.moreG (orGen_ok (narG_ok (autoA_ok soundAS26 (own_of soundAS26 Tryz.func107 (by kernel_rfl)))) (autoA_ok soundAS26 (own_of soundAS26 Tryz.func107 (by kernel_rfl))))
noncomputable def AS28:FuncId→Option SumK:=moreG AS27 73 (autoA Tryz.prog AS27 ⟨false,false,false⟩ 20000 73)
theorem soundAS28:Sound Tryz.prog AS28:=soundAS27.moreG (autoA_ok soundAS27 (own_of soundAS27 Tryz.func73 (by kernel_rfl)))
noncomputable def AS29:FuncId→Option SumK:=moreG AS28 75 (autoA Tryz.prog AS28 ⟨false,false,false⟩ 20000 75)
theorem soundAS29:Sound Tryz.prog AS29:=soundAS28.moreG (autoA_ok soundAS28 (own_of soundAS28 Tryz.func75 (by kernel_rfl)))
noncomputable def AS30:FuncId→Option SumK:=moreG AS29 33 (autoA Tryz.prog AS29 ⟨false,false,false⟩ 20000 33)
theorem soundAS30:Sound Tryz.prog AS30:=soundAS29.moreG (autoA_ok soundAS29 (own_of soundAS29 Tryz.func33 (by kernel_rfl)))
noncomputable def AS31:FuncId→Option SumK:=moreG AS30 11 (autoA Tryz.prog AS30 ⟨false,false,false⟩ 20000 11)
theorem soundAS31:Sound Tryz.prog AS31:=soundAS30.moreG (autoA_ok soundAS30 (own_of soundAS30 Tryz.func11 (by kernel_rfl)))
noncomputable def AF:FuncId→Option SumK:=moreG AS31 20 (autoAD Tryz.prog AS31 ⟨false,false,false⟩ 20000 20 [])
theorem soundAF:Sound Tryz.prog AF:=soundAS31.moreG (autoAD_ok soundAS31 (own_of soundAS31 Tryz.func20 (by kernel_rfl)))
end Go.Proofs.YtnlhpaidmiogbaaGreat

/- output.Correct: what it writes, whatever the numbers are (the last five outputs lie ahead of the time): the times stay. -/
namespace Go.Proofs.YtnlhpaidmiogbaaGreat
open Go.Lr
set_option linter.unusedVariables false
def c5A (t:Int):Nat→Nat→List (Bool×Bool)→List At→List (Bool×Bool)
 | _,_,acc,[]=>acc
 | k,0,acc,.int .i64 T::l=>match k with
  | 0=>c5A t 0 10 ((decide (T≤t),false)::acc) l
  | k+1=>c5A t k 10 ((decide (T≤t),true)::acc) l
 | k,0,acc,_::l=>c5A t k 10 acc l
 | k,n+1,acc,_::l=>c5A t k n acc l
def c5B (t:Int) (o:Nat→Int):Nat→List (Bool×Bool)
 | 0=>[]
 | m+1=>(decide (o (11*m)≤t),true)::c5B t o m
def c5B5 (t:Int) (o:Nat→Int) (m:Nat):List (Bool×Bool):=(decide (o (11*(m - 1))≤t),false)::(decide (o (11*(m - 2))≤t),false)::(decide (o (11*(m - 3))≤t),false)::(decide (o (11*(m - 4))≤t),false)::(decide (o (11*(m - 5))≤t),false)::c5B t o (m - 5)
def c5K (es:Nat) (sl:At) (cells:List At):Option Nat:=match sl with
 | .slu b m=>match eqNs [b,es] [1,11],Nat.ble 6 m,Nat.ble m 21,allIB cells (11*m) with
  | true,true,true,true=>some m
  | _,_,_,_=>none
 | _=>none
def c5F:List LV→List Nat→List Blk→Nat→Option (List (Bool×Bool)×ShX):=fun args seen ks nb=>
 match args,ks with
 | [.v (.one (.ptr p po)),.v (.one (.ptr c co)),.v (.agg s),.v (.one (.int .i64 t))],[⟨tf,(f1,f2),ef,[.bool h]⟩,⟨tt,(o1,o2),es,cells⟩,⟨tp,(p1,p2),ep,[.int .i64 z,.int .i64 gn,sl]⟩]=>
  match eqNs [p,po,c,co,tf,f1,f2,ef,tt,o1,o2,tp,p1,p2,ep,nb] [2,0,0,0,61,0,0,0,79,0,0,210,0,0,0,3],eqNs seen [0,1,2],allIB s 24,c5K es sl cells with
  | true,true,true,some m=>some (c5A t (m - 5) 0 [] cells,coSh es cells)
  | _,_,_,_=>none
 | _,_=>none
def c5Tf:Nat→List (Option Bool)→List (Option Bool)
 | 0,l=>l
 | m+1,l=>none::some false::c5Tf m l
noncomputable abbrev c5Rn (b:Bool) (m:Nat) (o s:Nat→Int) (z gn t:Int) (h:Bool):Option Dl:=autoAD Tryz.prog KC2 Zl 4000 108 (coTs (m - 5) (c5Tf 5 (nn 3 (some b::none::some b::none ::some b::[])))) (coAr s t) [0,1,2] (coKt m o z gn h) 3
def c5L (m:Nat) (R:Option Dl):Option (LV×List (Nat×Option Blk)×List (Bool×Bool))×Bool:=(R.bind (fun d=>(openC (mskO (3+m) []) d.cs).map (fun os=>(d.val,d.wr,os))),R.isSome)
def c5Q (m:Nat) (o:Nat→Int) (os:List (Bool×Bool)) (R:Option Dl):Option (LV×List (Nat×Option Blk)×List (Bool×Bool))×Bool:=(R.map (fun d=>((coSh (coE m) (mkI o 0 (11*m)) (coV d.wr) (coG d.wr)).1,(coSh (coE m) (mkI o 0 (11*m)) (coV d.wr) (coG d.wr)).2,os)),true)
def c5X (m:Nat) (o s:Nat→Int):Bool:=coR (s 0) (s 1) (s 2) (s 3) (o (11*(m - 5) - 10)) (o (11*(m - 5) - 9)) (o (11*(m - 5) - 8)) (o (11*(m - 5) - 7))
def c5Ex (m:Nat) (o s:Nat→Int) (z gn t:Int) (h:Bool):Prop:=∃v b nw,GenAt Tryz.prog 108 (coAr s t) [0,1,2] (coKt m o z gn h) 3 ⟨(coSh (coE m) (mkI o 0 (11*m)) v b).1,(coSh (coE m) (mkI o 0 (11*m)) v b).2,nw,[],[]⟩
theorem c5Ex_of {m:Nat} {o s:Nat→Int} {z gn t:Int} {h:Bool} (ht:c5L m (c5Rn true m o s z gn t h)=c5Q m o (ra 3 (c5X m o s,true) (c5B5 t o m)) (c5Rn true m o s z gn t h)) (hf:c5L m (c5Rn false m o s z gn t h)=c5Q m o (ra 3 (c5X m o s,false) (c5B5 t o m)) (c5Rn false m o s z gn t h))
  (hc:∀c∈c5B5 t o m,c.1=c.2):c5Ex m o s z gn t h:=by
 rcases bool_cases (c5X m o s) with hr | hr
 ·exact GenAt.of_run soundKC2 (own_of soundKC2 Tryz.func108 (by kernel_rfl)) ht (ra_ok hr hc _)
 ·exact GenAt.of_run soundKC2 (own_of soundKC2 Tryz.func108 (by kernel_rfl)) hf (ra_ok hr hc _)
theorem c5F6 (o s:Nat→Int) (z gn t:Int) (h:Bool):c5L 6 (c5Rn false 6 o s z gn t h)=c5Q 6 o (ra 3 (c5X 6 o s,false) (c5B5 t o 6)) (c5Rn false 6 o s z gn t h):=by kernel_rfl
theorem c5T6 (o s:Nat→Int) (z gn t:Int) (h:Bool):c5L 6 (c5Rn true 6 o s z gn t h)=c5Q 6 o (ra 3 (c5X 6 o s,true) (c5B5 t o 6)) (c5Rn true 6 o s z gn t h):=by kernel_rfl
theorem c5F7 (o s:Nat→Int) (z gn t:Int) (h:Bool):c5L 7 (c5Rn false 7 o s z gn t h)=c5Q 7 o (ra 3 (c5X 7 o s,false) (c5B5 t o 7)) (c5Rn false 7 o s z gn t h):=by kernel_rfl
theorem c5T7 (o s:Nat→Int) (z gn t:Int) (h:Bool):c5L 7 (c5Rn true 7 o s z gn t h)=c5Q 7 o (ra 3 (c5X 7 o s,true) (c5B5 t o 7)) (c5Rn true 7 o s z gn t h):=by kernel_rfl
theorem c5F8 (o s:Nat→Int) (z gn t:Int) (h:Bool):c5L 8 (c5Rn false 8 o s z gn t h)=c5Q 8 o (ra 3 (c5X 8 o s,false) (c5B5 t o 8)) (c5Rn false 8 o s z gn t h):=by kernel_rfl
theorem c5T8 (o s:Nat→Int) (z gn t:Int) (h:Bool):c5L 8 (c5Rn true 8 o s z gn t h)=c5Q 8 o (ra 3 (c5X 8 o s,true) (c5B5 t o 8)) (c5Rn true 8 o s z gn t h):=by kernel_rfl
theorem c5F9 (o s:Nat→Int) (z gn t:Int) (h:Bool):c5L 9 (c5Rn false 9 o s z gn t h)=c5Q 9 o (ra 3 (c5X 9 o s,false) (c5B5 t o 9)) (c5Rn false 9 o s z gn t h):=by kernel_rfl
theorem c5T9 (o s:Nat→Int) (z gn t:Int) (h:Bool):c5L 9 (c5Rn true 9 o s z gn t h)=c5Q 9 o (ra 3 (c5X 9 o s,true) (c5B5 t o 9)) (c5Rn true 9 o s z gn t h):=by kernel_rfl
theorem c5F10 (o s:Nat→Int) (z gn t:Int) (h:Bool):c5L 10 (c5Rn false 10 o s z gn t h)=c5Q 10 o (ra 3 (c5X 10 o s,false) (c5B5 t o 10)) (c5Rn false 10 o s z gn t h):=by kernel_rfl
theorem c5T10 (o s:Nat→Int) (z gn t:Int) (h:Bool):c5L 10 (c5Rn true 10 o s z gn t h)=c5Q 10 o (ra 3 (c5X 10 o s,true) (c5B5 t o 10)) (c5Rn true 10 o s z gn t h):=by kernel_rfl
theorem c5F11 (o s:Nat→Int) (z gn t:Int) (h:Bool):c5L 11 (c5Rn false 11 o s z gn t h)=c5Q 11 o (ra 3 (c5X 11 o s,false) (c5B5 t o 11)) (c5Rn false 11 o s z gn t h):=by kernel_rfl
theorem c5T11 (o s:Nat→Int) (z gn t:Int) (h:Bool):c5L 11 (c5Rn true 11 o s z gn t h)=c5Q 11 o (ra 3 (c5X 11 o s,true) (c5B5 t o 11)) (c5Rn true 11 o s z gn t h):=by kernel_rfl
theorem c5F12 (o s:Nat→Int) (z gn t:Int) (h:Bool):c5L 12 (c5Rn false 12 o s z gn t h)=c5Q 12 o (ra 3 (c5X 12 o s,false) (c5B5 t o 12)) (c5Rn false 12 o s z gn t h):=by kernel_rfl
theorem c5T12 (o s:Nat→Int) (z gn t:Int) (h:Bool):c5L 12 (c5Rn true 12 o s z gn t h)=c5Q 12 o (ra 3 (c5X 12 o s,true) (c5B5 t o 12)) (c5Rn true 12 o s z gn t h):=by kernel_rfl
theorem c5F13 (o s:Nat→Int) (z gn t:Int) (h:Bool):c5L 13 (c5Rn false 13 o s z gn t h)=c5Q 13 o (ra 3 (c5X 13 o s,false) (c5B5 t o 13)) (c5Rn false 13 o s z gn t h):=by kernel_rfl
theorem c5T13 (o s:Nat→Int) (z gn t:Int) (h:Bool):c5L 13 (c5Rn true 13 o s z gn t h)=c5Q 13 o (ra 3 (c5X 13 o s,true) (c5B5 t o 13)) (c5Rn true 13 o s z gn t h):=by kernel_rfl
theorem c5F14 (o s:Nat→Int) (z gn t:Int) (h:Bool):c5L 14 (c5Rn false 14 o s z gn t h)=c5Q 14 o (ra 3 (c5X 14 o s,false) (c5B5 t o 14)) (c5Rn false 14 o s z gn t h):=by kernel_rfl
theorem c5T14 (o s:Nat→Int) (z gn t:Int) (h:Bool):c5L 14 (c5Rn true 14 o s z gn t h)=c5Q 14 o (ra 3 (c5X 14 o s,true) (c5B5 t o 14)) (c5Rn true 14 o s z gn t h):=by kernel_rfl
theorem c5F15 (o s:Nat→Int) (z gn t:Int) (h:Bool):c5L 15 (c5Rn false 15 o s z gn t h)=c5Q 15 o (ra 3 (c5X 15 o s,false) (c5B5 t o 15)) (c5Rn false 15 o s z gn t h):=by kernel_rfl
theorem c5T15 (o s:Nat→Int) (z gn t:Int) (h:Bool):c5L 15 (c5Rn true 15 o s z gn t h)=c5Q 15 o (ra 3 (c5X 15 o s,true) (c5B5 t o 15)) (c5Rn true 15 o s z gn t h):=by kernel_rfl
theorem c5F16 (o s:Nat→Int) (z gn t:Int) (h:Bool):c5L 16 (c5Rn false 16 o s z gn t h)=c5Q 16 o (ra 3 (c5X 16 o s,false) (c5B5 t o 16)) (c5Rn false 16 o s z gn t h):=by kernel_rfl
theorem c5T16 (o s:Nat→Int) (z gn t:Int) (h:Bool):c5L 16 (c5Rn true 16 o s z gn t h)=c5Q 16 o (ra 3 (c5X 16 o s,true) (c5B5 t o 16)) (c5Rn true 16 o s z gn t h):=by kernel_rfl
theorem c5F17 (o s:Nat→Int) (z gn t:Int) (h:Bool):c5L 17 (c5Rn false 17 o s z gn t h)=c5Q 17 o (ra 3 (c5X 17 o s,false) (c5B5 t o 17)) (c5Rn false 17 o s z gn t h):=by kernel_rfl
theorem c5T17 (o s:Nat→Int) (z gn t:Int) (h:Bool):c5L 17 (c5Rn true 17 o s z gn t h)=c5Q 17 o (ra 3 (c5X 17 o s,true) (c5B5 t o 17)) (c5Rn true 17 o s z gn t h):=by kernel_rfl
theorem c5F18 (o s:Nat→Int) (z gn t:Int) (h:Bool):c5L 18 (c5Rn false 18 o s z gn t h)=c5Q 18 o (ra 3 (c5X 18 o s,false) (c5B5 t o 18)) (c5Rn false 18 o s z gn t h):=by kernel_rfl
theorem c5T18 (o s:Nat→Int) (z gn t:Int) (h:Bool):c5L 18 (c5Rn true 18 o s z gn t h)=c5Q 18 o (ra 3 (c5X 18 o s,true) (c5B5 t o 18)) (c5Rn true 18 o s z gn t h):=by kernel_rfl
theorem c5F19 (o s:Nat→Int) (z gn t:Int) (h:Bool):c5L 19 (c5Rn false 19 o s z gn t h)=c5Q 19 o (ra 3 (c5X 19 o s,false) (c5B5 t o 19)) (c5Rn false 19 o s z gn t h):=by kernel_rfl
theorem c5T19 (o s:Nat→Int) (z gn t:Int) (h:Bool):c5L 19 (c5Rn true 19 o s z gn t h)=c5Q 19 o (ra 3 (c5X 19 o s,true) (c5B5 t o 19)) (c5Rn true 19 o s z gn t h):=by kernel_rfl
theorem c5F20 (o s:Nat→Int) (z gn t:Int) (h:Bool):c5L 20 (c5Rn false 20 o s z gn t h)=c5Q 20 o (ra 3 (c5X 20 o s,false) (c5B5 t o 20)) (c5Rn false 20 o s z gn t h):=by kernel_rfl
theorem c5T20 (o s:Nat→Int) (z gn t:Int) (h:Bool):c5L 20 (c5Rn true 20 o s z gn t h)=c5Q 20 o (ra 3 (c5X 20 o s,true) (c5B5 t o 20)) (c5Rn true 20 o s z gn t h):=by kernel_rfl
theorem c5F21 (o s:Nat→Int) (z gn t:Int) (h:Bool):c5L 21 (c5Rn false 21 o s z gn t h)=c5Q 21 o (ra 3 (c5X 21 o s,false) (c5B5 t o 21)) (c5Rn false 21 o s z gn t h):=by kernel_rfl
theorem c5T21 (o s:Nat→Int) (z gn t:Int) (h:Bool):c5L 21 (c5Rn true 21 o s z gn t h)=c5Q 21 o (ra 3 (c5X 21 o s,true) (c5B5 t o 21)) (c5Rn true 21 o s z gn t h):=by kernel_rfl
theorem c5OK:GenOK Tryz.prog 108 (genX Tryz.prog 108 c5F):=by
 refine genX_ok fun args seen ks nb cs Sh hF hc=> ?_
 unfold c5F at hF
 split at hF
 ·rename_i p po c co s t tf f1 f2 ef h tt o1 o2 es cells tp p1 p2 ep z gn sl
  split at hF
  ·rename_i m g1 g2 g3 g4
   cases hF
   have e1:=eqNs_ok g1
   have e2:=eqNs_ok g2
   simp only [List.cons.injEq,and_true] at e1
   obtain ⟨rfl,rfl,rfl,rfl,rfl,rfl,rfl,rfl,rfl,rfl,rfl,rfl,rfl,rfl,rfl,rfl⟩:=e1
   subst e2
   have es':=(allIB_ok g3).eq
   rw [←mkI_ints] at es'
   rw [es']
   unfold c5K at g4
   split at g4
   ·rename_i b m'
    split at g4
    ·rename_i q1 q2 q3 q4
     have e3:=eqNs_ok q1
     simp only [List.cons.injEq,and_true] at e3
     obtain ⟨rfl,rfl⟩:=e3
     have q2:=Nat.le_of_ble_eq_true q2
     have q3:=Nat.le_of_ble_eq_true q3
     have ec:=(allIB_ok q4).eq
     rw [←mkI_ints] at ec
     simp only [Option.some.injEq] at g4
     subst g4
     rw [ec] at hc ⊢
     obtain rfl | rfl | rfl | rfl | rfl | rfl | rfl | rfl | rfl | rfl | rfl | rfl | rfl | rfl | rfl | rfl:m'=6∨m'=7∨m'=8∨m'=9∨m'=10∨m'=11∨m'=12∨m'=13∨m'=14∨m'=15∨m'=16∨m'=17∨m'=18∨m'=19∨m'=20∨m'=21:=by omega
     ·exact c5Ex_of (m:=6) (c5T6 _ _ _ _ _ _) (c5F6 _ _ _ _ _ _) hc
     ·exact c5Ex_of (m:=7) (c5T7 _ _ _ _ _ _) (c5F7 _ _ _ _ _ _) hc
     ·exact c5Ex_of (m:=8) (c5T8 _ _ _ _ _ _) (c5F8 _ _ _ _ _ _) hc
     ·exact c5Ex_of (m:=9) (c5T9 _ _ _ _ _ _) (c5F9 _ _ _ _ _ _) hc
     ·exact c5Ex_of (m:=10) (c5T10 _ _ _ _ _ _) (c5F10 _ _ _ _ _ _) hc
     ·exact c5Ex_of (m:=11) (c5T11 _ _ _ _ _ _) (c5F11 _ _ _ _ _ _) hc
     ·exact c5Ex_of (m:=12) (c5T12 _ _ _ _ _ _) (c5F12 _ _ _ _ _ _) hc
     ·exact c5Ex_of (m:=13) (c5T13 _ _ _ _ _ _) (c5F13 _ _ _ _ _ _) hc
     ·exact c5Ex_of (m:=14) (c5T14 _ _ _ _ _ _) (c5F14 _ _ _ _ _ _) hc
     ·exact c5Ex_of (m:=15) (c5T15 _ _ _ _ _ _) (c5F15 _ _ _ _ _ _) hc
     ·exact c5Ex_of (m:=16) (c5T16 _ _ _ _ _ _) (c5F16 _ _ _ _ _ _) hc
     ·exact c5Ex_of (m:=17) (c5T17 _ _ _ _ _ _) (c5F17 _ _ _ _ _ _) hc
     ·exact c5Ex_of (m:=18) (c5T18 _ _ _ _ _ _) (c5F18 _ _ _ _ _ _) hc
     ·exact c5Ex_of (m:=19) (c5T19 _ _ _ _ _ _) (c5F19 _ _ _ _ _ _) hc
     ·exact c5Ex_of (m:=20) (c5T20 _ _ _ _ _ _) (c5F20 _ _ _ _ _ _) hc
     ·exact c5Ex_of (m:=21) (c5T21 _ _ _ _ _ _) (c5F21 _ _ _ _ _ _) hc
    ·cases g4
   ·cases g4
  ·cases hF
 ·cases hF
noncomputable def c5D:List LV→List Nat→List Blk→Nat→Option Dl:=orGen (narG 1 61 (canG (genX Tryz.prog 108 c5F))) (autoA Tryz.prog KC2 Zl 4000 108)
theorem c5D_ok:GenOK Tryz.prog 108 c5D:=orGen_ok (narG_ok (canG_ok c5OK)) (autoA_ok soundKC2 (own_of soundKC2 Tryz.func108 (by kernel_rfl)))
end Go.Proofs.YtnlhpaidmiogbaaGreat

/- output.Shift: what it writes, whatever the numbers are: the times stay. -/
namespace Go.Proofs.YtnlhpaidmiogbaaGreat
open Go.Lr
set_option linter.unusedVariables false
noncomputable def KS1:FuncId→Option SumK:=moreG KC1 176 (autoA Tryz.prog KC1 Zl 4000 176)
theorem soundKS1:Sound Tryz.prog KS1:=soundKC1.moreG (autoA_ok soundKC1 (own_of soundKC1 Tryz.func176 (by kernel_rfl)))
def shSh (es:Nat) (cells:List At):ShX:=fun v b=>(.tup [],[(1,some (flag 61 (b 0))),(2,some ⟨79,(0,0),es,coC v 0 0 cells⟩)])
def shAr (j:Nat):List LV:=[.v (.one (.ptr 3 0)),.v (.one (.ptr 1 0)),.v (.one (.slu 0 j))]
def shKt (dc:List At) (m:Nat) (o:Nat→Int) (z gn:Int) (h:Bool):List Blk:=[⟨39,(0,0),10,dc⟩,flag 61 h,⟨79,(0,0),11,mkI o 0 (11*m)⟩,⟨210,(0,0),0,[.int .i64 z,.int .i64 gn,.slu 2 m]⟩]
noncomputable abbrev shRn (j:Nat) (dc:List At) (m:Nat) (o:Nat→Int) (z gn:Int) (h:Bool):Option Dl:=autoAD Tryz.prog KS1 Zl 4000 106 [] (shAr j) [0,1,2,3] (shKt dc m o z gn h) 4
def shL (k:Nat) (R:Option Dl):Option (LV×List (Nat×Option Blk)×List (Bool×Bool))×Bool:=(R.bind (fun d=>(openC (mskC k []) d.cs).map (fun os=>(d.val,d.wr,os))),R.isSome)
def shQ (m:Nat) (o:Nat→Int) (R:Option Dl):Option (LV×List (Nat×Option Blk)×List (Bool×Bool))×Bool:=(R.map (fun d=>((shSh 11 (mkI o 0 (11*m)) (coV d.wr) (coG d.wr)).1,(shSh 11 (mkI o 0 (11*m)) (coV d.wr) (coG d.wr)).2,[])),true)
def shY (d:Nat→Int):List At:=[.int .i64 1073741824,.int .i64 0,.int .i64 0,.int .i64 77,.int .i64 (d 4),.int .i64 (d 5),.int .i64 (d 6),.int .i64 (d 7),.int .i64 (d 8),.int .i64 (d 9)]
def shG (d:Nat→Int):List At:=[.int .i64 1073741824,.int .i64 0,.int .i64 0,.int .i64 0,.int .i64 (d 4),.int .i64 (d 5),.int .i64 (d 6),.int .i64 (d 7),.int .i64 (d 8),.int .i64 (d 9),.int .i64 1073741824,.int .i64 0,.int .i64 0,.int .i64 0,.int .i64 (d 14),.int .i64 (d 15),.int .i64 (d 16),.int .i64 (d 17),.int .i64 (d 18),.int .i64 (d 19)]
theorem shY13 (d o:Nat→Int) (z gn:Int) (h:Bool):shL 0 (shRn 1 (shY d) 13 o z gn h)=shQ 13 o (shRn 1 (shY d) 13 o z gn h):=by kernel_rfl
theorem shG20 (d o:Nat→Int) (z gn:Int) (h:Bool):shL 0 (shRn 2 (shG d) 20 o z gn h)=shQ 20 o (shRn 2 (shG d) 20 o z gn h):=by kernel_rfl
def shYa (cells:List At):List (Bool×Bool):=[(decide (intAt cells 0=1073741824),true),(decide (intAt cells 1=0),true),(decide (intAt cells 2=0),true),(decide (intAt cells 3=77),true)]
def shGa (cells:List At):List (Bool×Bool):=[(decide (intAt cells 0=1073741824),true),(decide (intAt cells 1=0),true),(decide (intAt cells 2=0),true),(decide (intAt cells 3=0),true),(decide (intAt cells 10=1073741824),true),(decide (intAt cells 11=0),true),(decide (intAt cells 12=0),true),(decide (intAt cells 13=0),true)]
def shM (j:Nat) (m:Nat):Bool:=(Nat.beq j 1&&Nat.beq m 13)||(Nat.beq j 2&&Nat.beq m 20)
def shF:List LV→List Nat→List Blk→Nat→Option (List (Bool×Bool)×ShX):=fun args seen ks nb=>
 match args,ks with
 | [.v (.one (.ptr p po)),.v (.one (.ptr c co)),.v (.one (.slu b j))],[⟨td,(d1,d2),ed,dcells⟩,⟨tf,(f1,f2),ef,[.bool h]⟩,⟨tt,(o1,o2),es,cells⟩,⟨tp,(p1,p2),ep,[.int .i64 z,.int .i64 gn,.slu ob m]⟩]=>
  match eqNs [p,po,c,co,b,td,d1,d2,ed,tf,f1,f2,ef,tt,o1,o2,es,tp,p1,p2,ep,ob,nb] [3,0,1,0,0,39,0,0,10,61,0,0,0,79,0,0,11,210,0,0,0,2,4],eqNs seen [0,1,2,3],allIB cells (11*m),shM j m with
  | true,true,true,true=>match allIB dcells 10,Nat.beq j 1 with
   | true,true=>some (shYa dcells,shSh 11 cells)
   | _,_=>match allIB dcells 20,Nat.beq j 2 with
    | true,true=>some (shGa dcells,shSh 11 cells)
    | _,_=>none
  | _,_,_,_=>none
 | _,_=>none
theorem shOK:GenOK Tryz.prog 106 (genX Tryz.prog 106 shF):=by
 refine genX_ok fun args seen ks nb cs Sh hF hc=> ?_
 unfold shF at hF
 split at hF
 ·rename_i p po c co b j td d1 d2 ed dcells tf f1 f2 ef h tt o1 o2 es cells tp p1 p2 ep z gn ob m
  split at hF
  ·rename_i g1 g2 g3 g4
   have e1:=eqNs_ok g1
   have e2:=eqNs_ok g2
   simp only [List.cons.injEq,and_true] at e1
   obtain ⟨rfl,rfl,rfl,rfl,rfl,rfl,rfl,rfl,rfl,rfl,rfl,rfl,rfl,rfl,rfl,rfl,rfl,rfl,rfl,rfl,rfl,rfl,rfl⟩:=e1
   subst e2
   have ec:=(allIB_ok g3).eq
   rw [←mkI_ints] at ec
   split at hF
   ·rename_i q1 q2
    cases hF
    have ed:=(allIB_ok q1).eq
    rw [←mkI_ints] at ed
    have ej:=Nat.eq_of_beq_eq_true q2
    subst ej
    have hk:dcells=shY (intAt dcells):=by
     have a:∀c∈shYa dcells,c.1=c.2:=hc
     simp only [shYa,List.mem_cons,List.not_mem_nil,or_false,forall_eq_or_imp,forall_eq,decide_eq_true_eq] at a
     obtain ⟨a0,a1,a2,a3⟩:=a
     have e2:dcells=mkI (intAt dcells) 0 10:=ed
     rw [e2]
     show mkI (intAt dcells) 0 10=shY (intAt (mkI (intAt dcells) 0 10))
     unfold shY
     simp only [mkI]
     rw [a0,a1,a2,a3]
     rfl
    have hm:m=13:=by simpa [shM] using g4
    rw [hk,ec]
    subst hm
    exact GenAt.of_run soundKS1 (own_of soundKS1 Tryz.func106 (by kernel_rfl)) (shY13 _ _ z gn h) (by simp)
   ·split at hF
    ·rename_i q1 q2
     cases hF
     have ed:=(allIB_ok q1).eq
     rw [←mkI_ints] at ed
     have ej:=Nat.eq_of_beq_eq_true q2
     subst ej
     have hk:dcells=shG (intAt dcells):=by
      have a:∀c∈shGa dcells,c.1=c.2:=hc
      simp only [shGa,List.mem_cons,List.not_mem_nil,or_false,forall_eq_or_imp,forall_eq,decide_eq_true_eq] at a
      obtain ⟨a0,a1,a2,a3,a10,a11,a12,a13⟩:=a
      have e2:dcells=mkI (intAt dcells) 0 20:=ed
      rw [e2]
      show mkI (intAt dcells) 0 20=shG (intAt (mkI (intAt dcells) 0 20))
      unfold shG
      simp only [mkI]
      rw [a0,a1,a2,a3,a10,a11,a12,a13]
      rfl
     have hm:m=20:=by simpa [shM] using g4
     rw [hk,ec]
     subst hm
     exact GenAt.of_run soundKS1 (own_of soundKS1 Tryz.func106 (by kernel_rfl)) (shG20 _ _ z gn h) (by simp)
    ·cases hF
  ·cases hF
 ·cases hF
noncomputable def shD:List LV→List Nat→List Blk→Nat→Option Dl:=orGen (narG 1 61 (canG (genX Tryz.prog 106 shF))) (orGen (narG 1 61 (autoA Tryz.prog KS1 Zl 4000 106)) (autoA Tryz.prog KS1 Zl 4000 106))
theorem shD_ok:GenOK Tryz.prog 106 shD:=orGen_ok (narG_ok (canG_ok shOK)) (orGen_ok (narG_ok (autoA_ok soundKS1 (own_of soundKS1 Tryz.func106 (by kernel_rfl)))) (autoA_ok soundKS1 (own_of soundKS1 Tryz.func106 (by kernel_rfl))))
end Go.Proofs.YtnlhpaidmiogbaaGreat

/- The filter with a delay of five samples: Correct, Shift opaque. -/
namespace Go.Proofs.YtnlhpaidmiogbaaGreat
open Go.Lr
set_option linter.unusedVariables false
noncomputable def AT1:FuncId→Option SumK:=moreG AS31 108 c5D
theorem soundAT1:Sound Tryz.prog AT1:=soundAS31.moreG c5D_ok
noncomputable def AT0:FuncId→Option SumK:=moreG AT1 106 shD
theorem soundAT0:Sound Tryz.prog AT0:=soundAT1.moreG shD_ok
noncomputable def AT:FuncId→Option SumK:=moreG AT0 20 (autoAD Tryz.prog AT0 ⟨false,false,false⟩ 20000 20 [])
theorem soundAT:Sound Tryz.prog AT:=soundAT0.moreG (autoAD_ok soundAT0 (own_of soundAT0 Tryz.func20 (by kernel_rfl)))
end Go.Proofs.YtnlhpaidmiogbaaGreat

/- TopSums: the plain part. -/
namespace Go.Proofs.YtnlhpaidmiogbaaGreat
open Go.Lr
set_option linter.unusedVariables false
theorem aob_nil:AllOb []:=fun q h=>by cases h
theorem aob_cons {q:Ob} {l:List Ob} (h:q.ok) (k:AllOb l):AllOb (q::l):=fun x hx=>by
 rcases List.mem_cons.1 hx with rfl | hx
 ·exact h
 ·exact k x hx
def stC (i:Nat) (l:List LV):Int:=match stepG l with
 | some (.v (.agg c))=>intAt c i
 | _=>0
def acL (v0 v1 v2 p0 p1 p2 T x:Int):List LV:=[.v (.agg [.int .i64 1073741824,.int .i64 0,.int .i64 0,.int .i64 77,.int .i64 v0,.int .i64 v1,.int .i64 v2,.int .i64 p0,.int .i64 p1,.int .i64 p2,.int .i64 0,.int .i64 0,.int .i64 0,.int .i64 0,.int .i64 0,.int .i64 0,.int .i64 267414331,.int .i64 (-23395723),.int .i64 322122547,.int .i64 0,.int .i64 0,.int .i64 0,.int .i64 0,.int .i64 0]),.v (.agg [.int .i64 T,.int .i64 8000,.int .i64 0,.int .i64 0,.int .i64 0,.int .i64 (fI2 0 x),.int .i64 0,.int .i64 (-84238486)])]
def acE (v d g:Int):Int:=clampV (fI3 (clampV v (-549755813888) 549755813888) d g) (-549755813888) 549755813888
theorem ac4 (v0 v1 v2 p0 p1 p2 T x:Int):stC 4 (acL v0 v1 v2 p0 p1 p2 T x)=acE v0 (dotV 30 [1073741824,-154,0] [subV (fI2 0 x) 0,0,-84238486]) 0:=by kernel_rfl
theorem ac5 (v0 v1 v2 p0 p1 p2 T x:Int):stC 5 (acL v0 v1 v2 p0 p1 p2 T x)=acE v1 (dotV 30 [154,1073741824,0] [subV (fI2 0 x) 0,0,-84238486]) 0:=by kernel_rfl
theorem ac6 (v0 v1 v2 p0 p1 p2 T x:Int):stC 6 (acL v0 v1 v2 p0 p1 p2 T x)=acE v2 (dotV 30 [0,0,1073741824] [subV (fI2 0 x) 0,0,-84238486]) 84238486:=by kernel_rfl
def acU (x:Int):Int:=rndV (154*x) 30
theorem ac_f2 {x:Int} (h0: -1152921504606846976≤x) (h1:x≤1152921504606846976):fI2 0 x=x:=by
 show satV (satV 0+(satV x+0))=x
 rw [sat_in (a:=0) (by omega) (by omega),sat_in h0 h1,Int.add_zero,Int.zero_add,sat_in h0 h1]
theorem ac_sub {x:Int} (h0: -1152921504606846976≤x) (h1:x≤1152921504606846976):subV x 0=x:=by
 unfold subV
 rw [sat_in (a:=0) (by omega) (by omega),sat_in h0 h1,Int.sub_zero,sat_in h0 h1]
theorem ac_dot (a b c x y z:Int):dotV 30 [a,b,c] [x,y,z]=rndS (satV a*satV x+(satV b*satV y+(satV c*satV z+0))) 30:=rfl
theorem ac_rnd {w:Int} (h: -1000000000000000000≤rndV w 30) (k:rndV w 30≤1000000000000000000):rndS w 30=rndV w 30:=by
 unfold rndS
 rw [if_neg (by decide),if_neg (by decide)]
 exact sat_in (by show _≤rndV w 30;omega) (by show rndV w 30≤_;omega)
theorem ac_rb (w:Int): -1073741824≤2*(rndV w 30*1073741824 - w)∧2*(rndV w 30*1073741824 - w)≤1073741824:=rnd_bd w 30
theorem ac_d4 {x:Int} (h0: -134217728≤x) (h1:x≤134217728):dotV 30 [1073741824,-154,0] [subV (fI2 0 x) 0,0,-84238486]=x:=by
 rw [ac_f2 (by omega) (by omega),ac_sub (by omega) (by omega),ac_dot,sat_in (a:=x) (by omega) (by omega),sat_in (a:=1073741824) (by omega) (by omega),sat_in (a:= -154) (by omega) (by omega),sat_in (a:=0) (by omega) (by omega),sat_in (a:= -84238486) (by omega) (by omega)]
 have b:=ac_rb (1073741824*x+(-154*0+(0 * -84238486+0)))
 rw [ac_rnd (by omega) (by omega)]
 omega
theorem ac_u {x:Int} (h0: -67108864≤x) (h1:x≤67108864): -16≤acU x∧acU x≤16:=by
 have b:=ac_rb (154*x)
 unfold acU
 omega
theorem ac_d5 {x:Int} (h0: -67108864≤x) (h1:x≤67108864):dotV 30 [154,1073741824,0] [subV (fI2 0 x) 0,0,-84238486]=acU x:=by
 rw [ac_f2 (by omega) (by omega),ac_sub (by omega) (by omega),ac_dot,sat_in (a:=x) (by omega) (by omega),sat_in (a:=1073741824) (by omega) (by omega),sat_in (a:=154) (by omega) (by omega),sat_in (a:=0) (by omega) (by omega),sat_in (a:= -84238486) (by omega) (by omega)]
 have e:154*x+(1073741824*0+(0 * -84238486+0))=154*x:=by omega
 rw [e]
 have b:=ac_u h0 h1
 unfold acU at *
 rw [ac_rnd (by omega) (by omega)]
theorem ac_d6 {x:Int} (h0: -134217728≤x) (h1:x≤134217728):dotV 30 [0,0,1073741824] [subV (fI2 0 x) 0,0,-84238486] = -84238486:=by
 rw [ac_f2 (by omega) (by omega),ac_sub (by omega) (by omega),ac_dot,sat_in (a:=x) (by omega) (by omega),sat_in (a:=1073741824) (by omega) (by omega),sat_in (a:=0) (by omega) (by omega),sat_in (a:= -84238486) (by omega) (by omega)]
 have b:=ac_rb (0*x+(0*0+(1073741824 * -84238486+0)))
 rw [ac_rnd (by omega) (by omega)]
 omega
theorem ac_cl {v:Int} (h0: -549755813888≤v) (h1:v≤549755813888):clampV v (-549755813888) 549755813888=v:=by
 unfold clampV
 rw [if_neg (by omega),if_neg (by omega),if_neg (by omega)]
theorem ac_e {v d g:Int} (h0: -274877906944≤v) (h1:v≤274877906944) (h2: -134217728≤d) (h3:d≤134217728) (h4: -134217728≤g) (h5:g≤134217728):acE v d g=v+d+g:=by
 unfold acE
 rw [ac_cl (v:=v) (by omega) (by omega)]
 have e:fI3 v d g=v+d+g:=by
  show satV (satV v+(satV d+(satV g+0)))=_
  rw [sat_in (a:=v) (by omega) (by omega),sat_in (a:=d) (by omega) (by omega),sat_in (a:=g) (by omega) (by omega),sat_in (by omega) (by omega)]
  omega
 rw [e,ac_cl (by omega) (by omega)]
structure AcH (x:Int):Prop where
 lo: -67108864≤x
 hi:x≤67108864
theorem AcH.v4 {x:Int} (h:AcH x) {v:Int} (v1 v2 p0 p1 p2 T:Int) {r:Int} (h0: -2147483648≤v) (h1:v≤2147483648) (e:v+x=r):stC 4 (acL v v1 v2 p0 p1 p2 T x)=r:=by
 obtain ⟨a,b⟩:=h
 rw [ac4,ac_d4 (by omega) (by omega),ac_e (by omega) (by omega) (by omega) (by omega) (by omega) (by omega)]
 omega
theorem AcH.v5 {x:Int} (h:AcH x) (v0:Int) {v:Int} (v2 p0 p1 p2 T:Int) {r:Int} (h0: -2147483648≤v) (h1:v≤2147483648) (e:v+acU x=r):stC 5 (acL v0 v v2 p0 p1 p2 T x)=r:=by
 obtain ⟨a,b⟩:=h
 have c:=ac_u a b
 rw [ac5,ac_d5 a b,ac_e (by omega) (by omega) (by omega) (by omega) (by omega) (by omega)]
 omega
theorem AcH.v6 {x:Int} (h:AcH x) (v0 v1 p0 p1 p2 T:Int):stC 6 (acL v0 v1 0 p0 p1 p2 T x)=0:=by
 obtain ⟨a,b⟩:=h
 rw [ac6,ac_d6 (by omega) (by omega),ac_e (by omega) (by omega) (by omega) (by omega) (by omega) (by omega)]
 omega
theorem ac_g {x:Int} (h:AcH x) {T:Int} (hT:decide (T≥0)=true) (hT2:decide (T≤1125899906842624)=true):goodB T 8000 0 0 0 x 0 (-84238486)=true:=by
 have e:decide (fabsV x>34359738368)=false:=by
  obtain ⟨a,b⟩:=h
  refine decide_eq_false ?_
  unfold fabsV
  split <;> (try split) <;> (try split) <;> omega
 unfold goodB
 rw [hT,hT2,e]
 rfl
def mvV (x:Int):Int:=mulDivV x 1073741824 1000
def mvW (x:Int):Int:=rndV (2*mvV x*4294968) 30
def mvC (x:Int):Int:=clampV x (-549755813888) 549755813888
def mvP (p v d:Int):Int:=clampV (fI2 (clampV p (-9007199254740992) 9007199254740992) (mulV (fI2 (mvC v) (fI3 (mvC v) d 0)) 4294968 30)) (-9007199254740992) 9007199254740992
theorem mv7 (v0 v1 v2 p0 p1 p2 T x:Int):stC 7 (acL v0 v1 v2 p0 p1 p2 T x)=clampV (fI2 (clampV p0 (-9007199254740992) 9007199254740992) (mulV (fI2 (mvC v0) (fI3 (mvC v0) (dotV 30 [1073741824,-154,0] [subV (fI2 0 x) 0,0,-84238486]) 0)) 4294968 30)) (-9007199254740992) 9007199254740992:=by kernel_rfl
theorem mv8 (v0 v1 v2 p0 p1 p2 T x:Int):stC 8 (acL v0 v1 v2 p0 p1 p2 T x)=clampV (fI2 (clampV p1 (-9007199254740992) 9007199254740992) (mulV (fI2 (mvC v1) (fI3 (mvC v1) (dotV 30 [154,1073741824,0] [subV (fI2 0 x) 0,0,-84238486]) 0)) 4294968 30)) (-9007199254740992) 9007199254740992:=by kernel_rfl
theorem mv_dv (w:Int): -1000≤2*(divV w 1000*1000 - w)∧2*(divV w 1000*1000 - w)≤1000:=by
 by_cases h:0≤w
 ·rw [div_pos h (by omega)];exact quo_bd h (by omega)
 ·have k:=quo_bd (a:= -w) (b:=1000) (by omega) (by omega)
  have e:divV w 1000 = -(quoR (-w) 1000):=by
   unfold divV
   rw [show decide (w<0)=true by simpa using h,show decide ((1000:Int)<0)=false from rfl,show absV w = -w by unfold absV;rw [if_pos (by omega)],show absV 1000=1000 from rfl]
   rfl
  rw [e]
  omega
theorem mv_bd {x:Int} (h0: -1000≤x) (h1:x≤1000): -1000≤2*(mvV x*1000 - x*1073741824)∧2*(mvV x*1000 - x*1073741824)≤1000:=by
 have b:=mv_dv (x*1073741824)
 have e:mvV x=divV (x*1073741824) 1000:=by
  unfold mvV mulDivV byV
  rw [sat_in (a:=x) (by omega) (by omega),sat_in (a:=1073741824) (by omega) (by omega),sat_in (a:=1000) (by omega) (by omega),if_neg (by omega),sat_in (by omega) (by omega)]
 rw [e];exact b
structure MvH (x:Int):Prop where
 lo: -1000≤x
 hi:x≤1000
theorem MvH.v {x:Int} (h:MvH x): -1073741825≤mvV x∧mvV x≤1073741825:=by
 have b:=mv_bd h.lo h.hi
 have:=h.lo;have:=h.hi
 omega
theorem MvH.wb {x:Int} (h:MvH x): -8589960≤mvW x∧mvW x≤8589960:=by
 have b:=h.v
 have c:=ac_rb (2*mvV x*4294968)
 unfold mvW
 omega
theorem MvH.up {x:Int} (h:MvH x) (g:100≤x):0<mvW x:=by
 have b:=mv_bd h.lo h.hi
 have c:=ac_rb (2*mvV x*4294968)
 unfold mvW
 omega
theorem MvH.dn {x:Int} (h:MvH x) (g:x≤ -100):mvW x<0:=by
 have b:=mv_bd h.lo h.hi
 have c:=ac_rb (2*mvV x*4294968)
 unfold mvW
 omega
theorem MvH.c {x:Int} (h:MvH x):mvC (mvC (mvC (mvC (mvV x))))=mvV x:=by
 have b:=h.v
 have e:mvC (mvV x)=mvV x:=ac_cl (by omega) (by omega)
 rw [e,e,e,e]
theorem acH0:AcH 0:=⟨by omega,by omega⟩
theorem acU0:acU 0=0:=by kernel_rfl
theorem MvH.v4 {x:Int} (h:MvH x) (v1 v2 p0 p1 p2 T:Int):stC 4 (acL (mvV x) v1 v2 p0 p1 p2 T 0)=mvV x:=by
 have b:=h.v
 exact acH0.v4 _ _ _ _ _ _ (by omega) (by omega) (by omega)
theorem MvH.v5 {x:Int} (h:MvH x) (v0 v2 p0 p1 p2 T:Int):stC 5 (acL v0 (mvV x) v2 p0 p1 p2 T 0)=mvV x:=by
 have b:=h.v
 exact acH0.v5 _ _ _ _ _ _ (by omega) (by omega) (by rw [acU0];omega)
theorem mv_pl {p v:Int} (h0: -1073741825≤v) (h1:v≤1073741825) (h2: -1000000000≤p) (h3:p≤1000000000):mvP p v 0=p+rndV (2*v*4294968) 30:=by
 unfold mvP mvC
 have e1:fI3 v 0 0=v:=by
  show satV (satV v+(satV 0+(satV 0+0)))=v
  rw [sat_in (a:=v) (by omega) (by omega),sat_in (a:=0) (by omega) (by omega),sat_in (by omega) (by omega)]
  omega
 have e2:fI2 v v=2*v:=by
  show satV (satV v+(satV v+0))=_
  rw [sat_in (a:=v) (by omega) (by omega),sat_in (by omega) (by omega)]
  omega
 have c:=ac_rb (2*v*4294968)
 have e3:mulV (2*v) 4294968 30=rndV (2*v*4294968) 30:=by
  unfold mulV
  rw [sat_in (a:=2*v) (by omega) (by omega),sat_in (a:=4294968) (by omega) (by omega)]
  exact ac_rnd (by omega) (by omega)
 have cp:∀y:Int,-9007199254740992≤y→y≤9007199254740992→clampV y (-9007199254740992) 9007199254740992=y:=by
  intro y a b
  unfold clampV
  rw [if_neg (by omega),if_neg (by omega),if_neg (by omega)]
 rw [ac_cl (by omega) (by omega),e1,e2,e3,cp p (by omega) (by omega)]
 generalize rndV (2*v*4294968) 30=r at *
 have e4:fI2 p r=p+r:=by
  show satV (satV p+(satV r+0))=_
  rw [sat_in (a:=p) (by omega) (by omega),sat_in (a:=r) (by omega) (by omega),sat_in (by omega) (by omega)]
  omega
 rw [e4,cp _ (by omega) (by omega)]
theorem MvH.p7 {x:Int} (h:MvH x) (v1 v2:Int) {p:Int} (p1 p2 T:Int) {r:Int} (h0: -1000000000≤p) (h1:p≤1000000000) (e:p+mvW x=r):stC 7 (acL (mvV x) v1 v2 p p1 p2 T 0)=r:=by
 have b:=h.v
 rw [mv7,ac_d4 (by omega) (by omega)]
 have:=mv_pl (p:=p) b.1 b.2 h0 h1
 unfold mvP at this
 rw [this]
 exact e
theorem MvH.p8 {x:Int} (h:MvH x) (v0 v2 p0:Int) {p:Int} (p2 T:Int) {r:Int} (h0: -1000000000≤p) (h1:p≤1000000000) (e:p+mvW x=r):stC 8 (acL v0 (mvV x) v2 p0 p p2 T 0)=r:=by
 have b:=h.v
 rw [mv8,ac_d5 (by omega) (by omega),acU0]
 have:=mv_pl (p:=p) b.1 b.2 h0 h1
 unfold mvP at this
 rw [this]
 exact e
def smN (x:Int):Int:=mulV (wr .i64 (x - 0)) 12157770197 10
def smE (x:Int):Int:=mulV (wr .i64 (x - 0)) 12239707452 10
def smQ (x:Int):Int:=clampV x (-9007199254740992) 9007199254740992
def smC (x:Int):Int:=fI3 0 0 (subV (clampV x (-9007199254740992) 9007199254740992) 0)
def smL:List LV:=acL 0 0 0 0 0 0 0 0
def smD (j:Nat) (x:Int):Int:=fI3 0 0 (subV (smQ x) (smQ (smQ (smQ (stC j smL)))))
theorem sm_z0:smQ (smQ (smQ 0))=0:=by decide
theorem sm_r0:rndV (2*0*4294968) 30=0:=by kernel_rfl
theorem sm_z7:stC 7 smL=0:=by
 unfold smL
 rw [mv7,ac_d4 (by omega) (by omega)]
 have:=mv_pl (p:=0) (v:=0) (by omega) (by omega) (by omega) (by omega)
 unfold mvP at this
 rw [this,sm_r0]
 rfl
theorem sm_z8:stC 8 smL=0:=by
 unfold smL
 rw [mv8,ac_d5 (by omega) (by omega),acU0]
 have:=mv_pl (p:=0) (v:=0) (by omega) (by omega) (by omega) (by omega)
 unfold mvP at this
 rw [this,sm_r0]
 rfl
structure SmH (x:Int):Prop where
 lo: -100000≤x
 hi:x≤100000
theorem sm_rb (w:Int): -1024≤2*(rndV w 10*1024 - w)∧2*(rndV w 10*1024 - w)≤1024:=rnd_bd w 10
theorem sm_m {x k:Int} (h:SmH x) (h0:0≤k) (h1:k≤13000000000): -1300000000000≤mulV (wr .i64 (x - 0)) k 10∧mulV (wr .i64 (x - 0)) k 10≤1300000000000:=by
 have a:=h.lo;have b:=h.hi
 rw [Go.Lr.w1 (by omega),Int.sub_zero]
 unfold mulV
 rw [sat_in (a:=x) (by omega) (by omega),sat_in (a:=k) (by omega) (by omega)]
 have p: -1300000000000000≤x*k∧x*k≤1300000000000000:=by
  constructor
  ·have: -100000*13000000000≤x*k:=by
    rcases Int.le_total 0 x with hx | hx
    ·have:=Int.mul_nonneg hx h0;omega
    ·have h2:x*13000000000≤x*k:=Int.mul_le_mul_of_nonpos_left hx h1
     omega
   omega
  ·have:x*k≤100000*13000000000:=by
    rcases Int.le_total 0 x with hx | hx
    ·have h2:x*k≤x*13000000000:=Int.mul_le_mul_of_nonneg_left h1 hx
     omega
    ·have h2:x*k≤0:=Int.mul_nonpos_of_nonpos_of_nonneg hx h0
     omega
   omega
 have c:=sm_rb (x*k)
 unfold rndS
 rw [if_neg (by decide),if_neg (by decide)]
 have e:satV (rndV (x*k) (10:Int).toNat)=rndV (x*k) 10:=sat_in (by show _≤rndV (x*k) 10;omega) (by show rndV (x*k) 10≤_;omega)
 rw [e]
 omega
theorem sm_c {x:Int} (h0: -1300000000000≤x) (h1:x≤1300000000000):smC x=x:=by
 unfold smC
 have e:clampV x (-9007199254740992) 9007199254740992=x:=by
  unfold clampV
  rw [if_neg (by omega),if_neg (by omega),if_neg (by omega)]
 have e2:subV x 0=x:=by
  unfold subV
  rw [sat_in (a:=0) (by omega) (by omega),sat_in (a:=x) (by omega) (by omega),Int.sub_zero,sat_in (by omega) (by omega)]
 rw [e,e2]
 show satV (satV 0+(satV 0+(satV x+0)))=x
 rw [sat_in (a:=0) (by omega) (by omega),sat_in (a:=x) (by omega) (by omega),sat_in (by omega) (by omega)]
 omega
theorem SmH.n {x:Int} (h:SmH x):smD 7 (smN x)=smN x:=by
 unfold smD
 rw [sm_z7,sm_z0]
 show smC (smN x)=smN x
 have b:=sm_m h (k:=12157770197) (by omega) (by omega)
 exact sm_c b.1 b.2
theorem SmH.e {x:Int} (h:SmH x):smD 8 (smE x)=smE x:=by
 unfold smD
 rw [sm_z8,sm_z0]
 show smC (smE x)=smE x
 have b:=sm_m h (k:=12239707452) (by omega) (by omega)
 exact sm_c b.1 b.2
end Go.Proofs.YtnlhpaidmiogbaaGreat

/- TopSums: the states; aided, stage by stage. -/
namespace Go.Proofs.YtnlhpaidmiogbaaGreat
open Go.Lr
set_option linter.unusedVariables false
def zuPar:List Go.Lr.P2:=[qI 8000,qI 40000,qI 16]++rq 7 (qI 5)++[qI 1000000,qI 1000000,qI 1000000,qI 1000000,qI 1000000,qI 1000000,qI 1048576,qI 1048576,qI 1048576,qI 1048576,qI 17179869184,qI 17179869184,qI 17179869184,qI 16384,qI 16384,qI 16384,qI 1024,qI 1024,qI 1024,qI 65536,qI 65536,qI 65536,qI 16384,qI 16384,qI 16384,qI 16384,qI 16384,qI 16384,qI 17179869184,qI 17179869184,qI 68719476736,qI 68719476736,qI 68719476736,qI 68719476736,qI 17592186044416,qI 17592186044416,qI 17592186044416,qI 17592186044416,qI 17592186044416,qI 17592186044416,qI 67108864,qI 67108864,qI 67108864,qI 4294967296,qI 4294967296,qI 4294967296,qI 17179869184,qI 17179869184,qI 17179869184,qI 17179869184,qI 17179869184,qI 17179869184,qI 17592186044416,qI 17592186044416,qI 5000000,qI 68719476736,qI 1,qI 268435456,qI 32,qI 0,qI 0,qI 0]
def zuVar:List Go.Lr.P2:=[qI 68719476736,qI 68719476736,qI 68719476736,qI 68719476736,qI 17592186044416,qI 17592186044416,qI 17592186044416,qI 17592186044416,qI 17592186044416,qI 17592186044416,qI 67108864,qI 67108864,qI 67108864,qI 4294967296,qI 4294967296,qI 4294967296,qI 17179869184,qI 17179869184,qI 17179869184,qI 17179869184,qI 17179869184,qI 17179869184,qI 17592186044416,qI 17592186044416]
def zuMon:List Go.Lr.P2:=[qI 0,qI 0,qB false,qI 0,qI 1000000,qI 5,qI 0,qI 0,qB false,qI 1,qI 1000000,qI 5,qI 0,qI 0,qB false,qI 2,qI 1000000,qI 5,qI 0,qI 0,qB false,qI 3,qI 1000000,qI 5,qI 0,qI 0,qB false,qI 4,qI 1000000,qI 5,qI 0,qI 0,qB false,qI 5,qI 1000000,qI 5,qI 0]
def zuR (b:Nat) (t:Int):Nat×PB2:=(b,⟨171,(0,0),0,[qI 0,qI 0,qI 0,qI 0,qI 0,qI 16,qL .nilsl,qI t],none⟩)
def zuO:List Int→List Go.Lr.P2
 | []=>[]
 | t::l=>qI t::(rq 10 qH++zuO l)
def zuB0 (lat lon:Int):Nat×PB2:=(4,⟨29,(0,0),0,[qS lat,qS lon,qI 0,qI 0,qI 0,qI 0,qI 1000,qI 100],none⟩)
def zuB1:Nat×PB2:=(13,⟨97,(0,0),0,zuPar++[qB false,qI 1073741824]++rq 299 (qI 0)++zuVar++[qL (.ptr 20 0),qL (.ptr 21 0),qL .nilsl,qL (.ptr 24 0),qL (.ptr 25 0),qL (.ptr 26 0),qL (.ptr 27 0),qL (.ptr 28 0),qL (.ptr 29 0),qL (.ptr 22 0),qI 0,qI 0,qB false,qB false,qL (.ptr 23 0),qB false,qI 0,qI 0,qI 0,qI 0,qB false,qB false,qB false,qI 0,qI 0,qI 0,qI 1073741824]++rq 9 (qI 0)++[qL .nilsl],none⟩)
def zuB2:Nat×PB2:=(20,⟨129,(0,0),0,[qI 0,qI 0,qI 0,qI 12157770197,qI 12239707452],none⟩)
def zuB3:Nat×PB2:=(21,⟨207,(0,0),0,[qI 8000]++rq 8 (qI 0)++[qB false],none⟩)
def zuB4:Nat×PB2:=(22,⟨184,(0,0),0,zuMon,none⟩)
def zuB5:Nat×PB2:=(23,⟨210,(0,0),0,[qI 32,qI 268435456,qL .nilsl],none⟩)
def zuB6:Nat×PB2:=(24,⟨171,(0,0),0,[qI 0,qI 0,qI 0,qI 0,qI 0,qI 16,qL .nilsl,qI (-9223372036854775808)],none⟩)
def zuB7:Nat×PB2:=(25,⟨171,(0,0),0,[qI 0,qI 0,qI 0,qI 0,qI 0,qI 16,qL .nilsl,qI (-9223372036854775808)],none⟩)
def zuB8:Nat×PB2:=(26,⟨171,(0,0),0,[qI 0,qI 0,qI 0,qI 0,qI 0,qI 16,qL .nilsl,qI (-9223372036854775808)],none⟩)
def zuB9:Nat×PB2:=(27,⟨171,(0,0),0,[qI 0,qI 0,qI 0,qI 0,qI 0,qI 16,qL .nilsl,qI (-9223372036854775808)],none⟩)
def zuB10:Nat×PB2:=(28,⟨171,(0,0),0,[qI 0,qI 0,qI 0,qI 0,qI 0,qI 16,qL .nilsl,qI (-9223372036854775808)],none⟩)
def zuB11:Nat×PB2:=(29,⟨171,(0,0),0,[qI 0,qI 0,qI 0,qI 0,qI 0,qI 16,qL .nilsl,qI (-9223372036854775808)],none⟩)
def zuB12:Nat×PB2:=(30,⟨27,(0,0),0,[qL (.ptr 13 0),qI 0,qI 0,qB false],none⟩)
def zuB13:Nat×PB2:=(13,⟨97,(0,0),0,zuPar++[qO,qI 1073741824]++rq 23 (qI 0)++rq 300 (qH)++[qL (.ptr 20 0),qL (.ptr 21 0),qL (.slu 222 5),qL (.ptr 24 0),qL (.ptr 25 0),qL (.ptr 26 0),qL (.ptr 27 0),qL (.ptr 28 0),qL (.ptr 29 0),qL (.ptr 22 0),qI 1,qI 0,qB false,qB false,qL (.ptr 23 0),qB true,qI 10,qI 0,qI 0,qI (-842384860),qB true,qB false,qB false,qI 0,qI 88000,qI 0,qI 1073741824]++rq 9 (qI 0)++[qL .nilsl],none⟩)
def zuB14:Nat×PB2:=(21,⟨207,(0,0),0,[qI 8000,qI 128000]++rq 7 (qI 0)++[qB true],none⟩)
def zuB15:Nat×PB2:=(23,⟨210,(0,0),0,[qI 32,qI 268435456,qL (.slu 229 7)],none⟩)
def zuB16:Nat×PB2:=(30,⟨27,(0,0),0,[qL (.ptr 13 0),qI 128000,qI 11,qB false],none⟩)
def zuB17:Nat×PB2:=(222,⟨66,(0,0),8,[qI 96000,qI 8000,qI 0,qI 0,qI 0,qI 0,qI 0,qI (-84238486),qI 104000,qI 8000,qI 0,qI 0,qI 0,qI 0,qI 0,qI (-84238486),qI 112000,qI 8000,qI 0,qI 0,qI 0,qI 0,qI 0,qI (-84238486),qI 120000,qI 8000,qI 0,qI 0,qI 0,qI 0,qI 0,qI (-84238486),qI 128000,qI 8000,qI 0,qI 0,qI 0,qI 0,qI 0,qI (-84238486)],none⟩)
def zuB18:Nat×PB2:=(229,⟨79,(0,0),11,zuO [80000,88000,96000,104000,112000,120000,128000],none⟩)
def zuB19:Nat×PB2:=(27,⟨171,(0,0),0,[qI 1,qI 0,qI 0,qI 0,qI 0,qI 16,qL (.slu 249 1),qI 88000],none⟩)
def zuB20:Nat×PB2:=(249,⟨31,(0,0),9,[qI 128001,qI 249049,qI (-21789),qI 300000,qI 1000,qI 0,qI 0,qI 0,qI 0],none⟩)
def zuB21:Nat×PB2:=(22,⟨184,(0,0),0,[qI 0,qI 0,qB false,qI 0,qI 1000000,qI 5,qI 0,qI 0,qB false,qI 1,qI 1000000,qI 5,qI 0,qI 0,qB false,qI 2,qI 1000000,qI 5,qI 136000,qI 0,qB true,qI 3,qI 1000000,qI 5,qI 0,qI 0,qB false,qI 4,qI 1000000,qI 5,qI 0,qI 0,qB false,qI 5,qI 1000000,qI 5,qI 0],none⟩)
def zuB22:Nat×PB2:=(249,⟨31,(0,0),9,rq 9 (qI 0),none⟩)
def zuB23:Nat×PB2:=(13,⟨97,(0,0),0,zuPar++[qO,qI 1073741824,qI 0,qI 0,qI 77]++rq 12 (qI 0)++[qI 267414331,qI (-23395723),qI 322122547,qI 0,qI 0,qI 0,qI 0,qI 0]++rq 300 (qH)++[qL (.ptr 20 0),qL (.ptr 21 0),qL (.slu 443 5),qL (.ptr 24 0),qL (.ptr 25 0),qL (.ptr 26 0),qL (.ptr 27 0),qL (.ptr 28 0),qL (.ptr 29 0),qL (.ptr 22 0),qI 2,qI 1,qB false,qB true,qL (.ptr 23 0),qB true,qI 10,qI 0,qI 0,qI (-842384860),qB true,qB true,qB false,qI 0,qI 144000,qI 1,qI 1073741824,qI 0,qI 0,qI 77,qI 0,qI 0,qI 0,qI 0,qI 0,qI 0,qL .nilsl],none⟩)
def zuB24:Nat×PB2:=(21,⟨207,(0,0),0,[qI 8000,qI 184000]++rq 7 (qI 0)++[qB true],none⟩)
def zuB25:Nat×PB2:=(23,⟨210,(0,0),0,[qI 32,qI 268435456,qL (.slu 450 14)],none⟩)
def zuB26:Nat×PB2:=(27,⟨171,(0,0),0,[qI 1,qI 0,qI 0,qI 0,qI 1,qI 16,qL (.slu 249 0),qI 144000],none⟩)
def zuB27:Nat×PB2:=(30,⟨27,(0,0),0,[qL (.ptr 13 0),qI 184000,qI 18,qB false],none⟩)
def zuB28:Nat×PB2:=(443,⟨66,(0,0),8,[qI 152000,qI 8000,qI 0,qI 0,qI 0,qI 0,qI 0,qI (-84238486),qI 160000,qI 8000,qI 0,qI 0,qI 0,qI 0,qI 0,qI (-84238486),qI 168000,qI 8000,qI 0,qI 0,qI 0,qI 0,qI 0,qI (-84238486),qI 176000,qI 8000,qI 0,qI 0,qI 0,qI 0,qI 0,qI (-84238486),qI 184000,qI 8000,qI 0,qI 0,qI 0,qI 0,qI 0,qI (-84238486)],none⟩)
def zuB29:Nat×PB2:=(450,⟨79,(0,0),11,zuO [80000,88000,96000,104000,112000,120000,128000,136000,144000,152000,160000,168000,176000,184000],none⟩)
def zuB30:Nat×PB2:=(24,⟨171,(0,0),0,[qI 1,qI 0,qI 0,qI 0,qI 0,qI 16,qL (.slu 459 1),qI 144000],none⟩)
def zuB31 (lat lon:Int):Nat×PB2:=(459,⟨31,(0,0),9,[qI 184001,qS lat,qS lon,qI 0,qI 0,qI 0,qI 0,qI 1000,qI 100],none⟩)
def zuB32:Nat×PB2:=(22,⟨184,(0,0),0,[qI 192000,qI 0,qB true,qI 0,qI 1000000,qI 5,qI 0,qI 0,qB false,qI 1,qI 1000000,qI 5,qI 0,qI 0,qB false,qI 2,qI 1000000,qI 5,qI 136000,qI 0,qB true,qI 3,qI 1000000,qI 5,qI 0,qI 0,qB false,qI 4,qI 1000000,qI 5,qI 0,qI 0,qB false,qI 5,qI 1000000,qI 5,qI 0],none⟩)
def zuB33:Nat×PB2:=(459,⟨31,(0,0),9,rq 9 (qI 0),none⟩)
def zuB34 (lat lon:Int):Nat×PB2:=(13,⟨97,(0,0),0,zuPar++[qO,qI 1073741824,qI 0,qI 0,qI 77,qI 0,qI 0,qI 0,qH,qH]++rq 7 (qI 0)++[qI 267414331,qI (-23395723),qI 322122547,qI 0,qI 0,qI 0,qI 0,qI 0]++rq 300 (qH)++[qL (.ptr 20 0),qL (.ptr 21 0),qL (.slu 690 5),qL (.ptr 24 0),qL (.ptr 25 0),qL (.ptr 26 0),qL (.ptr 27 0),qL (.ptr 28 0),qL (.ptr 29 0),qL (.ptr 22 0),qI 3,qI 2,qB true,qB false,qL (.ptr 23 0),qB true,qI 10,qI 0,qI 0,qI (-842384860),qB true,qB true,qB true,qI 192000,qI 200000,qI 3,qI 1073741824,qI 0,qI 0,qI 77,qI 0,qI 0,qI 0,qS (smN lat),qS (smE lon),qI 0,qL .nilsl],none⟩)
def zuB35:Nat×PB2:=(21,⟨207,(0,0),0,[qI 8000,qI 240000]++rq 7 (qI 0)++[qB true],none⟩)
def zuB36:Nat×PB2:=(23,⟨210,(0,0),0,[qI 32,qI 268435456,qL (.slu 697 21)],none⟩)
def zuB37:Nat×PB2:=(24,⟨171,(0,0),0,[qI 1,qI 0,qI 0,qI 0,qI 1,qI 16,qL (.slu 459 0),qI 200000],none⟩)
def zuB38:Nat×PB2:=(27,⟨171,(0,0),0,[qI 1,qI 0,qI 0,qI 0,qI 1,qI 16,qL (.slu 249 0),qI 200000],none⟩)
def zuB39:Nat×PB2:=(30,⟨27,(0,0),0,[qL (.ptr 13 0),qI 240000,qI 25,qB false],none⟩)
def zuB40:Nat×PB2:=(690,⟨66,(0,0),8,[qI 208000,qI 8000,qI 0,qI 0,qI 0,qI 0,qI 0,qI (-84238486),qI 216000,qI 8000,qI 0,qI 0,qI 0,qI 0,qI 0,qI (-84238486),qI 224000,qI 8000,qI 0,qI 0,qI 0,qI 0,qI 0,qI (-84238486),qI 232000,qI 8000,qI 0,qI 0,qI 0,qI 0,qI 0,qI (-84238486),qI 240000,qI 8000,qI 0,qI 0,qI 0,qI 0,qI 0,qI (-84238486)],none⟩)
def zuB41:Nat×PB2:=(697,⟨79,(0,0),11,zuO [80000,88000,96000,104000,112000,120000,128000,136000,144000,152000,160000,168000,176000,184000,192000,200000,208000,216000,224000,232000,240000],none⟩)
def zuB42:Nat×PB2:=(707,⟨129,(0,0),0,[qI 0,qI 0,qI 0,qI 12157770197,qI 12239707452],none⟩)
def zuM0 (lat lon:Int):List (Nat×PB2):=[(3,⟨51,(0,0),0,zuPar,none⟩),zuB0 lat lon]
def zuM1 (lat lon:Int):List (Nat×PB2):=[(3,⟨51,(0,0),0,zuPar,none⟩),zuB0 lat lon,zuB1,zuB2,zuB3,zuB4,zuB5,zuB6,zuB7,zuB8,zuB9,zuB10,zuB11,zuB12]
def zuM2 (lat lon:Int):List (Nat×PB2):=[(3,⟨51,(0,0),0,zuPar,none⟩),zuB0 lat lon,(13,⟨97,(0,0),0,zuPar++[qB false,qI 1073741824]++rq 299 (qI 0)++zuVar++[qL (.ptr 20 0),qL (.ptr 21 0),qL (.slu 31 1),qL (.ptr 24 0),qL (.ptr 25 0),qL (.ptr 26 0),qL (.ptr 27 0),qL (.ptr 28 0),qL (.ptr 29 0),qL (.ptr 22 0),qI 0,qI 0,qB false,qB false,qL (.ptr 23 0),qB false,qI 0,qI 0,qI 0,qI 0,qB false,qB false,qB false,qI 0,qI 0,qI 0,qI 1073741824]++rq 9 (qI 0)++[qL .nilsl],none⟩),zuB2,(21,⟨207,(0,0),0,[qI 8000,qI 8000]++rq 7 (qI 0)++[qB true],none⟩),zuB4,zuB5,zuB6,zuB7,zuB8,zuB9,zuB10,zuB11,(30,⟨27,(0,0),0,[qL (.ptr 13 0),qI 8000,qI 0,qB false],none⟩),(31,⟨66,(0,0),8,[qI 8000,qI 8000,qI 0,qI 0,qI 0,qI 0,qI 0,qI (-84238486)],none⟩)]
def zuM3 (lat lon:Int):List (Nat×PB2):=[(3,⟨51,(0,0),0,zuPar,none⟩),zuB0 lat lon,(13,⟨97,(0,0),0,zuPar++[qB false,qI 1073741824]++rq 299 (qI 0)++zuVar++[qL (.ptr 20 0),qL (.ptr 21 0),qL (.slu 38 2),qL (.ptr 24 0),qL (.ptr 25 0),qL (.ptr 26 0),qL (.ptr 27 0),qL (.ptr 28 0),qL (.ptr 29 0),qL (.ptr 22 0),qI 0,qI 0,qB false,qB false,qL (.ptr 23 0),qB false,qI 0,qI 0,qI 0,qI 0,qB false,qB false,qB false,qI 0,qI 0,qI 0,qI 1073741824]++rq 9 (qI 0)++[qL .nilsl],none⟩),zuB2,(21,⟨207,(0,0),0,[qI 8000,qI 16000]++rq 7 (qI 0)++[qB true],none⟩),zuB4,zuB5,zuB6,zuB7,zuB8,zuB9,zuB10,zuB11,(30,⟨27,(0,0),0,[qL (.ptr 13 0),qI 16000,qI 0,qB false],none⟩),(38,⟨66,(0,0),8,[qI 8000,qI 8000,qI 0,qI 0,qI 0,qI 0,qI 0,qI (-84238486),qI 16000,qI 8000,qI 0,qI 0,qI 0,qI 0,qI 0,qI (-84238486)],none⟩)]
def zuM4 (lat lon:Int):List (Nat×PB2):=[(3,⟨51,(0,0),0,zuPar,none⟩),zuB0 lat lon,(13,⟨97,(0,0),0,zuPar++[qB false,qI 1073741824]++rq 299 (qI 0)++zuVar++[qL (.ptr 20 0),qL (.ptr 21 0),qL (.slu 45 3),qL (.ptr 24 0),qL (.ptr 25 0),qL (.ptr 26 0),qL (.ptr 27 0),qL (.ptr 28 0),qL (.ptr 29 0),qL (.ptr 22 0),qI 0,qI 0,qB false,qB false,qL (.ptr 23 0),qB false,qI 0,qI 0,qI 0,qI 0,qB false,qB false,qB false,qI 0,qI 0,qI 0,qI 1073741824]++rq 9 (qI 0)++[qL .nilsl],none⟩),zuB2,(21,⟨207,(0,0),0,[qI 8000,qI 24000]++rq 7 (qI 0)++[qB true],none⟩),zuB4,zuB5,zuB6,zuB7,zuB8,zuB9,zuB10,zuB11,(30,⟨27,(0,0),0,[qL (.ptr 13 0),qI 24000,qI 0,qB false],none⟩),(45,⟨66,(0,0),8,[qI 8000,qI 8000,qI 0,qI 0,qI 0,qI 0,qI 0,qI (-84238486),qI 16000,qI 8000,qI 0,qI 0,qI 0,qI 0,qI 0,qI (-84238486),qI 24000,qI 8000,qI 0,qI 0,qI 0,qI 0,qI 0,qI (-84238486)],none⟩)]
def zuM5 (lat lon:Int):List (Nat×PB2):=[(3,⟨51,(0,0),0,zuPar,none⟩),zuB0 lat lon,(13,⟨97,(0,0),0,zuPar++[qB false,qI 1073741824]++rq 299 (qI 0)++zuVar++[qL (.ptr 20 0),qL (.ptr 21 0),qL (.slu 52 4),qL (.ptr 24 0),qL (.ptr 25 0),qL (.ptr 26 0),qL (.ptr 27 0),qL (.ptr 28 0),qL (.ptr 29 0),qL (.ptr 22 0),qI 0,qI 0,qB false,qB false,qL (.ptr 23 0),qB false,qI 0,qI 0,qI 0,qI 0,qB false,qB false,qB false,qI 0,qI 0,qI 0,qI 1073741824]++rq 9 (qI 0)++[qL .nilsl],none⟩),zuB2,(21,⟨207,(0,0),0,[qI 8000,qI 32000]++rq 7 (qI 0)++[qB true],none⟩),zuB4,zuB5,zuB6,zuB7,zuB8,zuB9,zuB10,zuB11,(30,⟨27,(0,0),0,[qL (.ptr 13 0),qI 32000,qI 0,qB false],none⟩),(52,⟨66,(0,0),8,[qI 8000,qI 8000,qI 0,qI 0,qI 0,qI 0,qI 0,qI (-84238486),qI 16000,qI 8000,qI 0,qI 0,qI 0,qI 0,qI 0,qI (-84238486),qI 24000,qI 8000,qI 0,qI 0,qI 0,qI 0,qI 0,qI (-84238486),qI 32000,qI 8000,qI 0,qI 0,qI 0,qI 0,qI 0,qI (-84238486)],none⟩)]
def zuM6 (lat lon:Int):List (Nat×PB2):=[(3,⟨51,(0,0),0,zuPar,none⟩),zuB0 lat lon,(13,⟨97,(0,0),0,zuPar++[qB false,qI 1073741824]++rq 299 (qI 0)++zuVar++[qL (.ptr 20 0),qL (.ptr 21 0),qL (.slu 59 5),qL (.ptr 24 0),qL (.ptr 25 0),qL (.ptr 26 0),qL (.ptr 27 0),qL (.ptr 28 0),qL (.ptr 29 0),qL (.ptr 22 0),qI 0,qI 0,qB false,qB false,qL (.ptr 23 0),qB false,qI 0,qI 0,qI 0,qI 0,qB false,qB false,qB false,qI 0,qI 0,qI 0,qI 1073741824]++rq 9 (qI 0)++[qL .nilsl],none⟩),zuB2,(21,⟨207,(0,0),0,[qI 8000,qI 40000]++rq 7 (qI 0)++[qB true],none⟩),zuB4,zuB5,zuB6,zuB7,zuB8,zuB9,zuB10,zuB11,(30,⟨27,(0,0),0,[qL (.ptr 13 0),qI 40000,qI 0,qB false],none⟩),(59,⟨66,(0,0),8,[qI 8000,qI 8000,qI 0,qI 0,qI 0,qI 0,qI 0,qI (-84238486),qI 16000,qI 8000,qI 0,qI 0,qI 0,qI 0,qI 0,qI (-84238486),qI 24000,qI 8000,qI 0,qI 0,qI 0,qI 0,qI 0,qI (-84238486),qI 32000,qI 8000,qI 0,qI 0,qI 0,qI 0,qI 0,qI (-84238486),qI 40000,qI 8000,qI 0,qI 0,qI 0,qI 0,qI 0,qI (-84238486)],none⟩)]
def zuM7 (lat lon:Int):List (Nat×PB2):=[(3,⟨51,(0,0),0,zuPar,none⟩),zuB0 lat lon,(13,⟨97,(0,0),0,zuPar++[qB false,qI 1073741824]++rq 299 (qI 0)++zuVar++[qL (.ptr 20 0),qL (.ptr 21 0),qL (.slu 70 5),qL (.ptr 24 0),qL (.ptr 25 0),qL (.ptr 26 0),qL (.ptr 27 0),qL (.ptr 28 0),qL (.ptr 29 0),qL (.ptr 22 0),qI 0,qI 0,qB false,qB false,qL (.ptr 23 0),qB false,qI 1,qI 0,qI 0,qI (-84238486),qB false,qB false,qB false,qI 0,qI 8000,qI 0,qI 1073741824]++rq 9 (qI 0)++[qL .nilsl],none⟩),zuB2,(21,⟨207,(0,0),0,[qI 8000,qI 48000]++rq 7 (qI 0)++[qB true],none⟩),zuB4,zuB5,zuR 24 8000,zuR 25 8000,zuR 26 8000,zuR 27 8000,zuR 28 8000,zuR 29 8000,(30,⟨27,(0,0),0,[qL (.ptr 13 0),qI 48000,qI 1,qB false],none⟩),(70,⟨66,(0,0),8,[qI 16000,qI 8000,qI 0,qI 0,qI 0,qI 0,qI 0,qI (-84238486),qI 24000,qI 8000,qI 0,qI 0,qI 0,qI 0,qI 0,qI (-84238486),qI 32000,qI 8000,qI 0,qI 0,qI 0,qI 0,qI 0,qI (-84238486),qI 40000,qI 8000,qI 0,qI 0,qI 0,qI 0,qI 0,qI (-84238486),qI 48000,qI 8000,qI 0,qI 0,qI 0,qI 0,qI 0,qI (-84238486)],none⟩)]
def zuM8 (lat lon:Int):List (Nat×PB2):=[(3,⟨51,(0,0),0,zuPar,none⟩),zuB0 lat lon,(13,⟨97,(0,0),0,zuPar++[qB false,qI 1073741824]++rq 299 (qI 0)++zuVar++[qL (.ptr 20 0),qL (.ptr 21 0),qL (.slu 82 5),qL (.ptr 24 0),qL (.ptr 25 0),qL (.ptr 26 0),qL (.ptr 27 0),qL (.ptr 28 0),qL (.ptr 29 0),qL (.ptr 22 0),qI 0,qI 0,qB false,qB false,qL (.ptr 23 0),qB false,qI 2,qI 0,qI 0,qI (-168476972),qB false,qB false,qB false,qI 0,qI 16000,qI 0,qI 1073741824]++rq 9 (qI 0)++[qL .nilsl],none⟩),zuB2,(21,⟨207,(0,0),0,[qI 8000,qI 56000]++rq 7 (qI 0)++[qB true],none⟩),zuB4,zuB5,zuR 24 16000,zuR 25 16000,zuR 26 16000,zuR 27 16000,zuR 28 16000,zuR 29 16000,(30,⟨27,(0,0),0,[qL (.ptr 13 0),qI 56000,qI 2,qB false],none⟩),(82,⟨66,(0,0),8,[qI 24000,qI 8000,qI 0,qI 0,qI 0,qI 0,qI 0,qI (-84238486),qI 32000,qI 8000,qI 0,qI 0,qI 0,qI 0,qI 0,qI (-84238486),qI 40000,qI 8000,qI 0,qI 0,qI 0,qI 0,qI 0,qI (-84238486),qI 48000,qI 8000,qI 0,qI 0,qI 0,qI 0,qI 0,qI (-84238486),qI 56000,qI 8000,qI 0,qI 0,qI 0,qI 0,qI 0,qI (-84238486)],none⟩)]
def zuM9 (lat lon:Int):List (Nat×PB2):=[(3,⟨51,(0,0),0,zuPar,none⟩),zuB0 lat lon,(13,⟨97,(0,0),0,zuPar++[qB false,qI 1073741824]++rq 299 (qI 0)++zuVar++[qL (.ptr 20 0),qL (.ptr 21 0),qL (.slu 94 5),qL (.ptr 24 0),qL (.ptr 25 0),qL (.ptr 26 0),qL (.ptr 27 0),qL (.ptr 28 0),qL (.ptr 29 0),qL (.ptr 22 0),qI 0,qI 0,qB false,qB false,qL (.ptr 23 0),qB false,qI 3,qI 0,qI 0,qI (-252715458),qB false,qB false,qB false,qI 0,qI 24000,qI 0,qI 1073741824]++rq 9 (qI 0)++[qL .nilsl],none⟩),zuB2,(21,⟨207,(0,0),0,[qI 8000,qI 64000]++rq 7 (qI 0)++[qB true],none⟩),zuB4,zuB5,zuR 24 24000,zuR 25 24000,zuR 26 24000,zuR 27 24000,zuR 28 24000,zuR 29 24000,(30,⟨27,(0,0),0,[qL (.ptr 13 0),qI 64000,qI 3,qB false],none⟩),(94,⟨66,(0,0),8,[qI 32000,qI 8000,qI 0,qI 0,qI 0,qI 0,qI 0,qI (-84238486),qI 40000,qI 8000,qI 0,qI 0,qI 0,qI 0,qI 0,qI (-84238486),qI 48000,qI 8000,qI 0,qI 0,qI 0,qI 0,qI 0,qI (-84238486),qI 56000,qI 8000,qI 0,qI 0,qI 0,qI 0,qI 0,qI (-84238486),qI 64000,qI 8000,qI 0,qI 0,qI 0,qI 0,qI 0,qI (-84238486)],none⟩)]
def zuM10 (lat lon:Int):List (Nat×PB2):=[(3,⟨51,(0,0),0,zuPar,none⟩),zuB0 lat lon,(13,⟨97,(0,0),0,zuPar++[qB false,qI 1073741824]++rq 299 (qI 0)++zuVar++[qL (.ptr 20 0),qL (.ptr 21 0),qL (.slu 106 5),qL (.ptr 24 0),qL (.ptr 25 0),qL (.ptr 26 0),qL (.ptr 27 0),qL (.ptr 28 0),qL (.ptr 29 0),qL (.ptr 22 0),qI 0,qI 0,qB false,qB false,qL (.ptr 23 0),qB false,qI 4,qI 0,qI 0,qI (-336953944),qB false,qB false,qB false,qI 0,qI 32000,qI 0,qI 1073741824]++rq 9 (qI 0)++[qL .nilsl],none⟩),zuB2,(21,⟨207,(0,0),0,[qI 8000,qI 72000]++rq 7 (qI 0)++[qB true],none⟩),zuB4,zuB5,zuR 24 32000,zuR 25 32000,zuR 26 32000,zuR 27 32000,zuR 28 32000,zuR 29 32000,(30,⟨27,(0,0),0,[qL (.ptr 13 0),qI 72000,qI 4,qB false],none⟩),(106,⟨66,(0,0),8,[qI 40000,qI 8000,qI 0,qI 0,qI 0,qI 0,qI 0,qI (-84238486),qI 48000,qI 8000,qI 0,qI 0,qI 0,qI 0,qI 0,qI (-84238486),qI 56000,qI 8000,qI 0,qI 0,qI 0,qI 0,qI 0,qI (-84238486),qI 64000,qI 8000,qI 0,qI 0,qI 0,qI 0,qI 0,qI (-84238486),qI 72000,qI 8000,qI 0,qI 0,qI 0,qI 0,qI 0,qI (-84238486)],none⟩)]
def zuM11 (lat lon:Int):List (Nat×PB2):=[(3,⟨51,(0,0),0,zuPar,none⟩),zuB0 lat lon,(13,⟨97,(0,0),0,zuPar++[qB false,qI 1073741824]++rq 299 (qI 0)++zuVar++[qL (.ptr 20 0),qL (.ptr 21 0),qL (.slu 118 5),qL (.ptr 24 0),qL (.ptr 25 0),qL (.ptr 26 0),qL (.ptr 27 0),qL (.ptr 28 0),qL (.ptr 29 0),qL (.ptr 22 0),qI 0,qI 0,qB false,qB false,qL (.ptr 23 0),qB false,qI 5,qI 0,qI 0,qI (-421192430),qB false,qB false,qB false,qI 0,qI 40000,qI 0,qI 1073741824]++rq 9 (qI 0)++[qL .nilsl],none⟩),zuB2,(21,⟨207,(0,0),0,[qI 8000,qI 80000]++rq 7 (qI 0)++[qB true],none⟩),zuB4,zuB5,zuR 24 40000,zuR 25 40000,zuR 26 40000,zuR 27 40000,zuR 28 40000,zuR 29 40000,(30,⟨27,(0,0),0,[qL (.ptr 13 0),qI 80000,qI 5,qB false],none⟩),(118,⟨66,(0,0),8,[qI 48000,qI 8000,qI 0,qI 0,qI 0,qI 0,qI 0,qI (-84238486),qI 56000,qI 8000,qI 0,qI 0,qI 0,qI 0,qI 0,qI (-84238486),qI 64000,qI 8000,qI 0,qI 0,qI 0,qI 0,qI 0,qI (-84238486),qI 72000,qI 8000,qI 0,qI 0,qI 0,qI 0,qI 0,qI (-84238486),qI 80000,qI 8000,qI 0,qI 0,qI 0,qI 0,qI 0,qI (-84238486)],none⟩)]
def zuM12 (lat lon:Int):List (Nat×PB2):=[(3,⟨51,(0,0),0,zuPar,none⟩),zuB0 lat lon,(13,⟨97,(0,0),0,zuPar++[qB false,qI 1073741824]++rq 299 (qI 0)++zuVar++[qL (.ptr 20 0),qL (.ptr 21 0),qL (.slu 130 5),qL (.ptr 24 0),qL (.ptr 25 0),qL (.ptr 26 0),qL (.ptr 27 0),qL (.ptr 28 0),qL (.ptr 29 0),qL (.ptr 22 0),qI 0,qI 0,qB false,qB false,qL (.ptr 23 0),qB false,qI 6,qI 0,qI 0,qI (-505430916),qB false,qB false,qB false,qI 0,qI 48000,qI 0,qI 1073741824]++rq 9 (qI 0)++[qL .nilsl],none⟩),zuB2,(21,⟨207,(0,0),0,[qI 8000,qI 88000]++rq 7 (qI 0)++[qB true],none⟩),zuB4,zuB5,zuR 24 48000,zuR 25 48000,zuR 26 48000,zuR 27 48000,zuR 28 48000,zuR 29 48000,(30,⟨27,(0,0),0,[qL (.ptr 13 0),qI 88000,qI 6,qB false],none⟩),(130,⟨66,(0,0),8,[qI 56000,qI 8000,qI 0,qI 0,qI 0,qI 0,qI 0,qI (-84238486),qI 64000,qI 8000,qI 0,qI 0,qI 0,qI 0,qI 0,qI (-84238486),qI 72000,qI 8000,qI 0,qI 0,qI 0,qI 0,qI 0,qI (-84238486),qI 80000,qI 8000,qI 0,qI 0,qI 0,qI 0,qI 0,qI (-84238486),qI 88000,qI 8000,qI 0,qI 0,qI 0,qI 0,qI 0,qI (-84238486)],none⟩)]
def zuM13 (lat lon:Int):List (Nat×PB2):=[(3,⟨51,(0,0),0,zuPar,none⟩),zuB0 lat lon,(13,⟨97,(0,0),0,zuPar++[qB false,qI 1073741824]++rq 299 (qI 0)++zuVar++[qL (.ptr 20 0),qL (.ptr 21 0),qL (.slu 142 5),qL (.ptr 24 0),qL (.ptr 25 0),qL (.ptr 26 0),qL (.ptr 27 0),qL (.ptr 28 0),qL (.ptr 29 0),qL (.ptr 22 0),qI 0,qI 0,qB false,qB false,qL (.ptr 23 0),qB false,qI 7,qI 0,qI 0,qI (-589669402),qB false,qB false,qB false,qI 0,qI 56000,qI 0,qI 1073741824]++rq 9 (qI 0)++[qL .nilsl],none⟩),zuB2,(21,⟨207,(0,0),0,[qI 8000,qI 96000]++rq 7 (qI 0)++[qB true],none⟩),zuB4,zuB5,zuR 24 56000,zuR 25 56000,zuR 26 56000,zuR 27 56000,zuR 28 56000,zuR 29 56000,(30,⟨27,(0,0),0,[qL (.ptr 13 0),qI 96000,qI 7,qB false],none⟩),(142,⟨66,(0,0),8,[qI 64000,qI 8000,qI 0,qI 0,qI 0,qI 0,qI 0,qI (-84238486),qI 72000,qI 8000,qI 0,qI 0,qI 0,qI 0,qI 0,qI (-84238486),qI 80000,qI 8000,qI 0,qI 0,qI 0,qI 0,qI 0,qI (-84238486),qI 88000,qI 8000,qI 0,qI 0,qI 0,qI 0,qI 0,qI (-84238486),qI 96000,qI 8000,qI 0,qI 0,qI 0,qI 0,qI 0,qI (-84238486)],none⟩)]
def zuM14 (lat lon:Int):List (Nat×PB2):=[(3,⟨51,(0,0),0,zuPar,none⟩),zuB0 lat lon,(13,⟨97,(0,0),0,zuPar++[qB false,qI 1073741824]++rq 299 (qI 0)++zuVar++[qL (.ptr 20 0),qL (.ptr 21 0),qL (.slu 154 5),qL (.ptr 24 0),qL (.ptr 25 0),qL (.ptr 26 0),qL (.ptr 27 0),qL (.ptr 28 0),qL (.ptr 29 0),qL (.ptr 22 0),qI 0,qI 0,qB false,qB false,qL (.ptr 23 0),qB false,qI 8,qI 0,qI 0,qI (-673907888),qB false,qB false,qB false,qI 0,qI 64000,qI 0,qI 1073741824]++rq 9 (qI 0)++[qL .nilsl],none⟩),zuB2,(21,⟨207,(0,0),0,[qI 8000,qI 104000]++rq 7 (qI 0)++[qB true],none⟩),zuB4,zuB5,zuR 24 64000,zuR 25 64000,zuR 26 64000,zuR 27 64000,zuR 28 64000,zuR 29 64000,(30,⟨27,(0,0),0,[qL (.ptr 13 0),qI 104000,qI 8,qB false],none⟩),(154,⟨66,(0,0),8,[qI 72000,qI 8000,qI 0,qI 0,qI 0,qI 0,qI 0,qI (-84238486),qI 80000,qI 8000,qI 0,qI 0,qI 0,qI 0,qI 0,qI (-84238486),qI 88000,qI 8000,qI 0,qI 0,qI 0,qI 0,qI 0,qI (-84238486),qI 96000,qI 8000,qI 0,qI 0,qI 0,qI 0,qI 0,qI (-84238486),qI 104000,qI 8000,qI 0,qI 0,qI 0,qI 0,qI 0,qI (-84238486)],none⟩)]
def zuM15 (lat lon:Int):List (Nat×PB2):=[(3,⟨51,(0,0),0,zuPar,none⟩),zuB0 lat lon,(13,⟨97,(0,0),0,zuPar++[qB false,qI 1073741824]++rq 299 (qI 0)++zuVar++[qL (.ptr 20 0),qL (.ptr 21 0),qL (.slu 166 5),qL (.ptr 24 0),qL (.ptr 25 0),qL (.ptr 26 0),qL (.ptr 27 0),qL (.ptr 28 0),qL (.ptr 29 0),qL (.ptr 22 0),qI 0,qI 0,qB false,qB false,qL (.ptr 23 0),qB false,qI 9,qI 0,qI 0,qI (-758146374),qB false,qB false,qB false,qI 0,qI 72000,qI 0,qI 1073741824]++rq 9 (qI 0)++[qL .nilsl],none⟩),zuB2,(21,⟨207,(0,0),0,[qI 8000,qI 112000]++rq 7 (qI 0)++[qB true],none⟩),zuB4,zuB5,zuR 24 72000,zuR 25 72000,zuR 26 72000,zuR 27 72000,zuR 28 72000,zuR 29 72000,(30,⟨27,(0,0),0,[qL (.ptr 13 0),qI 112000,qI 9,qB false],none⟩),(166,⟨66,(0,0),8,[qI 80000,qI 8000,qI 0,qI 0,qI 0,qI 0,qI 0,qI (-84238486),qI 88000,qI 8000,qI 0,qI 0,qI 0,qI 0,qI 0,qI (-84238486),qI 96000,qI 8000,qI 0,qI 0,qI 0,qI 0,qI 0,qI (-84238486),qI 104000,qI 8000,qI 0,qI 0,qI 0,qI 0,qI 0,qI (-84238486),qI 112000,qI 8000,qI 0,qI 0,qI 0,qI 0,qI 0,qI (-84238486)],none⟩)]
def zuM16 (lat lon:Int):List (Nat×PB2):=[(3,⟨51,(0,0),0,zuPar,none⟩),zuB0 lat lon,(13,⟨97,(0,0),0,zuPar++[qO,qI 1073741824]++rq 23 (qI 0)++rq 300 (qH)++[qL (.ptr 20 0),qL (.ptr 21 0),qL (.slu 212 5),qL (.ptr 24 0),qL (.ptr 25 0),qL (.ptr 26 0),qL (.ptr 27 0),qL (.ptr 28 0),qL (.ptr 29 0),qL (.ptr 22 0),qI 1,qI 0,qB false,qB false,qL (.ptr 23 0),qB true,qI 10,qI 0,qI 0,qI (-842384860),qB true,qB false,qB false,qI 0,qI 80000,qI 0,qI 1073741824]++rq 9 (qI 0)++[qL .nilsl],none⟩),zuB2,(21,⟨207,(0,0),0,[qI 8000,qI 120000]++rq 7 (qI 0)++[qB true],none⟩),zuB4,(23,⟨210,(0,0),0,[qI 32,qI 268435456,qL (.slu 179 6)],none⟩),zuR 24 80000,zuR 25 80000,zuR 26 80000,zuR 27 80000,zuR 28 80000,zuR 29 80000,(30,⟨27,(0,0),0,[qL (.ptr 13 0),qI 120000,qI 10,qB false],none⟩),(179,⟨79,(0,0),11,zuO [80000,88000,96000,104000,112000,120000],none⟩),(212,⟨66,(0,0),8,[qI 88000,qI 8000,qI 0,qI 0,qI 0,qI 0,qI 0,qI (-84238486),qI 96000,qI 8000,qI 0,qI 0,qI 0,qI 0,qI 0,qI (-84238486),qI 104000,qI 8000,qI 0,qI 0,qI 0,qI 0,qI 0,qI (-84238486),qI 112000,qI 8000,qI 0,qI 0,qI 0,qI 0,qI 0,qI (-84238486),qI 120000,qI 8000,qI 0,qI 0,qI 0,qI 0,qI 0,qI (-84238486)],none⟩)]
def zuM17 (lat lon:Int):List (Nat×PB2):=[(3,⟨51,(0,0),0,zuPar,none⟩),zuB0 lat lon,zuB13,zuB2,zuB14,zuB4,zuB15,zuR 24 88000,zuR 25 88000,zuR 26 88000,zuR 27 88000,zuR 28 88000,zuR 29 88000,zuB16,zuB17,zuB18]
def zuM18 (lat lon:Int):List (Nat×PB2):=[(3,⟨51,(0,0),0,zuPar,none⟩),zuB0 lat lon,zuB13,zuB2,zuB14,zuB4,zuB15,zuR 24 88000,zuR 25 88000,zuR 26 88000,zuR 27 88000,zuR 28 88000,zuR 29 88000,zuB16,zuB17,zuB18,(235,⟨61,(0,0),0,[qB false],none⟩)]
def zuM19 (lat lon:Int):List (Nat×PB2):=[zuB0 lat lon,zuB13,zuB2,zuB14,zuB4,zuB15,zuR 24 88000,zuR 25 88000,zuR 26 88000,zuR 27 88000,zuR 28 88000,zuR 29 88000,zuB16,zuB17,zuB18,(235,⟨61,(0,0),0,[qB false],none⟩),(244,⟨37,(0,0),0,[qI 267413978,qI (-23395692),qI 0],none⟩)]
def zuM20 (lat lon:Int):List (Nat×PB2):=[zuB0 lat lon,zuB13,zuB2,zuB14,zuB4,zuB15,zuR 24 88000,zuR 25 88000,zuR 26 88000,zuR 27 88000,zuR 28 88000,zuR 29 88000,zuB16,zuB17,zuB18,(245,⟨29,(0,0),0,[qI 249049,qI (-21789),qI 300000,qI 1000,qI 0,qI 0,qI 0,qI 0],none⟩)]
def zuM21 (lat lon:Int):List (Nat×PB2):=[zuB0 lat lon,zuB13,zuB2,zuB14,zuB4,zuB15,zuR 24 88000,zuR 25 88000,zuR 26 88000,zuB19,zuR 28 88000,zuR 29 88000,zuB16,zuB17,zuB18,zuB20]
def zuM22 (lat lon:Int):List (Nat×PB2):=[zuB0 lat lon,(13,⟨97,(0,0),0,zuPar++[qO,qI 1073741824]++rq 23 (qI 0)++rq 300 (qH)++[qL (.ptr 20 0),qL (.ptr 21 0),qL (.slu 259 5),qL (.ptr 24 0),qL (.ptr 25 0),qL (.ptr 26 0),qL (.ptr 27 0),qL (.ptr 28 0),qL (.ptr 29 0),qL (.ptr 22 0),qI 1,qI 0,qB false,qB false,qL (.ptr 23 0),qB true,qI 10,qI 0,qI 0,qI (-842384860),qB true,qB false,qB false,qI 0,qI 96000,qI 0,qI 1073741824]++rq 9 (qI 0)++[qL .nilsl],none⟩),zuB2,(21,⟨207,(0,0),0,[qI 8000,qI 136000]++rq 7 (qI 0)++[qB true],none⟩),zuB4,(23,⟨210,(0,0),0,[qI 32,qI 268435456,qL (.slu 266 8)],none⟩),zuR 24 96000,zuR 25 96000,zuR 26 96000,(27,⟨171,(0,0),0,[qI 1,qI 0,qI 0,qI 0,qI 0,qI 16,qL (.slu 249 1),qI 96000],none⟩),zuR 28 96000,zuR 29 96000,(30,⟨27,(0,0),0,[qL (.ptr 13 0),qI 136000,qI 12,qB false],none⟩),zuB20,(259,⟨66,(0,0),8,[qI 104000,qI 8000,qI 0,qI 0,qI 0,qI 0,qI 0,qI (-84238486),qI 112000,qI 8000,qI 0,qI 0,qI 0,qI 0,qI 0,qI (-84238486),qI 120000,qI 8000,qI 0,qI 0,qI 0,qI 0,qI 0,qI (-84238486),qI 128000,qI 8000,qI 0,qI 0,qI 0,qI 0,qI 0,qI (-84238486),qI 136000,qI 8000,qI 0,qI 0,qI 0,qI 0,qI 0,qI (-84238486)],none⟩),(266,⟨79,(0,0),11,zuO [80000,88000,96000,104000,112000,120000,128000,136000],none⟩)]
def zuM23 (lat lon:Int):List (Nat×PB2):=[zuB0 lat lon,(13,⟨97,(0,0),0,zuPar++[qO,qI 1073741824]++rq 23 (qI 0)++rq 300 (qH)++[qL (.ptr 20 0),qL (.ptr 21 0),qL (.slu 275 5),qL (.ptr 24 0),qL (.ptr 25 0),qL (.ptr 26 0),qL (.ptr 27 0),qL (.ptr 28 0),qL (.ptr 29 0),qL (.ptr 22 0),qI 1,qI 0,qB false,qB false,qL (.ptr 23 0),qB true,qI 10,qI 0,qI 0,qI (-842384860),qB true,qB false,qB false,qI 0,qI 104000,qI 0,qI 1073741824]++rq 9 (qI 0)++[qL .nilsl],none⟩),zuB2,(21,⟨207,(0,0),0,[qI 8000,qI 144000]++rq 7 (qI 0)++[qB true],none⟩),zuB4,(23,⟨210,(0,0),0,[qI 32,qI 268435456,qL (.slu 282 9)],none⟩),zuR 24 104000,zuR 25 104000,zuR 26 104000,(27,⟨171,(0,0),0,[qI 1,qI 0,qI 0,qI 0,qI 0,qI 16,qL (.slu 249 1),qI 104000],none⟩),zuR 28 104000,zuR 29 104000,(30,⟨27,(0,0),0,[qL (.ptr 13 0),qI 144000,qI 13,qB false],none⟩),zuB20,(275,⟨66,(0,0),8,[qI 112000,qI 8000,qI 0,qI 0,qI 0,qI 0,qI 0,qI (-84238486),qI 120000,qI 8000,qI 0,qI 0,qI 0,qI 0,qI 0,qI (-84238486),qI 128000,qI 8000,qI 0,qI 0,qI 0,qI 0,qI 0,qI (-84238486),qI 136000,qI 8000,qI 0,qI 0,qI 0,qI 0,qI 0,qI (-84238486),qI 144000,qI 8000,qI 0,qI 0,qI 0,qI 0,qI 0,qI (-84238486)],none⟩),(282,⟨79,(0,0),11,zuO [80000,88000,96000,104000,112000,120000,128000,136000,144000],none⟩)]
def zuM24 (lat lon:Int):List (Nat×PB2):=[zuB0 lat lon,(13,⟨97,(0,0),0,zuPar++[qO,qI 1073741824]++rq 23 (qI 0)++rq 300 (qH)++[qL (.ptr 20 0),qL (.ptr 21 0),qL (.slu 291 5),qL (.ptr 24 0),qL (.ptr 25 0),qL (.ptr 26 0),qL (.ptr 27 0),qL (.ptr 28 0),qL (.ptr 29 0),qL (.ptr 22 0),qI 1,qI 0,qB false,qB false,qL (.ptr 23 0),qB true,qI 10,qI 0,qI 0,qI (-842384860),qB true,qB false,qB false,qI 0,qI 112000,qI 0,qI 1073741824]++rq 9 (qI 0)++[qL .nilsl],none⟩),zuB2,(21,⟨207,(0,0),0,[qI 8000,qI 152000]++rq 7 (qI 0)++[qB true],none⟩),zuB4,(23,⟨210,(0,0),0,[qI 32,qI 268435456,qL (.slu 298 10)],none⟩),zuR 24 112000,zuR 25 112000,zuR 26 112000,(27,⟨171,(0,0),0,[qI 1,qI 0,qI 0,qI 0,qI 0,qI 16,qL (.slu 249 1),qI 112000],none⟩),zuR 28 112000,zuR 29 112000,(30,⟨27,(0,0),0,[qL (.ptr 13 0),qI 152000,qI 14,qB false],none⟩),zuB20,(291,⟨66,(0,0),8,[qI 120000,qI 8000,qI 0,qI 0,qI 0,qI 0,qI 0,qI (-84238486),qI 128000,qI 8000,qI 0,qI 0,qI 0,qI 0,qI 0,qI (-84238486),qI 136000,qI 8000,qI 0,qI 0,qI 0,qI 0,qI 0,qI (-84238486),qI 144000,qI 8000,qI 0,qI 0,qI 0,qI 0,qI 0,qI (-84238486),qI 152000,qI 8000,qI 0,qI 0,qI 0,qI 0,qI 0,qI (-84238486)],none⟩),(298,⟨79,(0,0),11,zuO [80000,88000,96000,104000,112000,120000,128000,136000,144000,152000],none⟩)]
def zuM25 (lat lon:Int):List (Nat×PB2):=[zuB0 lat lon,(13,⟨97,(0,0),0,zuPar++[qO,qI 1073741824]++rq 23 (qI 0)++rq 300 (qH)++[qL (.ptr 20 0),qL (.ptr 21 0),qL (.slu 307 5),qL (.ptr 24 0),qL (.ptr 25 0),qL (.ptr 26 0),qL (.ptr 27 0),qL (.ptr 28 0),qL (.ptr 29 0),qL (.ptr 22 0),qI 1,qI 0,qB false,qB false,qL (.ptr 23 0),qB true,qI 10,qI 0,qI 0,qI (-842384860),qB true,qB false,qB false,qI 0,qI 120000,qI 0,qI 1073741824]++rq 9 (qI 0)++[qL .nilsl],none⟩),zuB2,(21,⟨207,(0,0),0,[qI 8000,qI 160000]++rq 7 (qI 0)++[qB true],none⟩),zuB4,(23,⟨210,(0,0),0,[qI 32,qI 268435456,qL (.slu 314 11)],none⟩),zuR 24 120000,zuR 25 120000,zuR 26 120000,(27,⟨171,(0,0),0,[qI 1,qI 0,qI 0,qI 0,qI 0,qI 16,qL (.slu 249 1),qI 120000],none⟩),zuR 28 120000,zuR 29 120000,(30,⟨27,(0,0),0,[qL (.ptr 13 0),qI 160000,qI 15,qB false],none⟩),zuB20,(307,⟨66,(0,0),8,[qI 128000,qI 8000,qI 0,qI 0,qI 0,qI 0,qI 0,qI (-84238486),qI 136000,qI 8000,qI 0,qI 0,qI 0,qI 0,qI 0,qI (-84238486),qI 144000,qI 8000,qI 0,qI 0,qI 0,qI 0,qI 0,qI (-84238486),qI 152000,qI 8000,qI 0,qI 0,qI 0,qI 0,qI 0,qI (-84238486),qI 160000,qI 8000,qI 0,qI 0,qI 0,qI 0,qI 0,qI (-84238486)],none⟩),(314,⟨79,(0,0),11,zuO [80000,88000,96000,104000,112000,120000,128000,136000,144000,152000,160000],none⟩)]
def zuM26 (lat lon:Int):List (Nat×PB2):=[zuB0 lat lon,(13,⟨97,(0,0),0,zuPar++[qO,qI 1073741824]++rq 23 (qI 0)++rq 300 (qH)++[qL (.ptr 20 0),qL (.ptr 21 0),qL (.slu 323 5),qL (.ptr 24 0),qL (.ptr 25 0),qL (.ptr 26 0),qL (.ptr 27 0),qL (.ptr 28 0),qL (.ptr 29 0),qL (.ptr 22 0),qI 1,qI 0,qB false,qB false,qL (.ptr 23 0),qB true,qI 10,qI 0,qI 0,qI (-842384860),qB true,qB false,qB false,qI 0,qI 128000,qI 0,qI 1073741824]++rq 9 (qI 0)++[qL .nilsl],none⟩),zuB2,(21,⟨207,(0,0),0,[qI 8000,qI 168000]++rq 7 (qI 0)++[qB true],none⟩),zuB4,(23,⟨210,(0,0),0,[qI 32,qI 268435456,qL (.slu 330 12)],none⟩),zuR 24 128000,zuR 25 128000,zuR 26 128000,(27,⟨171,(0,0),0,[qI 1,qI 0,qI 0,qI 0,qI 0,qI 16,qL (.slu 249 1),qI 128000],none⟩),zuR 28 128000,zuR 29 128000,(30,⟨27,(0,0),0,[qL (.ptr 13 0),qI 168000,qI 16,qB false],none⟩),zuB20,(323,⟨66,(0,0),8,[qI 136000,qI 8000,qI 0,qI 0,qI 0,qI 0,qI 0,qI (-84238486),qI 144000,qI 8000,qI 0,qI 0,qI 0,qI 0,qI 0,qI (-84238486),qI 152000,qI 8000,qI 0,qI 0,qI 0,qI 0,qI 0,qI (-84238486),qI 160000,qI 8000,qI 0,qI 0,qI 0,qI 0,qI 0,qI (-84238486),qI 168000,qI 8000,qI 0,qI 0,qI 0,qI 0,qI 0,qI (-84238486)],none⟩),(330,⟨79,(0,0),11,zuO [80000,88000,96000,104000,112000,120000,128000,136000,144000,152000,160000,168000],none⟩)]
def zuM27 (lat lon:Int):List (Nat×PB2):=[zuB0 lat lon,(13,⟨97,(0,0),0,zuPar++[qO,qI 1073741824,qI 0,qI 0,qI 77]++rq 12 (qI 0)++[qI 267414331,qI (-23395723),qI 322122547,qI 0,qI 0,qI 0,qI 0,qI 0]++rq 300 (qH)++[qL (.ptr 20 0),qL (.ptr 21 0),qL (.slu 427 5),qL (.ptr 24 0),qL (.ptr 25 0),qL (.ptr 26 0),qL (.ptr 27 0),qL (.ptr 28 0),qL (.ptr 29 0),qL (.ptr 22 0),qI 2,qI 1,qB false,qB true,qL (.ptr 23 0),qB true,qI 10,qI 0,qI 0,qI (-842384860),qB true,qB true,qB false,qI 0,qI 136000,qI 1,qI 1073741824,qI 0,qI 0,qI 77,qI 0,qI 0,qI 0,qI 0,qI 0,qI 0,qL (.slu 387 1)],none⟩),zuB2,(21,⟨207,(0,0),0,[qI 8000,qI 176000]++rq 7 (qI 0)++[qB true],none⟩),zuB21,(23,⟨210,(0,0),0,[qI 32,qI 268435456,qL (.slu 434 13)],none⟩),zuR 24 136000,zuR 25 136000,zuR 26 136000,(27,⟨171,(0,0),0,[qI 1,qI 0,qI 0,qI 0,qI 1,qI 16,qL (.slu 249 0),qI 136000],none⟩),zuR 28 136000,zuR 29 136000,(30,⟨27,(0,0),0,[qL (.ptr 13 0),qI 176000,qI 17,qB false],none⟩),zuB22,(387,⟨39,(0,0),10,[qI 1073741824,qI 0,qI 0,qI 77,qI 0,qI 0,qI 0,qI 0,qI 0,qI 0],none⟩),(427,⟨66,(0,0),8,[qI 144000,qI 8000,qI 0,qI 0,qI 0,qI 0,qI 0,qI (-84238486),qI 152000,qI 8000,qI 0,qI 0,qI 0,qI 0,qI 0,qI (-84238486),qI 160000,qI 8000,qI 0,qI 0,qI 0,qI 0,qI 0,qI (-84238486),qI 168000,qI 8000,qI 0,qI 0,qI 0,qI 0,qI 0,qI (-84238486),qI 176000,qI 8000,qI 0,qI 0,qI 0,qI 0,qI 0,qI (-84238486)],none⟩),(434,⟨79,(0,0),11,zuO [80000,88000,96000,104000,112000,120000,128000,136000,144000,152000,160000,168000,176000],none⟩)]
def zuM28 (lat lon:Int):List (Nat×PB2):=[zuB0 lat lon,zuB23,zuB2,zuB24,zuB21,zuB25,zuR 24 144000,zuR 25 144000,zuR 26 144000,zuB26,zuR 28 144000,zuR 29 144000,zuB27,zuB22,zuB28,zuB29]
def zuM29 (lat lon:Int):List (Nat×PB2):=[zuB23,zuB2,zuB24,zuB21,zuB25,zuB30,zuR 25 144000,zuR 26 144000,zuB26,zuR 28 144000,zuR 29 144000,zuB27,zuB22,zuB28,zuB29,zuB31 lat lon]
def zuM30 (lat lon:Int):List (Nat×PB2):=[(13,⟨97,(0,0),0,zuPar++[qO,qI 1073741824,qI 0,qI 0,qI 77]++rq 12 (qI 0)++[qI 267414331,qI (-23395723),qI 322122547,qI 0,qI 0,qI 0,qI 0,qI 0]++rq 300 (qH)++[qL (.ptr 20 0),qL (.ptr 21 0),qL (.slu 470 5),qL (.ptr 24 0),qL (.ptr 25 0),qL (.ptr 26 0),qL (.ptr 27 0),qL (.ptr 28 0),qL (.ptr 29 0),qL (.ptr 22 0),qI 2,qI 1,qB false,qB true,qL (.ptr 23 0),qB true,qI 10,qI 0,qI 0,qI (-842384860),qB true,qB true,qB false,qI 0,qI 152000,qI 1,qI 1073741824,qI 0,qI 0,qI 77,qI 0,qI 0,qI 0,qI 0,qI 0,qI 0,qL .nilsl],none⟩),zuB2,(21,⟨207,(0,0),0,[qI 8000,qI 192000]++rq 7 (qI 0)++[qB true],none⟩),zuB21,(23,⟨210,(0,0),0,[qI 32,qI 268435456,qL (.slu 477 15)],none⟩),(24,⟨171,(0,0),0,[qI 1,qI 0,qI 0,qI 0,qI 0,qI 16,qL (.slu 459 1),qI 152000],none⟩),zuR 25 152000,zuR 26 152000,(27,⟨171,(0,0),0,[qI 1,qI 0,qI 0,qI 0,qI 1,qI 16,qL (.slu 249 0),qI 152000],none⟩),zuR 28 152000,zuR 29 152000,(30,⟨27,(0,0),0,[qL (.ptr 13 0),qI 192000,qI 19,qB false],none⟩),zuB22,zuB31 lat lon,(470,⟨66,(0,0),8,[qI 160000,qI 8000,qI 0,qI 0,qI 0,qI 0,qI 0,qI (-84238486),qI 168000,qI 8000,qI 0,qI 0,qI 0,qI 0,qI 0,qI (-84238486),qI 176000,qI 8000,qI 0,qI 0,qI 0,qI 0,qI 0,qI (-84238486),qI 184000,qI 8000,qI 0,qI 0,qI 0,qI 0,qI 0,qI (-84238486),qI 192000,qI 8000,qI 0,qI 0,qI 0,qI 0,qI 0,qI (-84238486)],none⟩),(477,⟨79,(0,0),11,zuO [80000,88000,96000,104000,112000,120000,128000,136000,144000,152000,160000,168000,176000,184000,192000],none⟩)]
def zuM31 (lat lon:Int):List (Nat×PB2):=[(13,⟨97,(0,0),0,zuPar++[qO,qI 1073741824,qI 0,qI 0,qI 77]++rq 12 (qI 0)++[qI 267414331,qI (-23395723),qI 322122547,qI 0,qI 0,qI 0,qI 0,qI 0]++rq 300 (qH)++[qL (.ptr 20 0),qL (.ptr 21 0),qL (.slu 487 5),qL (.ptr 24 0),qL (.ptr 25 0),qL (.ptr 26 0),qL (.ptr 27 0),qL (.ptr 28 0),qL (.ptr 29 0),qL (.ptr 22 0),qI 2,qI 1,qB false,qB true,qL (.ptr 23 0),qB true,qI 10,qI 0,qI 0,qI (-842384860),qB true,qB true,qB false,qI 0,qI 160000,qI 1,qI 1073741824,qI 0,qI 0,qI 77,qI 0,qI 0,qI 0,qI 0,qI 0,qI 0,qL .nilsl],none⟩),zuB2,(21,⟨207,(0,0),0,[qI 8000,qI 200000]++rq 7 (qI 0)++[qB true],none⟩),zuB21,(23,⟨210,(0,0),0,[qI 32,qI 268435456,qL (.slu 494 16)],none⟩),(24,⟨171,(0,0),0,[qI 1,qI 0,qI 0,qI 0,qI 0,qI 16,qL (.slu 459 1),qI 160000],none⟩),zuR 25 160000,zuR 26 160000,(27,⟨171,(0,0),0,[qI 1,qI 0,qI 0,qI 0,qI 1,qI 16,qL (.slu 249 0),qI 160000],none⟩),zuR 28 160000,zuR 29 160000,(30,⟨27,(0,0),0,[qL (.ptr 13 0),qI 200000,qI 20,qB false],none⟩),zuB22,zuB31 lat lon,(487,⟨66,(0,0),8,[qI 168000,qI 8000,qI 0,qI 0,qI 0,qI 0,qI 0,qI (-84238486),qI 176000,qI 8000,qI 0,qI 0,qI 0,qI 0,qI 0,qI (-84238486),qI 184000,qI 8000,qI 0,qI 0,qI 0,qI 0,qI 0,qI (-84238486),qI 192000,qI 8000,qI 0,qI 0,qI 0,qI 0,qI 0,qI (-84238486),qI 200000,qI 8000,qI 0,qI 0,qI 0,qI 0,qI 0,qI (-84238486)],none⟩),(494,⟨79,(0,0),11,zuO [80000,88000,96000,104000,112000,120000,128000,136000,144000,152000,160000,168000,176000,184000,192000,200000],none⟩)]
def zuM32 (lat lon:Int):List (Nat×PB2):=[(13,⟨97,(0,0),0,zuPar++[qO,qI 1073741824,qI 0,qI 0,qI 77]++rq 12 (qI 0)++[qI 267414331,qI (-23395723),qI 322122547,qI 0,qI 0,qI 0,qI 0,qI 0]++rq 300 (qH)++[qL (.ptr 20 0),qL (.ptr 21 0),qL (.slu 504 5),qL (.ptr 24 0),qL (.ptr 25 0),qL (.ptr 26 0),qL (.ptr 27 0),qL (.ptr 28 0),qL (.ptr 29 0),qL (.ptr 22 0),qI 2,qI 1,qB false,qB true,qL (.ptr 23 0),qB true,qI 10,qI 0,qI 0,qI (-842384860),qB true,qB true,qB false,qI 0,qI 168000,qI 1,qI 1073741824,qI 0,qI 0,qI 77,qI 0,qI 0,qI 0,qI 0,qI 0,qI 0,qL .nilsl],none⟩),zuB2,(21,⟨207,(0,0),0,[qI 8000,qI 208000]++rq 7 (qI 0)++[qB true],none⟩),zuB21,(23,⟨210,(0,0),0,[qI 32,qI 268435456,qL (.slu 511 17)],none⟩),(24,⟨171,(0,0),0,[qI 1,qI 0,qI 0,qI 0,qI 0,qI 16,qL (.slu 459 1),qI 168000],none⟩),zuR 25 168000,zuR 26 168000,(27,⟨171,(0,0),0,[qI 1,qI 0,qI 0,qI 0,qI 1,qI 16,qL (.slu 249 0),qI 168000],none⟩),zuR 28 168000,zuR 29 168000,(30,⟨27,(0,0),0,[qL (.ptr 13 0),qI 208000,qI 21,qB false],none⟩),zuB22,zuB31 lat lon,(504,⟨66,(0,0),8,[qI 176000,qI 8000,qI 0,qI 0,qI 0,qI 0,qI 0,qI (-84238486),qI 184000,qI 8000,qI 0,qI 0,qI 0,qI 0,qI 0,qI (-84238486),qI 192000,qI 8000,qI 0,qI 0,qI 0,qI 0,qI 0,qI (-84238486),qI 200000,qI 8000,qI 0,qI 0,qI 0,qI 0,qI 0,qI (-84238486),qI 208000,qI 8000,qI 0,qI 0,qI 0,qI 0,qI 0,qI (-84238486)],none⟩),(511,⟨79,(0,0),11,zuO [80000,88000,96000,104000,112000,120000,128000,136000,144000,152000,160000,168000,176000,184000,192000,200000,208000],none⟩)]
def zuM33 (lat lon:Int):List (Nat×PB2):=[(13,⟨97,(0,0),0,zuPar++[qO,qI 1073741824,qI 0,qI 0,qI 77]++rq 12 (qI 0)++[qI 267414331,qI (-23395723),qI 322122547,qI 0,qI 0,qI 0,qI 0,qI 0]++rq 300 (qH)++[qL (.ptr 20 0),qL (.ptr 21 0),qL (.slu 521 5),qL (.ptr 24 0),qL (.ptr 25 0),qL (.ptr 26 0),qL (.ptr 27 0),qL (.ptr 28 0),qL (.ptr 29 0),qL (.ptr 22 0),qI 2,qI 1,qB false,qB true,qL (.ptr 23 0),qB true,qI 10,qI 0,qI 0,qI (-842384860),qB true,qB true,qB false,qI 0,qI 176000,qI 1,qI 1073741824,qI 0,qI 0,qI 77,qI 0,qI 0,qI 0,qI 0,qI 0,qI 0,qL .nilsl],none⟩),zuB2,(21,⟨207,(0,0),0,[qI 8000,qI 216000]++rq 7 (qI 0)++[qB true],none⟩),zuB21,(23,⟨210,(0,0),0,[qI 32,qI 268435456,qL (.slu 528 18)],none⟩),(24,⟨171,(0,0),0,[qI 1,qI 0,qI 0,qI 0,qI 0,qI 16,qL (.slu 459 1),qI 176000],none⟩),zuR 25 176000,zuR 26 176000,(27,⟨171,(0,0),0,[qI 1,qI 0,qI 0,qI 0,qI 1,qI 16,qL (.slu 249 0),qI 176000],none⟩),zuR 28 176000,zuR 29 176000,(30,⟨27,(0,0),0,[qL (.ptr 13 0),qI 216000,qI 22,qB false],none⟩),zuB22,zuB31 lat lon,(521,⟨66,(0,0),8,[qI 184000,qI 8000,qI 0,qI 0,qI 0,qI 0,qI 0,qI (-84238486),qI 192000,qI 8000,qI 0,qI 0,qI 0,qI 0,qI 0,qI (-84238486),qI 200000,qI 8000,qI 0,qI 0,qI 0,qI 0,qI 0,qI (-84238486),qI 208000,qI 8000,qI 0,qI 0,qI 0,qI 0,qI 0,qI (-84238486),qI 216000,qI 8000,qI 0,qI 0,qI 0,qI 0,qI 0,qI (-84238486)],none⟩),(528,⟨79,(0,0),11,zuO [80000,88000,96000,104000,112000,120000,128000,136000,144000,152000,160000,168000,176000,184000,192000,200000,208000,216000],none⟩)]
def zuM34 (lat lon:Int):List (Nat×PB2):=[(13,⟨97,(0,0),0,zuPar++[qO,qI 1073741824,qI 0,qI 0,qI 77]++rq 12 (qI 0)++[qI 267414331,qI (-23395723),qI 322122547,qI 0,qI 0,qI 0,qI 0,qI 0]++rq 300 (qH)++[qL (.ptr 20 0),qL (.ptr 21 0),qL (.slu 538 5),qL (.ptr 24 0),qL (.ptr 25 0),qL (.ptr 26 0),qL (.ptr 27 0),qL (.ptr 28 0),qL (.ptr 29 0),qL (.ptr 22 0),qI 2,qI 1,qB false,qB true,qL (.ptr 23 0),qB true,qI 10,qI 0,qI 0,qI (-842384860),qB true,qB true,qB false,qI 0,qI 184000,qI 1,qI 1073741824,qI 0,qI 0,qI 77,qI 0,qI 0,qI 0,qI 0,qI 0,qI 0,qL .nilsl],none⟩),zuB2,(21,⟨207,(0,0),0,[qI 8000,qI 224000]++rq 7 (qI 0)++[qB true],none⟩),zuB21,(23,⟨210,(0,0),0,[qI 32,qI 268435456,qL (.slu 545 19)],none⟩),(24,⟨171,(0,0),0,[qI 1,qI 0,qI 0,qI 0,qI 0,qI 16,qL (.slu 459 1),qI 184000],none⟩),zuR 25 184000,zuR 26 184000,(27,⟨171,(0,0),0,[qI 1,qI 0,qI 0,qI 0,qI 1,qI 16,qL (.slu 249 0),qI 184000],none⟩),zuR 28 184000,zuR 29 184000,(30,⟨27,(0,0),0,[qL (.ptr 13 0),qI 224000,qI 23,qB false],none⟩),zuB22,zuB31 lat lon,(538,⟨66,(0,0),8,[qI 192000,qI 8000,qI 0,qI 0,qI 0,qI 0,qI 0,qI (-84238486),qI 200000,qI 8000,qI 0,qI 0,qI 0,qI 0,qI 0,qI (-84238486),qI 208000,qI 8000,qI 0,qI 0,qI 0,qI 0,qI 0,qI (-84238486),qI 216000,qI 8000,qI 0,qI 0,qI 0,qI 0,qI 0,qI (-84238486),qI 224000,qI 8000,qI 0,qI 0,qI 0,qI 0,qI 0,qI (-84238486)],none⟩),(545,⟨79,(0,0),11,zuO [80000,88000,96000,104000,112000,120000,128000,136000,144000,152000,160000,168000,176000,184000,192000,200000,208000,216000,224000],none⟩)]
def zuM35 (lat lon:Int):List (Nat×PB2):=[(13,⟨97,(0,0),0,zuPar++[qO,qI 1073741824,qI 0,qI 0,qI 77,qI 0,qI 0,qI 0,qH,qH]++rq 7 (qI 0)++[qI 267414331,qI (-23395723),qI 322122547,qI 0,qI 0,qI 0,qI 0,qI 0]++rq 300 (qH)++[qL (.ptr 20 0),qL (.ptr 21 0),qL (.slu 673 5),qL (.ptr 24 0),qL (.ptr 25 0),qL (.ptr 26 0),qL (.ptr 27 0),qL (.ptr 28 0),qL (.ptr 29 0),qL (.ptr 22 0),qI 3,qI 2,qB true,qB false,qL (.ptr 23 0),qB true,qI 10,qI 0,qI 0,qI (-842384860),qB true,qB true,qB true,qI 192000,qI 192000,qI 3,qI 1073741824,qI 0,qI 0,qI 77,qI 0,qI 0,qI 0,qS (smN lat),qS (smE lon),qI 0,qL (.slu 615 2)],none⟩),zuB2,(21,⟨207,(0,0),0,[qI 8000,qI 232000]++rq 7 (qI 0)++[qB true],none⟩),zuB32,(23,⟨210,(0,0),0,[qI 32,qI 268435456,qL (.slu 680 20)],none⟩),(24,⟨171,(0,0),0,[qI 1,qI 0,qI 0,qI 0,qI 1,qI 16,qL (.slu 459 0),qI 192000],none⟩),zuR 25 192000,zuR 26 192000,(27,⟨171,(0,0),0,[qI 1,qI 0,qI 0,qI 0,qI 1,qI 16,qL (.slu 249 0),qI 192000],none⟩),zuR 28 192000,zuR 29 192000,(30,⟨27,(0,0),0,[qL (.ptr 13 0),qI 232000,qI 24,qB false],none⟩),zuB22,zuB33,(615,⟨39,(0,0),10,[qI 1073741824]++rq 9 (qI 0)++[qI 1073741824,qI 0,qI 0,qI 0,qI 0,qI 0,qI 0,qH,qH,qI 0],none⟩),(673,⟨66,(0,0),8,[qI 200000,qI 8000,qI 0,qI 0,qI 0,qI 0,qI 0,qI (-84238486),qI 208000,qI 8000,qI 0,qI 0,qI 0,qI 0,qI 0,qI (-84238486),qI 216000,qI 8000,qI 0,qI 0,qI 0,qI 0,qI 0,qI (-84238486),qI 224000,qI 8000,qI 0,qI 0,qI 0,qI 0,qI 0,qI (-84238486),qI 232000,qI 8000,qI 0,qI 0,qI 0,qI 0,qI 0,qI (-84238486)],none⟩),(680,⟨79,(0,0),11,zuO [80000,88000,96000,104000,112000,120000,128000,136000,144000,152000,160000,168000,176000,184000,192000,200000,208000,216000,224000,232000],none⟩)]
def zuM36 (lat lon:Int):List (Nat×PB2):=[zuB34 lat lon,zuB2,zuB35,zuB32,zuB36,zuB37,zuR 25 200000,zuR 26 200000,zuB38,zuR 28 200000,zuR 29 200000,zuB39,zuB22,zuB33,zuB40,zuB41]
def zuM37:List (Nat×PB2):=[(2,⟨51,(0,0),0,zuPar,none⟩)]
def zuM38 (lat lon:Int):List (Nat×PB2):=[zuB34 lat lon,zuB2,zuB35,zuB32,zuB36,zuB37,zuR 25 200000,zuR 26 200000,zuB38,zuR 28 200000,zuR 29 200000,zuB39,zuB22,zuB33,zuB40,zuB41,(2,⟨51,(0,0),0,zuPar,none⟩)]
def zuM39 (lat lon:Int):List (Nat×PB2):=[(2,⟨51,(0,0),0,zuPar,none⟩),zuB34 lat lon,zuB2,zuB35,zuB32,zuB36,zuB37,zuR 25 200000,zuR 26 200000,zuB38,zuR 28 200000,zuR 29 200000,zuB39,zuB22,zuB33,zuB40,zuB41]
def zuM40 (lat lon:Int):List (Nat×PB2):=[zuB34 lat lon,zuB2,zuB35,zuB32,zuB36,zuB37,zuR 25 200000,zuR 26 200000,zuB38,zuR 28 200000,zuR 29 200000,zuB39,zuB22,zuB33,zuB40,zuB41,zuB42]
def zuM41 (lat lon:Int):List (Nat×PB2):=[zuB34 lat lon,zuB2,zuB35,zuB32,zuB36,zuB37,zuR 25 200000,zuR 26 200000,zuB38,zuR 28 200000,zuR 29 200000,zuB39,zuB22,zuB33,zuB40,zuB41,zuB42,(708,⟨61,(0,0),0,[qB false],none⟩)]
def zuM42 (lat lon:Int):List (Nat×PB2):=[zuB34 lat lon,zuB2,zuB35,zuB32,zuB36,zuB37,zuR 25 200000,zuR 26 200000,zuB38,zuR 28 200000,zuR 29 200000,zuB39,zuB22,zuB33,zuB40,zuB41,(712,⟨37,(0,0),0,[qS (smN lat),qS (smE lon),qI 0],none⟩)]
theorem zu_a0 (s:Asg) {lat:Int} {lon:Int}:ToP Tryz.prog 108 (c1 ((bodyF Tryz.prog 14))) (filS2 s ⟨[(0,.agg (zuPar)),(1,.one (qI 0)),(2,.agg [qS lat,qS lon,qI 0,qI 0,qI 0,qI 0,qI 1000,qI 100])],[],3⟩) .normal (Fil2 ⟨[(1,.one (qI 0)),(3,.one (qL (.ptr 3 0))),(5,.one (qL (.ptr 4 0)))],zuM0 lat lon,5⟩):=
 ToP.run2 (z:=⟨false,false,false⟩) (n:=20000) (dec:=[]) (mask:=[]) (os:=[]) (es:=[.oi lat lat,.oi lon lon]) soundAT (fun dead=>by kernel_rfl) ae_nil (aob_cons rfl (aob_cons rfl aob_nil)) (fun s=>canB_ok (by kernel_rfl)) (by kernel_rfl)
theorem zu_a1 (s:Asg) {lat:Int} {lon:Int}:ToP Tryz.prog 108 (c1 (c2 ((bodyF Tryz.prog 14)))) (filS2 s ⟨[(1,.one (qI 0)),(3,.one (qL (.ptr 3 0))),(5,.one (qL (.ptr 4 0)))],zuM0 lat lon,5⟩) .normal (Fil2 ⟨[(1,.one (qI 0)),(3,.one (qL (.ptr 3 0))),(5,.one (qL (.ptr 4 0))),(7,.one (qL (.ptr 30 0)))],zuM1 lat lon,31⟩):=
 ToP.run2 (z:=⟨false,false,false⟩) (n:=20000) (dec:=[]) (mask:=[]) (os:=[]) (es:=[.oi lat lat,.oi lon lon]) soundAT (fun dead=>by kernel_rfl) ae_nil (aob_cons rfl (aob_cons rfl aob_nil)) (fun s=>canB_ok (by kernel_rfl)) (by kernel_rfl)
theorem zu_a2 (s:Asg) {lat:Int} {lon:Int}:ToP Tryz.prog 108 (c1 (c2 (c2 ((bodyF Tryz.prog 14))))) (filS2 s ⟨[(1,.one (qI 0)),(3,.one (qL (.ptr 3 0))),(5,.one (qL (.ptr 4 0))),(7,.one (qL (.ptr 30 0)))],zuM1 lat lon,31⟩) .normal (Fil2 ⟨[(1,.one (qI 0)),(3,.one (qL (.ptr 3 0))),(5,.one (qL (.ptr 4 0))),(7,.one (qL (.ptr 30 0)))],zuM1 lat lon,31⟩):=
 ToP.run2 (z:=⟨false,false,false⟩) (n:=20000) (dec:=[]) (mask:=[]) (os:=[]) (es:=[.oi lat lat,.oi lon lon]) soundAT (fun dead=>by kernel_rfl) ae_nil (aob_cons rfl (aob_cons rfl aob_nil)) (fun s=>canB_ok (by kernel_rfl)) (by kernel_rfl)
theorem zu_a3 (s:Asg) {lat:Int} {lon:Int}:ToP Tryz.prog 108 (c1 (c2 (c2 (c2 ((bodyF Tryz.prog 14)))))) (filS2 s ⟨[(1,.one (qI 0)),(3,.one (qL (.ptr 3 0))),(5,.one (qL (.ptr 4 0))),(7,.one (qL (.ptr 30 0)))],zuM1 lat lon,31⟩) .normal (Fil2 ⟨[(1,.one (qI 0)),(3,.one (qL (.ptr 3 0))),(5,.one (qL (.ptr 4 0))),(7,.one (qL (.ptr 30 0))),(8,.one (qI 5))],zuM1 lat lon,31⟩):=
 ToP.run2 (z:=⟨false,false,false⟩) (n:=20000) (dec:=[]) (mask:=[]) (os:=[]) (es:=[.oi lat lat,.oi lon lon]) soundAT (fun dead=>by kernel_rfl) ae_nil (aob_cons rfl (aob_cons rfl aob_nil)) (fun s=>canB_ok (by kernel_rfl)) (by kernel_rfl)
theorem zu_a4 (s:Asg) {lat:Int} {lon:Int}:ToP Tryz.prog 108 (c1 (c1 (c2 (c2 (c2 (c2 ((bodyF Tryz.prog 14)))))))) (filS2 s ⟨[(1,.one (qI 0)),(3,.one (qL (.ptr 3 0))),(5,.one (qL (.ptr 4 0))),(7,.one (qL (.ptr 30 0))),(8,.one (qI 5))],zuM1 lat lon,31⟩) .normal (Fil2 ⟨[(1,.one (qI 0)),(3,.one (qL (.ptr 3 0))),(5,.one (qL (.ptr 4 0))),(7,.one (qL (.ptr 30 0))),(8,.one (qI 5)),(9,.one (qI 0))],zuM1 lat lon,31⟩):=
 ToP.run2 (z:=⟨false,false,false⟩) (n:=20000) (dec:=[]) (mask:=[]) (os:=[]) (es:=[.oi lat lat,.oi lon lon]) soundAT (fun dead=>by kernel_rfl) ae_nil (aob_cons rfl (aob_cons rfl aob_nil)) (fun s=>canB_ok (by kernel_rfl)) (by kernel_rfl)
theorem zu_r1 (s:Asg) {lat:Int} {lon:Int}:ToP Tryz.prog 108 (c1 (c1 (c2 (c1 (c2 (c2 (c2 (c2 ((bodyF Tryz.prog 14)))))))))) (filS2 s ⟨[(1,.one (qI 0)),(3,.one (qL (.ptr 3 0))),(5,.one (qL (.ptr 4 0))),(7,.one (qL (.ptr 30 0))),(8,.one (qI 5)),(9,.one (qI 0))],zuM1 lat lon,31⟩) .normal (Fil2 ⟨[(1,.one (qI 0)),(3,.one (qL (.ptr 3 0))),(5,.one (qL (.ptr 4 0))),(7,.one (qL (.ptr 30 0))),(8,.one (qI 5)),(9,.one (qI 1))],zuM2 lat lon,38⟩):=
 ToP.run2 (z:=⟨false,false,false⟩) (n:=20000) (dec:=[]) (mask:=(mskC 3 [])) (os:=[]) (es:=[.oi lat lat,.oi lon lon]) soundAT (fun dead=>by kernel_rfl) ae_nil (aob_cons rfl (aob_cons rfl aob_nil)) (fun s=>canB_ok (by kernel_rfl)) (by kernel_rfl)
theorem zu_r2 (s:Asg) {lat:Int} {lon:Int}:ToP Tryz.prog 108 (c1 (c1 (c2 (c1 (c2 (c2 (c2 (c2 ((bodyF Tryz.prog 14)))))))))) (filS2 s ⟨[(1,.one (qI 0)),(3,.one (qL (.ptr 3 0))),(5,.one (qL (.ptr 4 0))),(7,.one (qL (.ptr 30 0))),(8,.one (qI 5)),(9,.one (qI 1))],zuM2 lat lon,38⟩) .normal (Fil2 ⟨[(1,.one (qI 0)),(3,.one (qL (.ptr 3 0))),(5,.one (qL (.ptr 4 0))),(7,.one (qL (.ptr 30 0))),(8,.one (qI 5)),(9,.one (qI 2))],zuM3 lat lon,45⟩):=
 ToP.run2 (z:=⟨false,false,false⟩) (n:=20000) (dec:=[]) (mask:=(mskC 3 [])) (os:=[]) (es:=[.oi lat lat,.oi lon lon]) soundAT (fun dead=>by kernel_rfl) ae_nil (aob_cons rfl (aob_cons rfl aob_nil)) (fun s=>canB_ok (by kernel_rfl)) (by kernel_rfl)
theorem zu_r3 (s:Asg) {lat:Int} {lon:Int}:ToP Tryz.prog 108 (c1 (c1 (c2 (c1 (c2 (c2 (c2 (c2 ((bodyF Tryz.prog 14)))))))))) (filS2 s ⟨[(1,.one (qI 0)),(3,.one (qL (.ptr 3 0))),(5,.one (qL (.ptr 4 0))),(7,.one (qL (.ptr 30 0))),(8,.one (qI 5)),(9,.one (qI 2))],zuM3 lat lon,45⟩) .normal (Fil2 ⟨[(1,.one (qI 0)),(3,.one (qL (.ptr 3 0))),(5,.one (qL (.ptr 4 0))),(7,.one (qL (.ptr 30 0))),(8,.one (qI 5)),(9,.one (qI 3))],zuM4 lat lon,52⟩):=
 ToP.run2 (z:=⟨false,false,false⟩) (n:=20000) (dec:=[]) (mask:=(mskC 3 [])) (os:=[]) (es:=[.oi lat lat,.oi lon lon]) soundAT (fun dead=>by kernel_rfl) ae_nil (aob_cons rfl (aob_cons rfl aob_nil)) (fun s=>canB_ok (by kernel_rfl)) (by kernel_rfl)
theorem zu_r4 (s:Asg) {lat:Int} {lon:Int}:ToP Tryz.prog 108 (c1 (c1 (c2 (c1 (c2 (c2 (c2 (c2 ((bodyF Tryz.prog 14)))))))))) (filS2 s ⟨[(1,.one (qI 0)),(3,.one (qL (.ptr 3 0))),(5,.one (qL (.ptr 4 0))),(7,.one (qL (.ptr 30 0))),(8,.one (qI 5)),(9,.one (qI 3))],zuM4 lat lon,52⟩) .normal (Fil2 ⟨[(1,.one (qI 0)),(3,.one (qL (.ptr 3 0))),(5,.one (qL (.ptr 4 0))),(7,.one (qL (.ptr 30 0))),(8,.one (qI 5)),(9,.one (qI 4))],zuM5 lat lon,59⟩):=
 ToP.run2 (z:=⟨false,false,false⟩) (n:=20000) (dec:=[]) (mask:=(mskC 3 [])) (os:=[]) (es:=[.oi lat lat,.oi lon lon]) soundAT (fun dead=>by kernel_rfl) ae_nil (aob_cons rfl (aob_cons rfl aob_nil)) (fun s=>canB_ok (by kernel_rfl)) (by kernel_rfl)
theorem zu_r5 (s:Asg) {lat:Int} {lon:Int}:ToP Tryz.prog 108 (c1 (c1 (c2 (c1 (c2 (c2 (c2 (c2 ((bodyF Tryz.prog 14)))))))))) (filS2 s ⟨[(1,.one (qI 0)),(3,.one (qL (.ptr 3 0))),(5,.one (qL (.ptr 4 0))),(7,.one (qL (.ptr 30 0))),(8,.one (qI 5)),(9,.one (qI 4))],zuM5 lat lon,59⟩) .normal (Fil2 ⟨[(1,.one (qI 0)),(3,.one (qL (.ptr 3 0))),(5,.one (qL (.ptr 4 0))),(7,.one (qL (.ptr 30 0))),(8,.one (qI 5)),(9,.one (qI 5))],zuM6 lat lon,66⟩):=
 ToP.run2 (z:=⟨false,false,false⟩) (n:=20000) (dec:=[]) (mask:=(mskC 3 [])) (os:=[]) (es:=[.oi lat lat,.oi lon lon]) soundAT (fun dead=>by kernel_rfl) ae_nil (aob_cons rfl (aob_cons rfl aob_nil)) (fun s=>canB_ok (by kernel_rfl)) (by kernel_rfl)
theorem zu_r6 (s:Asg) {lat:Int} {lon:Int}:ToP Tryz.prog 108 (c1 (c1 (c2 (c1 (c2 (c2 (c2 (c2 ((bodyF Tryz.prog 14)))))))))) (filS2 s ⟨[(1,.one (qI 0)),(3,.one (qL (.ptr 3 0))),(5,.one (qL (.ptr 4 0))),(7,.one (qL (.ptr 30 0))),(8,.one (qI 5)),(9,.one (qI 5))],zuM6 lat lon,66⟩) .normal (Fil2 ⟨[(1,.one (qI 0)),(3,.one (qL (.ptr 3 0))),(5,.one (qL (.ptr 4 0))),(7,.one (qL (.ptr 30 0))),(8,.one (qI 5)),(9,.one (qI 6))],zuM7 lat lon,78⟩):=
 ToP.run2 (z:=⟨false,false,false⟩) (n:=20000) (dec:=[]) (mask:=(mskC 3 [])) (os:=[]) (es:=[.oi lat lat,.oi lon lon]) soundAT (fun dead=>by kernel_rfl) ae_nil (aob_cons rfl (aob_cons rfl aob_nil)) (fun s=>canB_ok (by kernel_rfl)) (by kernel_rfl)
theorem zu_r7 (s:Asg) {lat:Int} {lon:Int}:ToP Tryz.prog 108 (c1 (c1 (c2 (c1 (c2 (c2 (c2 (c2 ((bodyF Tryz.prog 14)))))))))) (filS2 s ⟨[(1,.one (qI 0)),(3,.one (qL (.ptr 3 0))),(5,.one (qL (.ptr 4 0))),(7,.one (qL (.ptr 30 0))),(8,.one (qI 5)),(9,.one (qI 6))],zuM7 lat lon,78⟩) .normal (Fil2 ⟨[(1,.one (qI 0)),(3,.one (qL (.ptr 3 0))),(5,.one (qL (.ptr 4 0))),(7,.one (qL (.ptr 30 0))),(8,.one (qI 5)),(9,.one (qI 7))],zuM8 lat lon,90⟩):=
 ToP.run2 (z:=⟨false,false,false⟩) (n:=20000) (dec:=[]) (mask:=(mskC 3 [])) (os:=[]) (es:=[.oi lat lat,.oi lon lon]) soundAT (fun dead=>by kernel_rfl) ae_nil (aob_cons rfl (aob_cons rfl aob_nil)) (fun s=>canB_ok (by kernel_rfl)) (by kernel_rfl)
theorem zu_r8 (s:Asg) {lat:Int} {lon:Int}:ToP Tryz.prog 108 (c1 (c1 (c2 (c1 (c2 (c2 (c2 (c2 ((bodyF Tryz.prog 14)))))))))) (filS2 s ⟨[(1,.one (qI 0)),(3,.one (qL (.ptr 3 0))),(5,.one (qL (.ptr 4 0))),(7,.one (qL (.ptr 30 0))),(8,.one (qI 5)),(9,.one (qI 7))],zuM8 lat lon,90⟩) .normal (Fil2 ⟨[(1,.one (qI 0)),(3,.one (qL (.ptr 3 0))),(5,.one (qL (.ptr 4 0))),(7,.one (qL (.ptr 30 0))),(8,.one (qI 5)),(9,.one (qI 8))],zuM9 lat lon,102⟩):=
 ToP.run2 (z:=⟨false,false,false⟩) (n:=20000) (dec:=[]) (mask:=(mskC 3 [])) (os:=[]) (es:=[.oi lat lat,.oi lon lon]) soundAT (fun dead=>by kernel_rfl) ae_nil (aob_cons rfl (aob_cons rfl aob_nil)) (fun s=>canB_ok (by kernel_rfl)) (by kernel_rfl)
theorem zu_r9 (s:Asg) {lat:Int} {lon:Int}:ToP Tryz.prog 108 (c1 (c1 (c2 (c1 (c2 (c2 (c2 (c2 ((bodyF Tryz.prog 14)))))))))) (filS2 s ⟨[(1,.one (qI 0)),(3,.one (qL (.ptr 3 0))),(5,.one (qL (.ptr 4 0))),(7,.one (qL (.ptr 30 0))),(8,.one (qI 5)),(9,.one (qI 8))],zuM9 lat lon,102⟩) .normal (Fil2 ⟨[(1,.one (qI 0)),(3,.one (qL (.ptr 3 0))),(5,.one (qL (.ptr 4 0))),(7,.one (qL (.ptr 30 0))),(8,.one (qI 5)),(9,.one (qI 9))],zuM10 lat lon,114⟩):=
 ToP.run2 (z:=⟨false,false,false⟩) (n:=20000) (dec:=[]) (mask:=(mskC 3 [])) (os:=[]) (es:=[.oi lat lat,.oi lon lon]) soundAT (fun dead=>by kernel_rfl) ae_nil (aob_cons rfl (aob_cons rfl aob_nil)) (fun s=>canB_ok (by kernel_rfl)) (by kernel_rfl)
theorem zu_r10 (s:Asg) {lat:Int} {lon:Int}:ToP Tryz.prog 108 (c1 (c1 (c2 (c1 (c2 (c2 (c2 (c2 ((bodyF Tryz.prog 14)))))))))) (filS2 s ⟨[(1,.one (qI 0)),(3,.one (qL (.ptr 3 0))),(5,.one (qL (.ptr 4 0))),(7,.one (qL (.ptr 30 0))),(8,.one (qI 5)),(9,.one (qI 9))],zuM10 lat lon,114⟩) .normal (Fil2 ⟨[(1,.one (qI 0)),(3,.one (qL (.ptr 3 0))),(5,.one (qL (.ptr 4 0))),(7,.one (qL (.ptr 30 0))),(8,.one (qI 5)),(9,.one (qI 10))],zuM11 lat lon,126⟩):=
 ToP.run2 (z:=⟨false,false,false⟩) (n:=20000) (dec:=[]) (mask:=(mskC 3 [])) (os:=[]) (es:=[.oi lat lat,.oi lon lon]) soundAT (fun dead=>by kernel_rfl) ae_nil (aob_cons rfl (aob_cons rfl aob_nil)) (fun s=>canB_ok (by kernel_rfl)) (by kernel_rfl)
theorem zu_r11 (s:Asg) {lat:Int} {lon:Int}:ToP Tryz.prog 108 (c1 (c1 (c2 (c1 (c2 (c2 (c2 (c2 ((bodyF Tryz.prog 14)))))))))) (filS2 s ⟨[(1,.one (qI 0)),(3,.one (qL (.ptr 3 0))),(5,.one (qL (.ptr 4 0))),(7,.one (qL (.ptr 30 0))),(8,.one (qI 5)),(9,.one (qI 10))],zuM11 lat lon,126⟩) .normal (Fil2 ⟨[(1,.one (qI 0)),(3,.one (qL (.ptr 3 0))),(5,.one (qL (.ptr 4 0))),(7,.one (qL (.ptr 30 0))),(8,.one (qI 5)),(9,.one (qI 11))],zuM12 lat lon,138⟩):=
 ToP.run2 (z:=⟨false,false,false⟩) (n:=20000) (dec:=[]) (mask:=(mskC 3 [])) (os:=[]) (es:=[.oi lat lat,.oi lon lon]) soundAT (fun dead=>by kernel_rfl) ae_nil (aob_cons rfl (aob_cons rfl aob_nil)) (fun s=>canB_ok (by kernel_rfl)) (by kernel_rfl)
theorem zu_r12 (s:Asg) {lat:Int} {lon:Int}:ToP Tryz.prog 108 (c1 (c1 (c2 (c1 (c2 (c2 (c2 (c2 ((bodyF Tryz.prog 14)))))))))) (filS2 s ⟨[(1,.one (qI 0)),(3,.one (qL (.ptr 3 0))),(5,.one (qL (.ptr 4 0))),(7,.one (qL (.ptr 30 0))),(8,.one (qI 5)),(9,.one (qI 11))],zuM12 lat lon,138⟩) .normal (Fil2 ⟨[(1,.one (qI 0)),(3,.one (qL (.ptr 3 0))),(5,.one (qL (.ptr 4 0))),(7,.one (qL (.ptr 30 0))),(8,.one (qI 5)),(9,.one (qI 12))],zuM13 lat lon,150⟩):=
 ToP.run2 (z:=⟨false,false,false⟩) (n:=20000) (dec:=[]) (mask:=(mskC 3 [])) (os:=[]) (es:=[.oi lat lat,.oi lon lon]) soundAT (fun dead=>by kernel_rfl) ae_nil (aob_cons rfl (aob_cons rfl aob_nil)) (fun s=>canB_ok (by kernel_rfl)) (by kernel_rfl)
theorem zu_r13 (s:Asg) {lat:Int} {lon:Int}:ToP Tryz.prog 108 (c1 (c1 (c2 (c1 (c2 (c2 (c2 (c2 ((bodyF Tryz.prog 14)))))))))) (filS2 s ⟨[(1,.one (qI 0)),(3,.one (qL (.ptr 3 0))),(5,.one (qL (.ptr 4 0))),(7,.one (qL (.ptr 30 0))),(8,.one (qI 5)),(9,.one (qI 12))],zuM13 lat lon,150⟩) .normal (Fil2 ⟨[(1,.one (qI 0)),(3,.one (qL (.ptr 3 0))),(5,.one (qL (.ptr 4 0))),(7,.one (qL (.ptr 30 0))),(8,.one (qI 5)),(9,.one (qI 13))],zuM14 lat lon,162⟩):=
 ToP.run2 (z:=⟨false,false,false⟩) (n:=20000) (dec:=[]) (mask:=(mskC 3 [])) (os:=[]) (es:=[.oi lat lat,.oi lon lon]) soundAT (fun dead=>by kernel_rfl) ae_nil (aob_cons rfl (aob_cons rfl aob_nil)) (fun s=>canB_ok (by kernel_rfl)) (by kernel_rfl)
theorem zu_r14 (s:Asg) {lat:Int} {lon:Int}:ToP Tryz.prog 108 (c1 (c1 (c2 (c1 (c2 (c2 (c2 (c2 ((bodyF Tryz.prog 14)))))))))) (filS2 s ⟨[(1,.one (qI 0)),(3,.one (qL (.ptr 3 0))),(5,.one (qL (.ptr 4 0))),(7,.one (qL (.ptr 30 0))),(8,.one (qI 5)),(9,.one (qI 13))],zuM14 lat lon,162⟩) .normal (Fil2 ⟨[(1,.one (qI 0)),(3,.one (qL (.ptr 3 0))),(5,.one (qL (.ptr 4 0))),(7,.one (qL (.ptr 30 0))),(8,.one (qI 5)),(9,.one (qI 14))],zuM15 lat lon,174⟩):=
 ToP.run2 (z:=⟨false,false,false⟩) (n:=20000) (dec:=[]) (mask:=(mskC 3 [])) (os:=[]) (es:=[.oi lat lat,.oi lon lon]) soundAT (fun dead=>by kernel_rfl) ae_nil (aob_cons rfl (aob_cons rfl aob_nil)) (fun s=>canB_ok (by kernel_rfl)) (by kernel_rfl)
theorem zu_r15 (s:Asg) {lat:Int} {lon:Int}:ToP Tryz.prog 108 (c1 (c1 (c2 (c1 (c2 (c2 (c2 (c2 ((bodyF Tryz.prog 14)))))))))) (filS2 s ⟨[(1,.one (qI 0)),(3,.one (qL (.ptr 3 0))),(5,.one (qL (.ptr 4 0))),(7,.one (qL (.ptr 30 0))),(8,.one (qI 5)),(9,.one (qI 14))],zuM15 lat lon,174⟩) .normal (Fil2 ⟨[(1,.one (qI 0)),(3,.one (qL (.ptr 3 0))),(5,.one (qL (.ptr 4 0))),(7,.one (qL (.ptr 30 0))),(8,.one (qI 5)),(9,.one (qI 15))],zuM16 lat lon,220⟩):=
 ToP.run2 (z:=⟨false,false,false⟩) (n:=20000) (dec:=[]) (mask:=(mskC 14 [])) (os:=[]) (es:=[.oi lat lat,.oi lon lon]) soundAT (fun dead=>by kernel_rfl) ae_nil (aob_cons rfl (aob_cons rfl aob_nil)) (fun s=>canB_ok (by kernel_rfl)) (by kernel_rfl)
theorem zu_r16 (s:Asg) {lat:Int} {lon:Int}:ToP Tryz.prog 108 (c1 (c1 (c2 (c1 (c2 (c2 (c2 (c2 ((bodyF Tryz.prog 14)))))))))) (filS2 s ⟨[(1,.one (qI 0)),(3,.one (qL (.ptr 3 0))),(5,.one (qL (.ptr 4 0))),(7,.one (qL (.ptr 30 0))),(8,.one (qI 5)),(9,.one (qI 15))],zuM16 lat lon,220⟩) .normal (Fil2 ⟨[(1,.one (qI 0)),(3,.one (qL (.ptr 3 0))),(5,.one (qL (.ptr 4 0))),(7,.one (qL (.ptr 30 0))),(8,.one (qI 5)),(9,.one (qI 16))],zuM17 lat lon,235⟩):=
 ToP.run2 (z:=⟨false,false,false⟩) (n:=20000) (dec:=[]) (mask:=(mskC 11 [])) (os:=[]) (es:=[.oi lat lat,.oi lon lon]) soundAT (fun dead=>by kernel_rfl) ae_nil (aob_cons rfl (aob_cons rfl aob_nil)) (fun s=>canB_ok (by kernel_rfl)) (by kernel_rfl)
theorem zu_a4e (s:Asg) {lat:Int} {lon:Int}:ToP Tryz.prog 108 (c1 (c1 (c2 (c1 (c2 (c2 (c2 (c2 ((bodyF Tryz.prog 14)))))))))) (filS2 s ⟨[(1,.one (qI 0)),(3,.one (qL (.ptr 3 0))),(5,.one (qL (.ptr 4 0))),(7,.one (qL (.ptr 30 0))),(8,.one (qI 5)),(9,.one (qI 16))],zuM17 lat lon,235⟩) (.exit 0) (Fil2 ⟨[(1,.one (qI 0)),(3,.one (qL (.ptr 3 0))),(5,.one (qL (.ptr 4 0))),(7,.one (qL (.ptr 30 0))),(8,.one (qI 5))],zuM17 lat lon,235⟩):=
 ToP.run2 (z:=⟨false,false,false⟩) (n:=20000) (dec:=[]) (mask:=[]) (os:=[]) (es:=[.oi lat lat,.oi lon lon]) soundAT (fun dead=>by kernel_rfl) ae_nil (aob_cons rfl (aob_cons rfl aob_nil)) (fun s=>canB_ok (by kernel_rfl)) (by kernel_rfl)
theorem zu_b5 (s:Asg) {lat:Int} {lon:Int}:ToP Tryz.prog 108 (c1 (c2 (c2 (c2 (c2 (c2 ((bodyF Tryz.prog 14)))))))) (filS2 s ⟨[(1,.one (qI 0)),(3,.one (qL (.ptr 3 0))),(5,.one (qL (.ptr 4 0))),(7,.one (qL (.ptr 30 0))),(8,.one (qI 5))],zuM17 lat lon,235⟩) .normal (Fil2 ⟨[(1,.one (qI 0)),(3,.one (qL (.ptr 3 0))),(5,.one (qL (.ptr 4 0))),(7,.one (qL (.ptr 30 0))),(8,.one (qI 5)),(10,.one (qL (.ptr 235 0)))],zuM18 lat lon,236⟩):=
 ToP.run2 (z:=⟨false,false,false⟩) (n:=20000) (dec:=[]) (mask:=[]) (os:=[]) (es:=[.oi lat lat,.oi lon lon]) soundAT (fun dead=>by kernel_rfl) ae_nil (aob_cons rfl (aob_cons rfl aob_nil)) (fun s=>canB_ok (by kernel_rfl)) (by kernel_rfl)
theorem zu_b6 (s:Asg) {lat:Int} {lon:Int}:ToP Tryz.prog 108 (c1 (c2 (c2 (c2 (c2 (c2 (c2 ((bodyF Tryz.prog 14))))))))) (filS2 s ⟨[(1,.one (qI 0)),(3,.one (qL (.ptr 3 0))),(5,.one (qL (.ptr 4 0))),(7,.one (qL (.ptr 30 0))),(8,.one (qI 5)),(10,.one (qL (.ptr 235 0)))],zuM18 lat lon,236⟩) .normal (Fil2 ⟨[(1,.one (qI 0)),(3,.one (qL (.ptr 3 0))),(5,.one (qL (.ptr 4 0))),(7,.one (qL (.ptr 30 0))),(8,.one (qI 5)),(10,.one (qL (.ptr 235 0))),(11,.one (qI (-93701651))),(12,.one (qI 0))],zuM18 lat lon,244⟩):=
 ToP.run2 (z:=⟨false,false,false⟩) (n:=20000) (dec:=[]) (mask:=[]) (os:=[]) (es:=[.oi lat lat,.oi lon lon]) soundAT (fun dead=>by kernel_rfl) ae_nil (aob_cons rfl (aob_cons rfl aob_nil)) (fun s=>canB_ok (by kernel_rfl)) (by kernel_rfl)
theorem zu_b7 (s:Asg) {lat:Int} {lon:Int}:ToP Tryz.prog 108 (c1 (c2 (c2 (c2 (c2 (c2 (c2 (c2 ((bodyF Tryz.prog 14)))))))))) (filS2 s ⟨[(1,.one (qI 0)),(3,.one (qL (.ptr 3 0))),(5,.one (qL (.ptr 4 0))),(7,.one (qL (.ptr 30 0))),(8,.one (qI 5)),(10,.one (qL (.ptr 235 0))),(11,.one (qI (-93701651))),(12,.one (qI 0))],zuM18 lat lon,244⟩) .normal (Fil2 ⟨[(1,.one (qI 0)),(3,.one (qL (.ptr 3 0))),(5,.one (qL (.ptr 4 0))),(7,.one (qL (.ptr 30 0))),(8,.one (qI 5)),(10,.one (qL (.ptr 235 0))),(11,.one (qI (-93701651)))],zuM18 lat lon,244⟩):=
 ToP.run2 (z:=⟨false,false,false⟩) (n:=20000) (dec:=[]) (mask:=[]) (os:=[]) (es:=[.oi lat lat,.oi lon lon]) soundAT (fun dead=>by kernel_rfl) ae_nil (aob_cons rfl (aob_cons rfl aob_nil)) (fun s=>canB_ok (by kernel_rfl)) (by kernel_rfl)
theorem zu_b8 (s:Asg) {lat:Int} {lon:Int}:ToP Tryz.prog 108 (c1 (c2 (c2 (c2 (c2 (c2 (c2 (c2 (c2 ((bodyF Tryz.prog 14))))))))))) (filS2 s ⟨[(1,.one (qI 0)),(3,.one (qL (.ptr 3 0))),(5,.one (qL (.ptr 4 0))),(7,.one (qL (.ptr 30 0))),(8,.one (qI 5)),(10,.one (qL (.ptr 235 0))),(11,.one (qI (-93701651)))],zuM18 lat lon,244⟩) .normal (Fil2 ⟨[(5,.one (qL (.ptr 4 0))),(7,.one (qL (.ptr 30 0))),(8,.one (qI 5)),(10,.one (qL (.ptr 235 0))),(13,.one (qL (.ptr 244 0)))],zuM19 lat lon,245⟩):=
 ToP.run2 (z:=⟨false,false,false⟩) (n:=20000) (dec:=[]) (mask:=[]) (os:=[]) (es:=[.oi lat lat,.oi lon lon]) soundAT (fun dead=>by kernel_rfl) ae_nil (aob_cons rfl (aob_cons rfl aob_nil)) (fun s=>canB_ok (by kernel_rfl)) (by kernel_rfl)
theorem zu_b9 (s:Asg) {lat:Int} {lon:Int}:ToP Tryz.prog 108 (c1 (c2 (c2 (c2 (c2 (c2 (c2 (c2 (c2 (c2 ((bodyF Tryz.prog 14)))))))))))) (filS2 s ⟨[(5,.one (qL (.ptr 4 0))),(7,.one (qL (.ptr 30 0))),(8,.one (qI 5)),(10,.one (qL (.ptr 235 0))),(13,.one (qL (.ptr 244 0)))],zuM19 lat lon,245⟩) .normal (Fil2 ⟨[(5,.one (qL (.ptr 4 0))),(7,.one (qL (.ptr 30 0))),(8,.one (qI 5)),(14,.one (qL (.ptr 245 0)))],zuM20 lat lon,246⟩):=
 ToP.run2 (z:=⟨false,false,false⟩) (n:=20000) (dec:=[]) (mask:=[]) (os:=[]) (es:=[.oi lat lat,.oi lon lon]) soundAT (fun dead=>by kernel_rfl) ae_nil (aob_cons rfl (aob_cons rfl aob_nil)) (fun s=>canB_ok (by kernel_rfl)) (by kernel_rfl)
theorem zu_b10 (s:Asg) {lat:Int} {lon:Int}:ToP Tryz.prog 108 (c1 (c2 (c2 (c2 (c2 (c2 (c2 (c2 (c2 (c2 (c2 ((bodyF Tryz.prog 14))))))))))))) (filS2 s ⟨[(5,.one (qL (.ptr 4 0))),(7,.one (qL (.ptr 30 0))),(8,.one (qI 5)),(14,.one (qL (.ptr 245 0)))],zuM20 lat lon,246⟩) .normal (Fil2 ⟨[(5,.one (qL (.ptr 4 0))),(7,.one (qL (.ptr 30 0))),(8,.one (qI 5))],zuM21 lat lon,256⟩):=
 ToP.run2 (z:=⟨false,false,false⟩) (n:=20000) (dec:=[]) (mask:=(mskC 1 [])) (os:=[]) (es:=[.oi lat lat,.oi lon lon]) soundAT (fun dead=>by kernel_rfl) ae_nil (aob_cons rfl (aob_cons rfl aob_nil)) (fun s=>canB_ok (by kernel_rfl)) (by kernel_rfl)
theorem zu_c0 (s:Asg) {lat:Int} {lon:Int}:ToP Tryz.prog 108 (c1 (c1 (c2 (c2 (c2 (c2 (c2 (c2 (c2 (c2 (c2 (c2 (c2 ((bodyF Tryz.prog 14))))))))))))))) (filS2 s ⟨[(5,.one (qL (.ptr 4 0))),(7,.one (qL (.ptr 30 0))),(8,.one (qI 5))],zuM21 lat lon,256⟩) .normal (Fil2 ⟨[(5,.one (qL (.ptr 4 0))),(7,.one (qL (.ptr 30 0))),(8,.one (qI 5)),(15,.one (qI 0))],zuM21 lat lon,256⟩):=
 ToP.run2 (z:=⟨false,false,false⟩) (n:=20000) (dec:=[]) (mask:=[]) (os:=[]) (es:=[.oi lat lat,.oi lon lon]) soundAT (fun dead=>by kernel_rfl) ae_nil (aob_cons rfl (aob_cons rfl aob_nil)) (fun s=>canB_ok (by kernel_rfl)) (by kernel_rfl)
theorem zu_h1 (s:Asg) {lat:Int} {lon:Int}:ToP Tryz.prog 108 (c1 (c1 (c2 (c1 (c2 (c2 (c2 (c2 (c2 (c2 (c2 (c2 (c2 (c2 (c2 ((bodyF Tryz.prog 14))))))))))))))))) (filS2 s ⟨[(5,.one (qL (.ptr 4 0))),(7,.one (qL (.ptr 30 0))),(8,.one (qI 5)),(15,.one (qI 0))],zuM21 lat lon,256⟩) .normal (Fil2 ⟨[(5,.one (qL (.ptr 4 0))),(7,.one (qL (.ptr 30 0))),(8,.one (qI 5)),(15,.one (qI 1))],zuM22 lat lon,272⟩):=
 ToP.run2 (z:=⟨false,false,false⟩) (n:=20000) (dec:=[]) (mask:=(mskC 12 [])) (os:=[]) (es:=[.oi lat lat,.oi lon lon]) soundAT (fun dead=>by kernel_rfl) ae_nil (aob_cons rfl (aob_cons rfl aob_nil)) (fun s=>canB_ok (by kernel_rfl)) (by kernel_rfl)
theorem zu_h2 (s:Asg) {lat:Int} {lon:Int}:ToP Tryz.prog 108 (c1 (c1 (c2 (c1 (c2 (c2 (c2 (c2 (c2 (c2 (c2 (c2 (c2 (c2 (c2 ((bodyF Tryz.prog 14))))))))))))))))) (filS2 s ⟨[(5,.one (qL (.ptr 4 0))),(7,.one (qL (.ptr 30 0))),(8,.one (qI 5)),(15,.one (qI 1))],zuM22 lat lon,272⟩) .normal (Fil2 ⟨[(5,.one (qL (.ptr 4 0))),(7,.one (qL (.ptr 30 0))),(8,.one (qI 5)),(15,.one (qI 2))],zuM23 lat lon,288⟩):=
 ToP.run2 (z:=⟨false,false,false⟩) (n:=20000) (dec:=[]) (mask:=(mskC 13 [])) (os:=[]) (es:=[.oi lat lat,.oi lon lon]) soundAT (fun dead=>by kernel_rfl) ae_nil (aob_cons rfl (aob_cons rfl aob_nil)) (fun s=>canB_ok (by kernel_rfl)) (by kernel_rfl)
theorem zu_h3 (s:Asg) {lat:Int} {lon:Int}:ToP Tryz.prog 108 (c1 (c1 (c2 (c1 (c2 (c2 (c2 (c2 (c2 (c2 (c2 (c2 (c2 (c2 (c2 ((bodyF Tryz.prog 14))))))))))))))))) (filS2 s ⟨[(5,.one (qL (.ptr 4 0))),(7,.one (qL (.ptr 30 0))),(8,.one (qI 5)),(15,.one (qI 2))],zuM23 lat lon,288⟩) .normal (Fil2 ⟨[(5,.one (qL (.ptr 4 0))),(7,.one (qL (.ptr 30 0))),(8,.one (qI 5)),(15,.one (qI 3))],zuM24 lat lon,304⟩):=
 ToP.run2 (z:=⟨false,false,false⟩) (n:=20000) (dec:=[]) (mask:=(mskC 14 [])) (os:=[]) (es:=[.oi lat lat,.oi lon lon]) soundAT (fun dead=>by kernel_rfl) ae_nil (aob_cons rfl (aob_cons rfl aob_nil)) (fun s=>canB_ok (by kernel_rfl)) (by kernel_rfl)
theorem zu_h4 (s:Asg) {lat:Int} {lon:Int}:ToP Tryz.prog 108 (c1 (c1 (c2 (c1 (c2 (c2 (c2 (c2 (c2 (c2 (c2 (c2 (c2 (c2 (c2 ((bodyF Tryz.prog 14))))))))))))))))) (filS2 s ⟨[(5,.one (qL (.ptr 4 0))),(7,.one (qL (.ptr 30 0))),(8,.one (qI 5)),(15,.one (qI 3))],zuM24 lat lon,304⟩) .normal (Fil2 ⟨[(5,.one (qL (.ptr 4 0))),(7,.one (qL (.ptr 30 0))),(8,.one (qI 5)),(15,.one (qI 4))],zuM25 lat lon,320⟩):=
 ToP.run2 (z:=⟨false,false,false⟩) (n:=20000) (dec:=[]) (mask:=(mskC 15 [])) (os:=[]) (es:=[.oi lat lat,.oi lon lon]) soundAT (fun dead=>by kernel_rfl) ae_nil (aob_cons rfl (aob_cons rfl aob_nil)) (fun s=>canB_ok (by kernel_rfl)) (by kernel_rfl)
theorem zu_h5 (s:Asg) {lat:Int} {lon:Int}:ToP Tryz.prog 108 (c1 (c1 (c2 (c1 (c2 (c2 (c2 (c2 (c2 (c2 (c2 (c2 (c2 (c2 (c2 ((bodyF Tryz.prog 14))))))))))))))))) (filS2 s ⟨[(5,.one (qL (.ptr 4 0))),(7,.one (qL (.ptr 30 0))),(8,.one (qI 5)),(15,.one (qI 4))],zuM25 lat lon,320⟩) .normal (Fil2 ⟨[(5,.one (qL (.ptr 4 0))),(7,.one (qL (.ptr 30 0))),(8,.one (qI 5)),(15,.one (qI 5))],zuM26 lat lon,336⟩):=
 ToP.run2 (z:=⟨false,false,false⟩) (n:=20000) (dec:=[]) (mask:=(mskC 16 [])) (os:=[]) (es:=[.oi lat lat,.oi lon lon]) soundAT (fun dead=>by kernel_rfl) ae_nil (aob_cons rfl (aob_cons rfl aob_nil)) (fun s=>canB_ok (by kernel_rfl)) (by kernel_rfl)
theorem zu_h6 (s:Asg) {lat:Int} {lon:Int}:ToP Tryz.prog 108 (c1 (c1 (c2 (c1 (c2 (c2 (c2 (c2 (c2 (c2 (c2 (c2 (c2 (c2 (c2 ((bodyF Tryz.prog 14))))))))))))))))) (filS2 s ⟨[(5,.one (qL (.ptr 4 0))),(7,.one (qL (.ptr 30 0))),(8,.one (qI 5)),(15,.one (qI 5))],zuM26 lat lon,336⟩) .normal (Fil2 ⟨[(5,.one (qL (.ptr 4 0))),(7,.one (qL (.ptr 30 0))),(8,.one (qI 5)),(15,.one (qI 6))],zuM27 lat lon,440⟩):=
 ToP.run2 (z:=⟨false,false,false⟩) (n:=20000) (dec:=[]) (mask:=(mskC 46 [])) (os:=[]) (es:=[.oi lat lat,.oi lon lon]) soundAT (fun dead=>by kernel_rfl) ae_nil (aob_cons rfl (aob_cons rfl aob_nil)) (fun s=>canB_ok (by kernel_rfl)) (by kernel_rfl)
theorem zu_h7 (s:Asg) {lat:Int} {lon:Int}:ToP Tryz.prog 108 (c1 (c1 (c2 (c1 (c2 (c2 (c2 (c2 (c2 (c2 (c2 (c2 (c2 (c2 (c2 ((bodyF Tryz.prog 14))))))))))))))))) (filS2 s ⟨[(5,.one (qL (.ptr 4 0))),(7,.one (qL (.ptr 30 0))),(8,.one (qI 5)),(15,.one (qI 6))],zuM27 lat lon,440⟩) .normal (Fil2 ⟨[(5,.one (qL (.ptr 4 0))),(7,.one (qL (.ptr 30 0))),(8,.one (qI 5)),(15,.one (qI 7))],zuM28 lat lon,456⟩):=
 ToP.run2 (z:=⟨false,false,false⟩) (n:=20000) (dec:=[]) (mask:=(mskC 18 [])) (os:=[]) (es:=[.oi lat lat,.oi lon lon]) soundAT (fun dead=>by kernel_rfl) ae_nil (aob_cons rfl (aob_cons rfl aob_nil)) (fun s=>canB_ok (by kernel_rfl)) (by kernel_rfl)
theorem zu_c1 (s:Asg) {lat:Int} {lon:Int}:ToP Tryz.prog 108 (c1 (c1 (c2 (c1 (c2 (c2 (c2 (c2 (c2 (c2 (c2 (c2 (c2 (c2 (c2 ((bodyF Tryz.prog 14))))))))))))))))) (filS2 s ⟨[(5,.one (qL (.ptr 4 0))),(7,.one (qL (.ptr 30 0))),(8,.one (qI 5)),(15,.one (qI 7))],zuM28 lat lon,456⟩) (.exit 2) (Fil2 ⟨[(5,.one (qL (.ptr 4 0))),(7,.one (qL (.ptr 30 0))),(8,.one (qI 5))],zuM28 lat lon,456⟩):=
 ToP.run2 (z:=⟨false,false,false⟩) (n:=20000) (dec:=[]) (mask:=[]) (os:=[]) (es:=[.oi lat lat,.oi lon lon]) soundAT (fun dead=>by kernel_rfl) ae_nil (aob_cons rfl (aob_cons rfl aob_nil)) (fun s=>canB_ok (by kernel_rfl)) (by kernel_rfl)
theorem zu_c2 (s:Asg) {lat:Int} {lon:Int} (hn:SmH lat) (he:SmH lon):ToP Tryz.prog 108 (c1 (c2 (c2 (c2 (c2 (c2 (c2 (c2 (c2 (c2 (c2 (c2 (c2 ((bodyF Tryz.prog 14))))))))))))))) (filS2 s ⟨[(5,.one (qL (.ptr 4 0))),(7,.one (qL (.ptr 30 0))),(8,.one (qI 5))],zuM28 lat lon,456⟩) .normal (Fil2 ⟨[(7,.one (qL (.ptr 30 0))),(8,.one (qI 5))],zuM29 lat lon,466⟩):=
 ToP.run2 (z:=⟨false,false,false⟩) (n:=20000) (dec:=[]) (mask:=(mskC 1 (mskO 16 (mskC 8 [])))) (os:=(ra 4 (decide (lon≤1800000000),true) (ra 4 (decide (lon≥ -1800000000),true) (ra 4 (decide (lat≤900000000),true) (ra 4 (decide (lat≥ -900000000),true) []))))) (es:=[.oi lat lat,.oi lon lon]) soundAT (fun dead=>by kernel_rfl) (ra_ok (decide_eq_true (by have:=hn.1;have:=hn.2;have:=he.1;have:=he.2;omega)) (ra_ok (decide_eq_true (by have:=hn.1;have:=hn.2;have:=he.1;have:=he.2;omega)) (ra_ok (decide_eq_true (by have:=hn.1;have:=hn.2;have:=he.1;have:=he.2;omega)) (ra_ok (decide_eq_true (by have:=hn.1;have:=hn.2;have:=he.1;have:=he.2;omega)) ae_nil _) _) _) _) (aob_cons rfl (aob_cons rfl aob_nil)) (fun s=>canB_ok (by kernel_rfl)) (by kernel_rfl)
theorem zu_d0 (s:Asg) {lat:Int} {lon:Int}:ToP Tryz.prog 108 (c1 (c1 (c2 (c2 (c2 (c2 (c2 (c2 (c2 (c2 (c2 (c2 (c2 (c2 (c2 ((bodyF Tryz.prog 14))))))))))))))))) (filS2 s ⟨[(7,.one (qL (.ptr 30 0))),(8,.one (qI 5))],zuM29 lat lon,466⟩) .normal (Fil2 ⟨[(7,.one (qL (.ptr 30 0))),(8,.one (qI 5)),(16,.one (qI 0))],zuM29 lat lon,466⟩):=
 ToP.run2 (z:=⟨false,false,false⟩) (n:=20000) (dec:=[]) (mask:=[]) (os:=[]) (es:=[.oi lat lat,.oi lon lon]) soundAT (fun dead=>by kernel_rfl) ae_nil (aob_cons rfl (aob_cons rfl aob_nil)) (fun s=>canB_ok (by kernel_rfl)) (by kernel_rfl)
theorem zu_g1 (s:Asg) {lat:Int} {lon:Int}:ToP Tryz.prog 108 (c1 (c1 (c2 (c1 (c2 (c2 (c2 (c2 (c2 (c2 (c2 (c2 (c2 (c2 (c2 (c2 (c2 ((bodyF Tryz.prog 14))))))))))))))))))) (filS2 s ⟨[(7,.one (qL (.ptr 30 0))),(8,.one (qI 5)),(16,.one (qI 0))],zuM29 lat lon,466⟩) .normal (Fil2 ⟨[(7,.one (qL (.ptr 30 0))),(8,.one (qI 5)),(16,.one (qI 1))],zuM30 lat lon,483⟩):=
 ToP.run2 (z:=⟨false,false,false⟩) (n:=20000) (dec:=[]) (mask:=(mskC 19 [])) (os:=[]) (es:=[.oi lat lat,.oi lon lon]) soundAT (fun dead=>by kernel_rfl) ae_nil (aob_cons rfl (aob_cons rfl aob_nil)) (fun s=>canB_ok (by kernel_rfl)) (by kernel_rfl)
theorem zu_g2 (s:Asg) {lat:Int} {lon:Int}:ToP Tryz.prog 108 (c1 (c1 (c2 (c1 (c2 (c2 (c2 (c2 (c2 (c2 (c2 (c2 (c2 (c2 (c2 (c2 (c2 ((bodyF Tryz.prog 14))))))))))))))))))) (filS2 s ⟨[(7,.one (qL (.ptr 30 0))),(8,.one (qI 5)),(16,.one (qI 1))],zuM30 lat lon,483⟩) .normal (Fil2 ⟨[(7,.one (qL (.ptr 30 0))),(8,.one (qI 5)),(16,.one (qI 2))],zuM31 lat lon,500⟩):=
 ToP.run2 (z:=⟨false,false,false⟩) (n:=20000) (dec:=[]) (mask:=(mskC 20 [])) (os:=[]) (es:=[.oi lat lat,.oi lon lon]) soundAT (fun dead=>by kernel_rfl) ae_nil (aob_cons rfl (aob_cons rfl aob_nil)) (fun s=>canB_ok (by kernel_rfl)) (by kernel_rfl)
theorem zu_g3 (s:Asg) {lat:Int} {lon:Int}:ToP Tryz.prog 108 (c1 (c1 (c2 (c1 (c2 (c2 (c2 (c2 (c2 (c2 (c2 (c2 (c2 (c2 (c2 (c2 (c2 ((bodyF Tryz.prog 14))))))))))))))))))) (filS2 s ⟨[(7,.one (qL (.ptr 30 0))),(8,.one (qI 5)),(16,.one (qI 2))],zuM31 lat lon,500⟩) .normal (Fil2 ⟨[(7,.one (qL (.ptr 30 0))),(8,.one (qI 5)),(16,.one (qI 3))],zuM32 lat lon,517⟩):=
 ToP.run2 (z:=⟨false,false,false⟩) (n:=20000) (dec:=[]) (mask:=(mskC 21 [])) (os:=[]) (es:=[.oi lat lat,.oi lon lon]) soundAT (fun dead=>by kernel_rfl) ae_nil (aob_cons rfl (aob_cons rfl aob_nil)) (fun s=>canB_ok (by kernel_rfl)) (by kernel_rfl)
theorem zu_g4 (s:Asg) {lat:Int} {lon:Int}:ToP Tryz.prog 108 (c1 (c1 (c2 (c1 (c2 (c2 (c2 (c2 (c2 (c2 (c2 (c2 (c2 (c2 (c2 (c2 (c2 ((bodyF Tryz.prog 14))))))))))))))))))) (filS2 s ⟨[(7,.one (qL (.ptr 30 0))),(8,.one (qI 5)),(16,.one (qI 3))],zuM32 lat lon,517⟩) .normal (Fil2 ⟨[(7,.one (qL (.ptr 30 0))),(8,.one (qI 5)),(16,.one (qI 4))],zuM33 lat lon,534⟩):=
 ToP.run2 (z:=⟨false,false,false⟩) (n:=20000) (dec:=[]) (mask:=(mskC 22 [])) (os:=[]) (es:=[.oi lat lat,.oi lon lon]) soundAT (fun dead=>by kernel_rfl) ae_nil (aob_cons rfl (aob_cons rfl aob_nil)) (fun s=>canB_ok (by kernel_rfl)) (by kernel_rfl)
theorem zu_g5 (s:Asg) {lat:Int} {lon:Int}:ToP Tryz.prog 108 (c1 (c1 (c2 (c1 (c2 (c2 (c2 (c2 (c2 (c2 (c2 (c2 (c2 (c2 (c2 (c2 (c2 ((bodyF Tryz.prog 14))))))))))))))))))) (filS2 s ⟨[(7,.one (qL (.ptr 30 0))),(8,.one (qI 5)),(16,.one (qI 4))],zuM33 lat lon,534⟩) .normal (Fil2 ⟨[(7,.one (qL (.ptr 30 0))),(8,.one (qI 5)),(16,.one (qI 5))],zuM34 lat lon,551⟩):=
 ToP.run2 (z:=⟨false,false,false⟩) (n:=20000) (dec:=[]) (mask:=(mskC 23 [])) (os:=[]) (es:=[.oi lat lat,.oi lon lon]) soundAT (fun dead=>by kernel_rfl) ae_nil (aob_cons rfl (aob_cons rfl aob_nil)) (fun s=>canB_ok (by kernel_rfl)) (by kernel_rfl)
theorem zu_g6 (s:Asg) {lat:Int} {lon:Int} (hn:SmH lat) (he:SmH lon):ToP Tryz.prog 108 (c1 (c1 (c2 (c1 (c2 (c2 (c2 (c2 (c2 (c2 (c2 (c2 (c2 (c2 (c2 (c2 (c2 ((bodyF Tryz.prog 14))))))))))))))))))) (filS2 s ⟨[(7,.one (qL (.ptr 30 0))),(8,.one (qI 5)),(16,.one (qI 5))],zuM34 lat lon,551⟩) .normal (Fil2 ⟨[(7,.one (qL (.ptr 30 0))),(8,.one (qI 5)),(16,.one (qI 6))],zuM35 lat lon,686⟩):=
 ToP.run2 (z:=⟨false,false,false⟩) (n:=20000) (dec:=[]) (mask:=(mskC 66 (mskO 34 (mskC 13 [])))) (os:=(ra 1 (decide (wr .i64 (lon - 0)≤ -1800000000),false) (ra 1 (decide (wr .i64 (lon - 0)>1800000000),false) (ra 4 (decide (lon≤1800000000),true) (ra 4 (decide (lon≥ -1800000000),true) (ra 4 (decide (lat≤900000000),true) (ra 4 (decide (lat≥ -900000000),true) (ra 4 (decide (lon≤1800000000),true) (ra 4 (decide (lon≥ -1800000000),true) (ra 4 (decide (lat≤900000000),true) (ra 4 (decide (lat≥ -900000000),true) []))))))))))) (es:=[.oi (smD 7 (smN lat)) (smN lat),.oi (smD 8 (smE lon)) (smE lon)]) soundAT (fun dead=>by kernel_rfl) (ra_ok (decide_eq_false (by have:=hn.1;have:=hn.2;have:=he.1;have:=he.2;rw [Go.Lr.w1 (by omega)];omega)) (ra_ok (decide_eq_false (by have:=hn.1;have:=hn.2;have:=he.1;have:=he.2;rw [Go.Lr.w1 (by omega)];omega)) (ra_ok (decide_eq_true (by have:=hn.1;have:=hn.2;have:=he.1;have:=he.2;omega)) (ra_ok (decide_eq_true (by have:=hn.1;have:=hn.2;have:=he.1;have:=he.2;omega)) (ra_ok (decide_eq_true (by have:=hn.1;have:=hn.2;have:=he.1;have:=he.2;omega)) (ra_ok (decide_eq_true (by have:=hn.1;have:=hn.2;have:=he.1;have:=he.2;omega)) (ra_ok (decide_eq_true (by have:=hn.1;have:=hn.2;have:=he.1;have:=he.2;omega)) (ra_ok (decide_eq_true (by have:=hn.1;have:=hn.2;have:=he.1;have:=he.2;omega)) (ra_ok (decide_eq_true (by have:=hn.1;have:=hn.2;have:=he.1;have:=he.2;omega)) (ra_ok (decide_eq_true (by have:=hn.1;have:=hn.2;have:=he.1;have:=he.2;omega)) ae_nil _) _) _) _) _) _) _) _) _) _) (aob_cons hn.n (aob_cons he.e aob_nil)) (fun s=>canB_ok (by kernel_rfl)) (by kernel_rfl)
theorem zu_g7 (s:Asg) {lat:Int} {lon:Int}:ToP Tryz.prog 108 (c1 (c1 (c2 (c1 (c2 (c2 (c2 (c2 (c2 (c2 (c2 (c2 (c2 (c2 (c2 (c2 (c2 ((bodyF Tryz.prog 14))))))))))))))))))) (filS2 s ⟨[(7,.one (qL (.ptr 30 0))),(8,.one (qI 5)),(16,.one (qI 6))],zuM35 lat lon,686⟩) .normal (Fil2 ⟨[(7,.one (qL (.ptr 30 0))),(8,.one (qI 5)),(16,.one (qI 7))],zuM36 lat lon,703⟩):=
 ToP.run2 (z:=⟨false,false,false⟩) (n:=20000) (dec:=[]) (mask:=(mskC 25 [])) (os:=[]) (es:=[.oi (smN lat) (smN lat),.oi (smE lon) (smE lon)]) soundAT (fun dead=>by kernel_rfl) ae_nil (aob_cons rfl (aob_cons rfl aob_nil)) (fun s=>canB_ok (by kernel_rfl)) (by kernel_rfl)
theorem zu_d1 (s:Asg) {lat:Int} {lon:Int}:ToP Tryz.prog 108 (c1 (c1 (c2 (c1 (c2 (c2 (c2 (c2 (c2 (c2 (c2 (c2 (c2 (c2 (c2 (c2 (c2 ((bodyF Tryz.prog 14))))))))))))))))))) (filS2 s ⟨[(7,.one (qL (.ptr 30 0))),(8,.one (qI 5)),(16,.one (qI 7))],zuM36 lat lon,703⟩) (.exit 4) (Fil2 ⟨[(7,.one (qL (.ptr 30 0)))],zuM36 lat lon,703⟩):=
 ToP.run2 (z:=⟨false,false,false⟩) (n:=20000) (dec:=[]) (mask:=[]) (os:=[]) (es:=[.oi (smN lat) (smN lat),.oi (smE lon) (smE lon)]) soundAT (fun dead=>by kernel_rfl) ae_nil (aob_cons rfl (aob_cons rfl aob_nil)) (fun s=>canB_ok (by kernel_rfl)) (by kernel_rfl)
theorem zu_d2 (s:Asg) {lat:Int} {lon:Int}:ToP Tryz.prog 108 (c1 (c2 (c2 (c2 (c2 (c2 (c2 (c2 (c2 (c2 (c2 (c2 (c2 (c2 (c2 ((bodyF Tryz.prog 14))))))))))))))))) (filS2 s ⟨[(7,.one (qL (.ptr 30 0)))],zuM36 lat lon,703⟩) .normal (Fil2 ⟨[(6,.one (qL (.ptr 30 0)))],zuM36 lat lon,703⟩):=
 ToP.run2 (z:=⟨false,false,false⟩) (n:=20000) (dec:=[]) (mask:=[]) (os:=[]) (es:=[.oi (smN lat) (smN lat),.oi (smE lon) (smE lon)]) soundAT (fun dead=>by kernel_rfl) ae_nil (aob_cons rfl (aob_cons rfl aob_nil)) (fun s=>canB_ok (by kernel_rfl)) (by kernel_rfl)
theorem zu_d3 (s:Asg) {lat:Int} {lon:Int}:ToP Tryz.prog 108 (c2 (c2 (c2 (c2 (c2 (c2 (c2 (c2 (c2 (c2 (c2 (c2 (c2 (c2 (c2 ((bodyF Tryz.prog 14))))))))))))))))) (filS2 s ⟨[(6,.one (qL (.ptr 30 0)))],zuM36 lat lon,703⟩) .ret (Fil2 ⟨[(6,.one (qL (.ptr 30 0)))],zuM36 lat lon,703⟩):=
 ToP.run2 (z:=⟨false,false,false⟩) (n:=20000) (dec:=[]) (mask:=[]) (os:=[]) (es:=[.oi (smN lat) (smN lat),.oi (smE lon) (smE lon)]) soundAT (fun dead=>by kernel_rfl) ae_nil (aob_cons rfl (aob_cons rfl aob_nil)) (fun s=>canB_ok (by kernel_rfl)) (by kernel_rfl)
theorem zu_L1 (s:Asg) {lat:Int} {lon:Int}:RdP Tryz.prog 108 (c1 (c1 (c2 (c1 (c2 (c2 (c2 (c2 ((bodyF Tryz.prog 14)))))))))) 17 (filS2 s ⟨[(1,.one (qI 0)),(3,.one (qL (.ptr 3 0))),(5,.one (qL (.ptr 4 0))),(7,.one (qL (.ptr 30 0))),(8,.one (qI 5)),(9,.one (qI 0))],zuM1 lat lon,31⟩) (.exit 0) (Fil2 ⟨[(1,.one (qI 0)),(3,.one (qL (.ptr 3 0))),(5,.one (qL (.ptr 4 0))),(7,.one (qL (.ptr 30 0))),(8,.one (qI 5))],zuM17 lat lon,235⟩):=
 RdP.next (zu_r1 s) (by rintro x ⟨s,rfl⟩;exact RdP.next (zu_r2 s) (by rintro x ⟨s,rfl⟩;exact RdP.next (zu_r3 s) (by rintro x ⟨s,rfl⟩;exact RdP.next (zu_r4 s) (by rintro x ⟨s,rfl⟩;exact RdP.next (zu_r5 s) (by rintro x ⟨s,rfl⟩;exact RdP.next (zu_r6 s) (by rintro x ⟨s,rfl⟩;exact RdP.next (zu_r7 s) (by rintro x ⟨s,rfl⟩;exact RdP.next (zu_r8 s) (by rintro x ⟨s,rfl⟩;exact RdP.next (zu_r9 s) (by rintro x ⟨s,rfl⟩;exact RdP.next (zu_r10 s) (by rintro x ⟨s,rfl⟩;exact RdP.next (zu_r11 s) (by rintro x ⟨s,rfl⟩;exact RdP.next (zu_r12 s) (by rintro x ⟨s,rfl⟩;exact RdP.next (zu_r13 s) (by rintro x ⟨s,rfl⟩;exact RdP.next (zu_r14 s) (by rintro x ⟨s,rfl⟩;exact RdP.next (zu_r15 s) (by rintro x ⟨s,rfl⟩;exact RdP.next (zu_r16 s) (by rintro x ⟨s,rfl⟩;exact RdP.last (by simp) (zu_a4e s)))))))))))))))))
theorem zu_L2 (s:Asg) {lat:Int} {lon:Int}:RdP Tryz.prog 108 (c1 (c1 (c2 (c1 (c2 (c2 (c2 (c2 (c2 (c2 (c2 (c2 (c2 (c2 (c2 ((bodyF Tryz.prog 14))))))))))))))))) 8 (filS2 s ⟨[(5,.one (qL (.ptr 4 0))),(7,.one (qL (.ptr 30 0))),(8,.one (qI 5)),(15,.one (qI 0))],zuM21 lat lon,256⟩) (.exit 2) (Fil2 ⟨[(5,.one (qL (.ptr 4 0))),(7,.one (qL (.ptr 30 0))),(8,.one (qI 5))],zuM28 lat lon,456⟩):=
 RdP.next (zu_h1 s) (by rintro x ⟨s,rfl⟩;exact RdP.next (zu_h2 s) (by rintro x ⟨s,rfl⟩;exact RdP.next (zu_h3 s) (by rintro x ⟨s,rfl⟩;exact RdP.next (zu_h4 s) (by rintro x ⟨s,rfl⟩;exact RdP.next (zu_h5 s) (by rintro x ⟨s,rfl⟩;exact RdP.next (zu_h6 s) (by rintro x ⟨s,rfl⟩;exact RdP.next (zu_h7 s) (by rintro x ⟨s,rfl⟩;exact RdP.last (by simp) (zu_c1 s))))))))
theorem zu_L3 (s:Asg) {lat:Int} {lon:Int} (hn:SmH lat) (he:SmH lon):RdP Tryz.prog 108 (c1 (c1 (c2 (c1 (c2 (c2 (c2 (c2 (c2 (c2 (c2 (c2 (c2 (c2 (c2 (c2 (c2 ((bodyF Tryz.prog 14))))))))))))))))))) 8 (filS2 s ⟨[(7,.one (qL (.ptr 30 0))),(8,.one (qI 5)),(16,.one (qI 0))],zuM29 lat lon,466⟩) (.exit 4) (Fil2 ⟨[(7,.one (qL (.ptr 30 0)))],zuM36 lat lon,703⟩):=
 RdP.next (zu_g1 s) (by rintro x ⟨s,rfl⟩;exact RdP.next (zu_g2 s) (by rintro x ⟨s,rfl⟩;exact RdP.next (zu_g3 s) (by rintro x ⟨s,rfl⟩;exact RdP.next (zu_g4 s) (by rintro x ⟨s,rfl⟩;exact RdP.next (zu_g5 s) (by rintro x ⟨s,rfl⟩;exact RdP.next (zu_g6 s hn he) (by rintro x ⟨s,rfl⟩;exact RdP.next (zu_g7 s) (by rintro x ⟨s,rfl⟩;exact RdP.last (by simp) (zu_d1 s))))))))
theorem zu_All (s:Asg) {lat:Int} {lon:Int} (hn:SmH lat) (he:SmH lon):ToP Tryz.prog 108 ((bodyF Tryz.prog 14)) (filS2 s ⟨[(0,.agg (zuPar)),(1,.one (qI 0)),(2,.agg [qS lat,qS lon,qI 0,qI 0,qI 0,qI 0,qI 1000,qI 100])],[],3⟩) .ret (Fil2 ⟨[(6,.one (qL (.ptr 30 0)))],zuM36 lat lon,703⟩):=by
 refine ToP.seq (by kernel_rfl) (zu_a0 s) ?_
 rintro x ⟨s,rfl⟩
 refine ToP.seq (by kernel_rfl) (zu_a1 s) ?_
 rintro x ⟨s,rfl⟩
 refine ToP.seq (by kernel_rfl) (zu_a2 s) ?_
 rintro x ⟨s,rfl⟩
 refine ToP.seq (by kernel_rfl) (zu_a3 s) ?_
 rintro x ⟨s,rfl⟩
 refine ToP.seq (by kernel_rfl) (B:=Fil2 ⟨[(1,.one (qI 0)),(3,.one (qL (.ptr 3 0))),(5,.one (qL (.ptr 4 0))),(7,.one (qL (.ptr 30 0))),(8,.one (qI 5))],zuM17 lat lon,235⟩) (ToP.seq (by kernel_rfl) (zu_a4 s) (by rintro x ⟨s,rfl⟩;exact ToP.block (id:=0) (e:= .exit 0) (by kernel_rfl) (ToP.loop (m:=17) (by kernel_rfl) (zu_L1 s)) (.inl rfl))) ?_
 rintro x ⟨s,rfl⟩
 refine ToP.seq (by kernel_rfl) (zu_b5 s) ?_
 rintro x ⟨s,rfl⟩
 refine ToP.seq (by kernel_rfl) (zu_b6 s) ?_
 rintro x ⟨s,rfl⟩
 refine ToP.seq (by kernel_rfl) (zu_b7 s) ?_
 rintro x ⟨s,rfl⟩
 refine ToP.seq (by kernel_rfl) (zu_b8 s) ?_
 rintro x ⟨s,rfl⟩
 refine ToP.seq (by kernel_rfl) (zu_b9 s) ?_
 rintro x ⟨s,rfl⟩
 refine ToP.seq (by kernel_rfl) (zu_b10 s) ?_
 rintro x ⟨s,rfl⟩
 refine ToP.seq (by kernel_rfl) (B:=Fil2 ⟨[(5,.one (qL (.ptr 4 0))),(7,.one (qL (.ptr 30 0))),(8,.one (qI 5))],zuM28 lat lon,456⟩) (ToP.seq (by kernel_rfl) (zu_c0 s) (by rintro x ⟨s,rfl⟩;exact ToP.block (id:=2) (e:= .exit 2) (by kernel_rfl) (ToP.loop (m:=8) (by kernel_rfl) (zu_L2 s)) (.inl rfl))) ?_
 rintro x ⟨s,rfl⟩
 refine ToP.seq (by kernel_rfl) (zu_c2 s hn he) ?_
 rintro x ⟨s,rfl⟩
 refine ToP.seq (by kernel_rfl) (B:=Fil2 ⟨[(7,.one (qL (.ptr 30 0)))],zuM36 lat lon,703⟩) (ToP.seq (by kernel_rfl) (zu_d0 s) (by rintro x ⟨s,rfl⟩;exact ToP.block (id:=4) (e:= .exit 4) (by kernel_rfl) (ToP.loop (m:=8) (by kernel_rfl) (zu_L3 s hn he)) (.inl rfl))) ?_
 rintro x ⟨s,rfl⟩
 refine ToP.seq (by kernel_rfl) (zu_d2 s) ?_
 rintro x ⟨s,rfl⟩
 exact zu_d3 s
end Go.Proofs.YtnlhpaidmiogbaaGreat

/- TopSums: the law. -/
namespace Go.Proofs.YtnlhpaidmiogbaaGreat
open Go.Lr
set_option linter.unusedVariables false
set_option maxRecDepth 100000
noncomputable def AX:FuncId→Option SumK:=more AT 9 (pureSum awkS)
theorem soundAX:Sound Tryz.prog AX:=soundAT.more sumAwk
theorem fr_one {j:Nat} {b:Blk} {i:Nat} (h:(getM [(j,b)] i).isSome):i=j:=by
 rw [getM_cons] at h
 by_cases e:i=j
 ·exact e
 ·rw [if_neg e] at h;cases h
theorem zu_l0 (s:Asg) {lat:Int} {lon:Int}:ToP Tryz.prog 104 (c1 ((bodyF Tryz.prog 6))) (filS2 s ⟨[(0,.one (qS lat)),(1,.one (qS lon))],[],0⟩) .normal (Fil2 ⟨[(0,.one (qS lat)),(1,.one (qS lon))],[],0⟩):=
 ToP.run2 (z:=⟨false,false,false⟩) (n:=20000) (dec:=[]) (mask:=[]) (os:=[]) (es:=[.oi lat lat,.oi lon lon]) soundAX (fun dead=>by kernel_rfl) ae_nil (aob_cons rfl (aob_cons rfl aob_nil)) (fun s=>canB_ok (by kernel_rfl)) (by kernel_rfl)
theorem zu_l1 (s:Asg) {lat:Int} {lon:Int}:ToP Tryz.prog 104 (c1 (c2 ((bodyF Tryz.prog 6)))) (filS2 s ⟨[(0,.one (qS lat)),(1,.one (qS lon))],[],0⟩) .normal (Fil2 ⟨[(0,.one (qS lat)),(1,.one (qS lon))],[],0⟩):=
 ToP.run2 (z:=⟨false,false,false⟩) (n:=20000) (dec:=[]) (mask:=[]) (os:=[]) (es:=[.oi lat lat,.oi lon lon]) soundAX (fun dead=>by kernel_rfl) ae_nil (aob_cons rfl (aob_cons rfl aob_nil)) (fun s=>canB_ok (by kernel_rfl)) (by kernel_rfl)
theorem zu_l2a (s:Asg) {lat:Int} {lon:Int} (h0:lat < -100000):ToP Tryz.prog 104 (c1 (c2 (c2 ((bodyF Tryz.prog 6))))) (filS2 s ⟨[(0,.one (qS lat)),(1,.one (qS lon))],[],0⟩) .ret (Fil2 ⟨[(4,.one (qB true))],[],0⟩):=
 ToP.run2 (z:=⟨false,false,false⟩) (n:=20000) (dec:=(tt 3 (nn 7 []))) (mask:=(mskO 3 [])) (os:=(ra 3 (decide (lat < -100000),true) [])) (es:=[]) soundAX (fun dead=>by kernel_rfl) (ra_ok (decide_eq_true (by omega)) ae_nil _) aob_nil (fun s=>canB_ok (by kernel_rfl)) (by kernel_rfl)
theorem zu_l2b (s:Asg) {lat:Int} {lon:Int} (h0:¬(lat < -100000)) (h1:lat>100000):ToP Tryz.prog 104 (c1 (c2 (c2 ((bodyF Tryz.prog 6))))) (filS2 s ⟨[(0,.one (qS lat)),(1,.one (qS lon))],[],0⟩) .ret (Fil2 ⟨[(4,.one (qB true))],[],0⟩):=
 ToP.run2 (z:=⟨false,false,false⟩) (n:=20000) (dec:=(ff 3 (tt 3 (nn 4 [])))) (mask:=(mskO 6 [])) (os:=(ra 3 (decide (lat>100000),true) (ra 3 (decide (lat < -100000),false) []))) (es:=[]) soundAX (fun dead=>by kernel_rfl) (ra_ok (decide_eq_true (by omega)) (ra_ok (decide_eq_false (by omega)) ae_nil _) _) aob_nil (fun s=>canB_ok (by kernel_rfl)) (by kernel_rfl)
theorem zu_l2c (s:Asg) {lat:Int} {lon:Int} (h0:¬(lat < -100000)) (h1:¬(lat>100000)) (h2:lon < -100000):ToP Tryz.prog 104 (c1 (c2 (c2 ((bodyF Tryz.prog 6))))) (filS2 s ⟨[(0,.one (qS lat)),(1,.one (qS lon))],[],0⟩) .ret (Fil2 ⟨[(4,.one (qB true))],[],0⟩):=
 ToP.run2 (z:=⟨false,false,false⟩) (n:=20000) (dec:=(ff 6 (tt 3 (nn 1 [])))) (mask:=(mskO 9 [])) (os:=(ra 3 (decide (lon < -100000),true) (ra 3 (decide (lat>100000),false) (ra 3 (decide (lat < -100000),false) [])))) (es:=[]) soundAX (fun dead=>by kernel_rfl) (ra_ok (decide_eq_true (by omega)) (ra_ok (decide_eq_false (by omega)) (ra_ok (decide_eq_false (by omega)) ae_nil _) _) _) aob_nil (fun s=>canB_ok (by kernel_rfl)) (by kernel_rfl)
theorem zu_l2d (s:Asg) {lat:Int} {lon:Int} (h0:¬(lat < -100000)) (h1:¬(lat>100000)) (h2:¬(lon < -100000)) (h3:lon>100000):ToP Tryz.prog 104 (c1 (c2 (c2 ((bodyF Tryz.prog 6))))) (filS2 s ⟨[(0,.one (qS lat)),(1,.one (qS lon))],[],0⟩) .ret (Fil2 ⟨[(4,.one (qB true))],[],0⟩):=
 ToP.run2 (z:=⟨false,false,false⟩) (n:=20000) (dec:=(ff 9 (tt 1 []))) (mask:=(mskO 10 [])) (os:=(ra 1 (decide (lon>100000),true) (ra 3 (decide (lon < -100000),false) (ra 3 (decide (lat>100000),false) (ra 3 (decide (lat < -100000),false) []))))) (es:=[]) soundAX (fun dead=>by kernel_rfl) (ra_ok (decide_eq_true (by omega)) (ra_ok (decide_eq_false (by omega)) (ra_ok (decide_eq_false (by omega)) (ra_ok (decide_eq_false (by omega)) ae_nil _) _) _) _) aob_nil (fun s=>canB_ok (by kernel_rfl)) (by kernel_rfl)
theorem zu_l2e (s:Asg) {lat:Int} {lon:Int} (h0:¬(lat < -100000)) (h1:¬(lat>100000)) (h2:¬(lon < -100000)) (h3:¬(lon>100000)):ToP Tryz.prog 104 (c1 (c2 (c2 ((bodyF Tryz.prog 6))))) (filS2 s ⟨[(0,.one (qS lat)),(1,.one (qS lon))],[],0⟩) .normal (Fil2 ⟨[(0,.one (qS lat)),(1,.one (qS lon))],[],0⟩):=
 ToP.run2 (z:=⟨false,false,false⟩) (n:=20000) (dec:=(ff 10 [])) (mask:=(mskO 10 [])) (os:=(ra 1 (decide (lon>100000),false) (ra 3 (decide (lon < -100000),false) (ra 3 (decide (lat>100000),false) (ra 3 (decide (lat < -100000),false) []))))) (es:=[.oi lat lat,.oi lon lon]) soundAX (fun dead=>by kernel_rfl) (ra_ok (decide_eq_false (by omega)) (ra_ok (decide_eq_false (by omega)) (ra_ok (decide_eq_false (by omega)) (ra_ok (decide_eq_false (by omega)) ae_nil _) _) _) _) (aob_cons rfl (aob_cons rfl aob_nil)) (fun s=>canB_ok (by kernel_rfl)) (by kernel_rfl)
theorem zu_l3 (s:Asg) {lat:Int} {lon:Int}:ToP Tryz.prog 104 (c1 (c2 (c2 (c2 ((bodyF Tryz.prog 6)))))) (filS2 s ⟨[(0,.one (qS lat)),(1,.one (qS lon))],[],0⟩) .normal (Fil2 ⟨[(0,.one (qS lat)),(1,.one (qS lon)),(5,.one (qL (.ptr 2 0)))],zuM37,3⟩):=
 ToP.run2 (z:=⟨false,false,false⟩) (n:=20000) (dec:=[]) (mask:=[]) (os:=[]) (es:=[.oi lat lat,.oi lon lon]) soundAT (fun dead=>by kernel_rfl) ae_nil (aob_cons rfl (aob_cons rfl aob_nil)) (fun s=>canB_ok (by kernel_rfl)) (by kernel_rfl)
def zuA0 (lat lon:Int):List LV:=[.v (.agg (filL2 (fun _=>0) (fun _=>false) 0 (zuPar))),I 0,.v (.agg [.int .i64 lat,.int .i64 lon,.int .i64 0,.int .i64 0,.int .i64 0,.int .i64 0,.int .i64 1000,.int .i64 100])]
theorem zu_l4a (s:Asg) {lat lon:Int}:ToO Tryz.prog 104 (opsOf (c1 (c2 (c2 (c2 (c2 ((bodyF Tryz.prog 6)))))))) 0 4 (filS2 s ⟨[(0,.one (qS lat)),(1,.one (qS lon)),(5,.one (qL (.ptr 2 0)))],zuM37,3⟩) (Fil2 ⟨[(0,.one (qS lat)),(1,.one (qS lon)),(5,.one (qL (.ptr 2 0))),(32,.agg (zuPar)),(35,.agg ([qS lat,qS lon,qI 0,qI 0,qI 0,qI 0,qI 1000,qI 100]))],zuM37,3⟩):=
 ToO.run2 (z:=⟨false,false,false⟩) (n:=20000) (dec:=[]) (mask:=[]) (os:=[]) (es:=[.oi lat lat,.oi lon lon,.oi lat lat,.oi lon lon]) soundAT (by kernel_rfl) (by kernel_rfl) (fun dead=>by kernel_rfl) ae_nil (aob_cons rfl (aob_cons rfl (aob_cons rfl (aob_cons rfl aob_nil)))) (fun s=>canB_ok (by kernel_rfl)) (by kernel_rfl)
theorem zu_fr (s:Asg) {lat lon:Int} (hn:SmH lat) (he:SmH lon):ToP Tryz.prog 108 ((bodyF Tryz.prog 14)) ⟨argsL 0 (zuA0 lat lon),[]++filM2 s zuM37,3⟩ .ret (fun y=>∃x,Fil2 ⟨[(6,.one (qL (.ptr 30 0)))],zuM36 lat lon,703⟩ x∧y=⟨x.live,x.mem++filM2 s zuM37,x.nb⟩):=
 ToP.frame (m:=[]) (zu_All s hn he) (canB_ok (by kernel_rfl)) (fun _ _=>rfl) (by rintro x ⟨t,rfl⟩ i hi;obtain rfl:=fr_one (j:=2) hi;kernel_rfl) (by rintro x ⟨t,rfl⟩;exact canB_ok (by kernel_rfl))
theorem zu_l4b (s:Asg) {lat lon:Int} (hn:SmH lat) (he:SmH lon):ToO Tryz.prog 104 (opsOf (c1 (c2 (c2 (c2 (c2 ((bodyF Tryz.prog 6)))))))) 4 1 (filS2 s ⟨[(0,.one (qS lat)),(1,.one (qS lon)),(5,.one (qL (.ptr 2 0))),(32,.agg (zuPar)),(35,.agg ([qS lat,qS lon,qI 0,qI 0,qI 0,qI 0,qI 1000,qI 100]))],zuM37,3⟩) (Fil2 ⟨[(36,.one (qL (.ptr 30 0))),(0,.one (qS lat)),(1,.one (qS lon)),(5,.one (qL (.ptr 2 0)))],zuM38 lat lon,703⟩):=
 (ToO.callK (sz:=104) (A:=filS2 s ⟨[(0,.one (qS lat)),(1,.one (qS lon)),(5,.one (qL (.ptr 2 0))),(32,.agg (zuPar)),(35,.agg ([qS lat,qS lon,qI 0,qI 0,qI 0,qI 0,qI 1000,qI 100]))],zuM37,3⟩) (t:=36) (f:=14) (args:=zuA0 lat lon) (e:= .ret) (v:=fun _=> .v (.one (.ptr 30 0))) soundAT [0,1,5] (fun dead=>by kernel_rfl) Tryz.func14 (by kernel_rfl) (by kernel_rfl) (by kernel_rfl) (by kernel_rfl) (zu_fr s hn he) (.inr rfl) (by rintro y ⟨x,⟨t,rfl⟩,rfl⟩ dead;kernel_rfl) (by rintro y ⟨x,⟨t,rfl⟩,rfl⟩;exact canB_ok (by kernel_rfl))).mono (by rintro z ⟨y,⟨x,⟨t,rfl⟩,rfl⟩,rfl⟩;exact ⟨t,by kernel_rfl⟩)
theorem zu_l4c (s:Asg) {lat lon:Int}:ToO Tryz.prog 104 (opsOf (c1 (c2 (c2 (c2 (c2 ((bodyF Tryz.prog 6)))))))) 5 1 (filS2 s ⟨[(36,.one (qL (.ptr 30 0))),(0,.one (qS lat)),(1,.one (qS lon)),(5,.one (qL (.ptr 2 0)))],zuM38 lat lon,703⟩) (Fil2 ⟨[(0,.one (qS lat)),(1,.one (qS lon)),(5,.one (qL (.ptr 2 0))),(6,.one (qL (.ptr 30 0)))],zuM38 lat lon,703⟩):=
 ToO.run2 (z:=⟨false,false,false⟩) (n:=20000) (dec:=[]) (mask:=[]) (os:=[]) (es:=[.oi lat lat,.oi lon lon,.oi (smN lat) (smN lat),.oi (smE lon) (smE lon)]) soundAT (by kernel_rfl) (by kernel_rfl) (fun dead=>by kernel_rfl) ae_nil (aob_cons rfl (aob_cons rfl (aob_cons rfl (aob_cons rfl aob_nil)))) (fun s=>canB_ok (by kernel_rfl)) (by kernel_rfl)
theorem zu_l4 (s:Asg) {lat lon:Int} (hn:SmH lat) (he:SmH lon):ToP Tryz.prog 104 (c1 (c2 (c2 (c2 (c2 ((bodyF Tryz.prog 6))))))) (filS2 s ⟨[(0,.one (qS lat)),(1,.one (qS lon)),(5,.one (qL (.ptr 2 0)))],zuM37,3⟩) .normal (Fil2 ⟨[(0,.one (qS lat)),(1,.one (qS lon)),(5,.one (qL (.ptr 2 0))),(6,.one (qL (.ptr 30 0)))],zuM38 lat lon,703⟩):=
 ToP.of_ToO (n:=6) (by kernel_rfl) (by kernel_rfl) (ToO.seq (m:=5) (m':=1) (ToO.seq (m:=4) (m':=1) (zu_l4a s) (by rintro x ⟨s,rfl⟩;exact zu_l4b s hn he)) (by rintro x ⟨s,rfl⟩;exact zu_l4c s))
theorem zu_x5 (s:Asg) {lat:Int} {lon:Int}:ToP Tryz.prog 104 (c1 (c2 (c2 (c2 (c2 (c2 ((bodyF Tryz.prog 6)))))))) (filS2 s ⟨[(0,.one (qS lat)),(1,.one (qS lon)),(5,.one (qL (.ptr 2 0))),(6,.one (qL (.ptr 30 0)))],zuM38 lat lon,703⟩) .normal (Fil2 ⟨[(0,.one (qS lat)),(1,.one (qS lon)),(5,.one (qL (.ptr 2 0))),(6,.one (qL (.ptr 30 0)))],zuM39 lat lon,703⟩):=
 ToP.run2 (z:=⟨false,false,false⟩) (n:=20000) (dec:=[]) (mask:=[]) (os:=[]) (es:=[.oi lat lat,.oi lon lon,.oi (smN lat) (smN lat),.oi (smE lon) (smE lon)]) soundAT (fun dead=>by kernel_rfl) ae_nil (aob_cons rfl (aob_cons rfl (aob_cons rfl (aob_cons rfl aob_nil)))) (fun s=>canB_ok (by kernel_rfl)) (by kernel_rfl)
theorem zu_x6 (s:Asg) {lat:Int} {lon:Int}:ToP Tryz.prog 104 (c1 (c2 (c2 (c2 (c2 (c2 (c2 ((bodyF Tryz.prog 6))))))))) (filS2 s ⟨[(0,.one (qS lat)),(1,.one (qS lon)),(5,.one (qL (.ptr 2 0))),(6,.one (qL (.ptr 30 0)))],zuM39 lat lon,703⟩) .normal (Fil2 ⟨[(0,.one (qS lat)),(1,.one (qS lon)),(6,.one (qL (.ptr 30 0))),(7,.one (qL (.ptr 707 0))),(8,.one (qI 0))],zuM40 lat lon,708⟩):=
 ToP.run2 (z:=⟨false,false,false⟩) (n:=20000) (dec:=[]) (mask:=[]) (os:=[]) (es:=[.oi lat lat,.oi lon lon,.oi (smN lat) (smN lat),.oi (smE lon) (smE lon)]) soundAT (fun dead=>by kernel_rfl) ae_nil (aob_cons rfl (aob_cons rfl (aob_cons rfl (aob_cons rfl aob_nil)))) (fun s=>canB_ok (by kernel_rfl)) (by kernel_rfl)
theorem zu_x7 (s:Asg) {lat:Int} {lon:Int}:ToP Tryz.prog 104 (c1 (c2 (c2 (c2 (c2 (c2 (c2 (c2 ((bodyF Tryz.prog 6)))))))))) (filS2 s ⟨[(0,.one (qS lat)),(1,.one (qS lon)),(6,.one (qL (.ptr 30 0))),(7,.one (qL (.ptr 707 0))),(8,.one (qI 0))],zuM40 lat lon,708⟩) .normal (Fil2 ⟨[(0,.one (qS lat)),(1,.one (qS lon)),(6,.one (qL (.ptr 30 0))),(7,.one (qL (.ptr 707 0))),(8,.one (qI 0)),(9,.one (qL (.ptr 708 0)))],zuM41 lat lon,709⟩):=
 ToP.run2 (z:=⟨false,false,false⟩) (n:=20000) (dec:=[]) (mask:=[]) (os:=[]) (es:=[.oi lat lat,.oi lon lon,.oi (smN lat) (smN lat),.oi (smE lon) (smE lon)]) soundAT (fun dead=>by kernel_rfl) ae_nil (aob_cons rfl (aob_cons rfl (aob_cons rfl (aob_cons rfl aob_nil)))) (fun s=>canB_ok (by kernel_rfl)) (by kernel_rfl)
theorem zu_x8 (s:Asg) {lat:Int} {lon:Int} (hn:SmH lat) (he:SmH lon):ToP Tryz.prog 104 (c1 (c2 (c2 (c2 (c2 (c2 (c2 (c2 (c2 ((bodyF Tryz.prog 6))))))))))) (filS2 s ⟨[(0,.one (qS lat)),(1,.one (qS lon)),(6,.one (qL (.ptr 30 0))),(7,.one (qL (.ptr 707 0))),(8,.one (qI 0)),(9,.one (qL (.ptr 708 0)))],zuM41 lat lon,709⟩) .normal (Fil2 ⟨[(6,.one (qL (.ptr 30 0))),(8,.one (qI 0)),(10,.one (qL (.ptr 712 0))),(11,.one (qI 0))],zuM42 lat lon,713⟩):=
 ToP.run2 (z:=⟨false,false,false⟩) (n:=20000) (dec:=[]) (mask:=(mskO 18 [])) (os:=(ra 1 (decide (wr .i64 (lon - 0)≤ -1800000000),false) (ra 1 (decide (wr .i64 (lon - 0)>1800000000),false) (ra 4 (decide (lon≤1800000000),true) (ra 4 (decide (lon≥ -1800000000),true) (ra 4 (decide (lat≤900000000),true) (ra 4 (decide (lat≥ -900000000),true) []))))))) (es:=[.oi (smN lat) (smN lat),.oi (smE lon) (smE lon),.oi (smN lat) (smN lat),.oi (smE lon) (smE lon)]) soundAT (fun dead=>by kernel_rfl) (ra_ok (decide_eq_false (by have:=hn.1;have:=hn.2;have:=he.1;have:=he.2;rw [Go.Lr.w1 (by omega)];omega)) (ra_ok (decide_eq_false (by have:=hn.1;have:=hn.2;have:=he.1;have:=he.2;rw [Go.Lr.w1 (by omega)];omega)) (ra_ok (decide_eq_true (by have:=hn.1;have:=hn.2;have:=he.1;have:=he.2;omega)) (ra_ok (decide_eq_true (by have:=hn.1;have:=hn.2;have:=he.1;have:=he.2;omega)) (ra_ok (decide_eq_true (by have:=hn.1;have:=hn.2;have:=he.1;have:=he.2;omega)) (ra_ok (decide_eq_true (by have:=hn.1;have:=hn.2;have:=he.1;have:=he.2;omega)) ae_nil _) _) _) _) _) _) (aob_cons rfl (aob_cons rfl (aob_cons rfl (aob_cons rfl aob_nil)))) (fun s=>canB_ok (by kernel_rfl)) (by kernel_rfl)
theorem zu_x9 (s:Asg) {lat:Int} {lon:Int}:ToP Tryz.prog 104 (c2 (c2 (c2 (c2 (c2 (c2 (c2 (c2 (c2 ((bodyF Tryz.prog 6))))))))))) (filS2 s ⟨[(6,.one (qL (.ptr 30 0))),(8,.one (qI 0)),(10,.one (qL (.ptr 712 0))),(11,.one (qI 0))],zuM42 lat lon,713⟩) .ret (Fil2 ⟨[(4,.one (qR (.bool true)))],[],713⟩):=
 ToP.run2 (z:=⟨false,false,false⟩) (n:=20000) (dec:=(nn 6 (tt 15 []))) (mask:=(mskO 15 [])) (os:=(ra 6 (decide (wr .i64 (smE lon - smE lon) > -107374182),true) (ra 3 (decide (wr .i64 (smE lon - smE lon)<107374182),true) (ra 3 (decide (wr .i64 (smN lat - smN lat) > -107374182),true) (ra 3 (decide (wr .i64 (smN lat - smN lat)<107374182),true) []))))) (es:=[.oa (.bool true) (.bool true)]) soundAT (fun dead=>by kernel_rfl) (ra_ok (by rw [Int.sub_self];kernel_rfl) (ra_ok (by rw [Int.sub_self];kernel_rfl) (ra_ok (by rw [Int.sub_self];kernel_rfl) (ra_ok (by rw [Int.sub_self];kernel_rfl) ae_nil _) _) _) _) (aob_cons rfl aob_nil) (fun s=>canB_ok (by kernel_rfl)) (by kernel_rfl)
abbrev zuF (y:Kst):Prop:=∃s j,y=filS2 s ⟨[(4,.one (qR (.bool true)))],[],j⟩
theorem zu_law (s:Asg) {lat lon:Int}:ToR Tryz.prog 104 0 ((bodyF Tryz.prog 6)) (filS2 s ⟨[(0,.one (qS lat)),(1,.one (qS lon))],[],0⟩) .ret zuF:=by
 refine ToR.seq (by kernel_rfl) (ToR.of_ToP (zu_l0 s) (by kernel_rfl)) ?_
 rintro x ⟨s,rfl⟩
 refine ToR.seq (by kernel_rfl) (ToR.of_ToP (zu_l1 s) (by kernel_rfl)) ?_
 rintro x ⟨s,rfl⟩
 by_cases h0:lat < -100000
 ·exact ToR.seq_out (by kernel_rfl) (by simp) ((ToR.of_ToP (zu_l2a s h0) (by kernel_rfl)).mono (by rintro x ⟨s,rfl⟩;exact ⟨s,0,rfl⟩))
 by_cases h1:lat>100000
 ·exact ToR.seq_out (by kernel_rfl) (by simp) ((ToR.of_ToP (zu_l2b s h0 h1) (by kernel_rfl)).mono (by rintro x ⟨s,rfl⟩;exact ⟨s,0,rfl⟩))
 by_cases h2:lon < -100000
 ·exact ToR.seq_out (by kernel_rfl) (by simp) ((ToR.of_ToP (zu_l2c s h0 h1 h2) (by kernel_rfl)).mono (by rintro x ⟨s,rfl⟩;exact ⟨s,0,rfl⟩))
 by_cases h3:lon>100000
 ·exact ToR.seq_out (by kernel_rfl) (by simp) ((ToR.of_ToP (zu_l2d s h0 h1 h2 h3) (by kernel_rfl)).mono (by rintro x ⟨s,rfl⟩;exact ⟨s,0,rfl⟩))
 have hn:SmH lat:=⟨by omega,by omega⟩
 have he:SmH lon:=⟨by omega,by omega⟩
 refine ToR.seq (by kernel_rfl) (ToR.of_ToP (zu_l2e s h0 h1 h2 h3) (by kernel_rfl)) ?_
 rintro x ⟨s,rfl⟩
 refine ToR.seq (by kernel_rfl) (ToR.of_ToP (zu_l3 s) (by kernel_rfl)) ?_
 rintro x ⟨s,rfl⟩
 refine ToR.seq (by kernel_rfl) (ToR.of_ToP (zu_l4 s hn he) (by kernel_rfl)) ?_
 rintro x ⟨s,rfl⟩
 refine ToR.seq (by kernel_rfl) (ToR.of_ToP (zu_x5 s) (by kernel_rfl)) ?_
 rintro x ⟨s,rfl⟩
 refine ToR.seq (by kernel_rfl) (ToR.of_ToP (zu_x6 s) (by kernel_rfl)) ?_
 rintro x ⟨s,rfl⟩
 refine ToR.seq (by kernel_rfl) (ToR.of_ToP (zu_x7 s) (by kernel_rfl)) ?_
 rintro x ⟨s,rfl⟩
 refine ToR.seq (by kernel_rfl) (ToR.of_ToP (zu_x8 s hn he) (by kernel_rfl)) ?_
 rintro x ⟨s,rfl⟩
 exact (ToR.of_ToP (zu_x9 s) (by kernel_rfl)).mono (by rintro x ⟨s,rfl⟩;exact ⟨s,_,rfl⟩)
def zu00:Asg:=⟨fun _ _=>0,fun _ _=>false,fun _ _=>0,fun _ _=>false⟩
theorem lawTopSums (lat lon:Int) (w:Go.World):Go.Calls Tryz.prog 6 ([I lat,I lon].map (LV.den E0)).toArray w fun e w'=>e = .returned (.bool true)∧Go.RowKit.Below w.heap.size w w':=by
 have h:ToR Tryz.prog 104 0 ((bodyF Tryz.prog 6)) ⟨argsL 0 [I lat,I lon],[],0⟩ .ret zuF:=zu_law (lat:=lat) (lon:=lon) zu00
 refine law_ToR (args:=[I lat,I lon]) (m:=[]) (nb:=0) (N:=0) (v:= .v (.one (.bool true))) Tryz.func6 (by kernel_rfl) (Nat.le_of_ble_eq_true (by kernel_rfl)) (Nat.le_of_ble_eq_true (by kernel_rfl)) ?_ rfl ?_ ?_ ?_ h ?_ rfl E0 w ⟨fun i b h=>by simp [getM] at h,fun i j h=>by simp [getM] at h⟩
 ·intro u hu;simp at hu;rcases hu with rfl | rfl <;> rfl
 ·exact fun i b h=>by simp [getM] at h
 ·exact fun i b h=>by simp [getM] at h
 ·exact fun i b h=>by simp [getM] at h
 ·rintro x ⟨s,j,rfl⟩
  exact ⟨fun dead=>by kernel_rfl,fun i b h=>by simp [getM] at h⟩
end Go.Proofs.YtnlhpaidmiogbaaGreat
