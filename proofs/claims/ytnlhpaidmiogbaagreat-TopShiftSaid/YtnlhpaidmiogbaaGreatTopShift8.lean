/- Joined texts. What each part proves stands ahead of it; no condition. -/
import Derived.Test.YtnlhpaidmiogbaaGreatLrM6

/- output.Correct by formula. -/
namespace Go.Proofs.YtnlhpaidmiogbaaGreat
open Go.Lr
set_option linter.unusedVariables false
def jhh (T q0 q1 q2 q3 v0 v1 v2 p0 p1 p2:Int):List At:=match jvl T q0 q1 q2 q3 v0 v1 v2 p0 p1 p2 0 0 0 0 0 0 0 0 0 0 0 0 0 0 with
 | .v (.agg l)=>l
 | _=>[]
def jwC (gn t0 t1 t2 t3 a0 a1 a2 b0 b1 b2:Int) (o:Nat→Int) (b:Nat):List At:=
 jhh (o b) (uV0 (mq0 t0 t1 t2 t3 (o (b+1)) (o (b+2)) (o (b+3)) (o (b+4))) (mq1 t0 t1 t2 t3 (o (b+1)) (o (b+2)) (o (b+3)) (o (b+4))) (mq2 t0 t1 t2 t3 (o (b+1)) (o (b+2)) (o (b+3)) (o (b+4))) (mq3 t0 t1 t2 t3 (o (b+1)) (o (b+2)) (o (b+3)) (o (b+4))))
  (uV1 (mq0 t0 t1 t2 t3 (o (b+1)) (o (b+2)) (o (b+3)) (o (b+4))) (mq1 t0 t1 t2 t3 (o (b+1)) (o (b+2)) (o (b+3)) (o (b+4))) (mq2 t0 t1 t2 t3 (o (b+1)) (o (b+2)) (o (b+3)) (o (b+4))) (mq3 t0 t1 t2 t3 (o (b+1)) (o (b+2)) (o (b+3)) (o (b+4))))
  (uV2 (mq0 t0 t1 t2 t3 (o (b+1)) (o (b+2)) (o (b+3)) (o (b+4))) (mq1 t0 t1 t2 t3 (o (b+1)) (o (b+2)) (o (b+3)) (o (b+4))) (mq2 t0 t1 t2 t3 (o (b+1)) (o (b+2)) (o (b+3)) (o (b+4))) (mq3 t0 t1 t2 t3 (o (b+1)) (o (b+2)) (o (b+3)) (o (b+4))))
  (uV3 (mq0 t0 t1 t2 t3 (o (b+1)) (o (b+2)) (o (b+3)) (o (b+4))) (mq1 t0 t1 t2 t3 (o (b+1)) (o (b+2)) (o (b+3)) (o (b+4))) (mq2 t0 t1 t2 t3 (o (b+1)) (o (b+2)) (o (b+3)) (o (b+4))) (mq3 t0 t1 t2 t3 (o (b+1)) (o (b+2)) (o (b+3)) (o (b+4))))
  (fI2 (o (b+5)) (ko a0 gn 30)) (fI2 (o (b+6)) (ko a1 gn 30)) (fI2 (o (b+7)) (ko a2 gn 30)) (fI2 (o (b+8)) (ko b0 gn 30)) (fI2 (o (b+9)) (ko b1 gn 30)) (fI2 (o (b+10)) (ko b2 gn 30))
def Jf (f:Nat→List At):Nat→Nat→List At
 | 0,_=>[]
 | m+1,b=>f b++Jf f m (b+11)
def cvT (gn t0 r1 r2 r3 a0 a1 a2 b0 b1 b2:Int) (o:Nat→Int) (m:Nat):List At:=
 Jf (jwC gn (uV0 t0 (ko gn r1 30) (ko gn r2 30) (ko gn r3 30)) (uV1 t0 (ko gn r1 30) (ko gn r2 30) (ko gn r3 30)) (uV2 t0 (ko gn r1 30) (ko gn r2 30) (ko gn r3 30)) (uV3 t0 (ko gn r1 30) (ko gn r2 30) (ko gn r3 30)) a0 a1 a2 b0 b1 b2 o) m 0
def cvE (gn e0 e1 e2 e3 v0 v1 v2 p0 p1 p2:Int) (o:Nat→Int) (m a:Nat):List At:=
 cvT gn 1073741824 (mq1 e0 e1 e2 e3 (jc (o (a+1))) (wr .i64 (0 - jc (o (a+2)))) (wr .i64 (0 - jc (o (a+3)))) (wr .i64 (0 - jc (o (a+4))))) (mq2 e0 e1 e2 e3 (jc (o (a+1))) (wr .i64 (0 - jc (o (a+2)))) (wr .i64 (0 - jc (o (a+3)))) (wr .i64 (0 - jc (o (a+4))))) (mq3 e0 e1 e2 e3 (jc (o (a+1))) (wr .i64 (0 - jc (o (a+2)))) (wr .i64 (0 - jc (o (a+3)))) (wr .i64 (0 - jc (o (a+4)))))
  (xW v0 (o (a+5))) (xW v1 (o (a+6))) (xW v2 (o (a+7))) (xW p0 (o (a+8))) (xW p1 (o (a+9))) (xW p2 (o (a+10))) o m
def cvS (gn:Int) (s o:Nat→Int) (m a:Nat):List At:=match jvl 0 (s 0) (s 1) (s 2) (s 3) (s 4) (s 5) (s 6) (s 7) (s 8) (s 9) (s 10) (s 11) (s 12) (s 13) (s 14) (s 15) (s 16) (s 17) (s 18) (s 19) (s 20) (s 21) (s 22) (s 23) with
 | .v (.agg [_,.int .i64 e0,.int .i64 e1,.int .i64 e2,.int .i64 e3,.int .i64 v0,.int .i64 v1,.int .i64 v2,.int .i64 p0,.int .i64 p1,.int .i64 p2])=>cvE gn e0 e1 e2 e3 v0 v1 v2 p0 p1 p2 o m a
 | _=>[]
def jm9 (es:Nat) (l:List At):ShX:=fun v b=>(I 0,[(0,some (flag 61 (b 0))),(1,some ⟨79,(0,0),es,l⟩)])
def cvA (t:Int) (o:Nat→Int):Nat→List (Bool×Bool)
 | 0=>[]
 | m+1=>(decide (o (11*m)≤t),true)::cvA t o m
def cvB (t:Int) (o:Nat→Int) (m:Nat):Nat→List (Bool×Bool)→List (Bool×Bool)
 | 0,l=>l
 | d+1,l=>cvB t o m d ((decide (o (11*(m - (d+1)))≤t),false)::l)
def jvb (d:Nat) (t:Int) (o s:Nat→Int) (m:Nat):List (Bool×Bool):=ra 3 (coR (s 0) (s 1) (s 2) (s 3) (o (11*(m - d) - 10)) (o (11*(m - d) - 9)) (o (11*(m - d) - 8)) (o (11*(m - d) - 7)),false) (cvB t o m d (cvA t o (m - d)))
def cvK (lo hi:Nat) (es:Nat) (sl:At) (cells:List At):Option Nat:=match sl with
 | .sl b o l c=>match Yk [b,o,l,c,es,lo] [1,0,1,1,0,1],qM cells 11 with
  | true,true=>some 1
  | _,_=>none
 | .slu b m=>match Yk [b,es] [1,11],Nat.ble lo m,Nat.ble m hi,Nat.ble 2 m,qM cells (11*m) with
  | true,true,true,true,true=>some m
  | _,_,_,_,_=>none
 | _=>none
def cvF (d lo hi:Nat):List LV→List Nat→List Blk→Nat→Option (List (Bool×Bool)×ShX):=fun args seen ks nb=>
 match args,ks with
 | [.v (.one (.ptr p po)),.v (.one (.ptr c co)),.v (.agg s),.v (.one (.int .i64 t))],[⟨tf,(f1,f2),ef,[.bool h]⟩,⟨tt,(o1,o2),es,cells⟩,⟨tp,(p1,p2),ep,[.int .i64 z,.int .i64 gn,sl]⟩]=>
  match Yk [p,po,c,co,tf,f1,f2,ef,tt,o1,o2,tp,p1,p2,ep,nb] [2,0,0,0,61,0,0,0,79,0,0,210,0,0,0,3],Yk seen [0,1,2],qM s 24,cvK lo hi es sl cells with
  | true,true,true,some m=>some (jvb d t (jo cells) (jo s) m,jm9 es (cvS gn (jo s) (jo cells) m (11*(m - d - 1))))
  | _,_,_,_=>none
 | _,_=>none
def jBM:Nat→List (Option Bool)→List (Option Bool)
 | 0,l=>l
 | m+1,l=>none::some false::jBM m l
noncomputable abbrev jvc (d m:Nat) (o s:Nat→Int) (z gn t:Int) (h:Bool):Option Dl:=kN Tryz.prog KC2 Zl 4000 108 (jwp (m - d) (jBM d (nn 3 (some false::none::some false::none::some false::[])))) (ju9 s t) [0,1,2] (jva m o z gn h) 3
def cvL (m:Nat) (R:Option Dl):Option (LV×List (Nat×Option Blk)×List (Bool×Bool))×Bool:=(R.bind (fun d=>(yk (zY (3+m) []) d.cs).map (fun os=>(d.val,d.wr,os))),R.isSome)
def cvR (d m:Nat) (gn:Int) (s o:Nat→Int) (os:List (Bool×Bool)) (R:Option Dl):Option (LV×List (Nat×Option Blk)×List (Bool×Bool))×Bool:=(R.map (fun x=>((jm9 (coE m) (cvS gn s o m (11*(m - d - 1))) (fun _=>0) (coG x.wr)).1,(jm9 (coE m) (cvS gn s o m (11*(m - d - 1))) (fun _=>0) (coG x.wr)).2,os)),true)
def jDn (d m:Nat) (o s:Nat→Int) (z gn t:Int) (h:Bool):Prop:=∃v b nw,GenAt Tryz.prog 108 (ju9 s t) [0,1,2] (jva m o z gn h) 3 ⟨(jm9 (coE m) (cvS gn s o m (11*(m - d - 1))) v b).1,(jm9 (coE m) (cvS gn s o m (11*(m - d - 1))) v b).2,nw,[],[]⟩
theorem jel {d m:Nat} {o s:Nat→Int} {z gn t:Int} {h:Bool} (ht:cvL m (jvc d m o s z gn t h)=cvR d m gn s o (jvb d t o s m) (jvc d m o s z gn t h)) (hc:∀c∈jvb d t o s m,c.1=c.2):jDn d m o s z gn t h:=
 GenAt.of_run (Sh:=jm9 (coE m) (cvS gn s o m (11*(m - d - 1)))) (vw:=fun _ _=>0) (bw:=coG) j5 (jg j5 Tryz.func108 (by kernel_rfl)) ht hc
def qm (d m:Nat):Prop:=∀(o s:Nat→Int) (z gn t:Int) (h:Bool),cvL m (jvc d m o s z gn t h)=cvR d m gn s o (jvb d t o s m) (jvc d m o s z gn t h)
theorem jna {d lo hi:Nat} (H:∀m,lo≤m→m≤hi→qm d m) (hh:1≤hi):GenOK Tryz.prog 108 (Xq Tryz.prog 108 (cvF d lo hi)):=by
 refine YG fun args seen ks nb cs Sh hF hc=> ?_
 unfold cvF at hF
 split at hF
 ·rename_i p po c co s t tf f1 f2 ef h tt o1 o2 es cells tp p1 p2 ep z gn sl
  split at hF
  ·rename_i m g1 g2 g3 g4
   cases hF
   have e1:=qA g1
   have e2:=qA g2
   simp only [List.cons.injEq,and_true] at e1
   obtain ⟨rfl,rfl,rfl,rfl,rfl,rfl,rfl,rfl,rfl,rfl,rfl,rfl,rfl,rfl,rfl,rfl⟩:=e1
   subst e2
   have es':=(j6 g3).eq
   rw [←kl] at es'
   obtain ⟨s',hs1,hs2⟩:∃s',s=mkI s' 0 24∧jo s=s':=⟨jo s,es',rfl⟩
   rw [hs2] at hc ⊢
   rw [hs1]
   unfold cvK at g4
   split at g4
   ·rename_i b o l c
    split at g4
    ·rename_i q1 q2
     have e3:=qA q1
     simp only [List.cons.injEq,and_true] at e3
     obtain ⟨rfl,rfl,rfl,rfl,rfl,rfl⟩:=e3
     have ec:=(j6 q2).eq
     rw [←kl] at ec
     simp only [Option.some.injEq] at g4
     subst g4
     obtain ⟨k,hk1,hk2⟩:∃k,cells=mkI k 0 11∧jo cells=k:=⟨jo cells,ec,rfl⟩
     rw [hk2] at hc ⊢
     rw [hk1]
     exact jel (H 1 (Nat.le_refl 1) hh _ _ _ _ _ _) hc
    ·cases g4
   ·rename_i b m'
    split at g4
    ·rename_i q1 q2 q3 q5 q4
     have e3:=qA q1
     simp only [List.cons.injEq,and_true] at e3
     obtain ⟨rfl,rfl⟩:=e3
     have q2:=Nat.le_of_ble_eq_true q2
     have q3:=Nat.le_of_ble_eq_true q3
     have q5:=Nat.le_of_ble_eq_true q5
     have ec:=(j6 q4).eq
     rw [←kl] at ec
     simp only [Option.some.injEq] at g4
     subst g4
     obtain ⟨k,hk1,hk2⟩:∃k,cells=mkI k 0 (11*m')∧jo cells=k:=⟨jo cells,ec,rfl⟩
     rw [hk2] at hc ⊢
     rw [hk1]
     obtain ⟨m0,rfl⟩:∃m0,m'=m0+2:=⟨m' - 2,by omega⟩
     exact jel (H _ q2 q3 _ _ _ _ _ _) hc
    ·cases g4
   ·cases g4
  ·cases hF
 ·cases hF
theorem jwD:qm 0 1:=fun o s z gn t h=>by kernel_rfl
theorem jwE:qm 0 2:=fun o s z gn t h=>by kernel_rfl
theorem jwF:qm 0 3:=fun o s z gn t h=>by kernel_rfl
theorem jwG:qm 0 4:=fun o s z gn t h=>by kernel_rfl
theorem jwH:qm 0 5:=fun o s z gn t h=>by kernel_rfl
theorem jwI:qm 0 6:=fun o s z gn t h=>by kernel_rfl
theorem jwJ:GenOK Tryz.prog 108 (Xq Tryz.prog 108 (cvF 0 1 6)):=jna (fun m h1 h2=>by
 obtain rfl | rfl | rfl | rfl | rfl | rfl:m=1∨m=2∨m=3∨m=4∨m=5∨m=6:=by omega
 ·exact jwD
 ·exact jwE
 ·exact jwF
 ·exact jwG
 ·exact jwH
 ·exact jwI) (by decide)
noncomputable def jBN:List LV→List Nat→List Blk→Nat→Option Dl:=kA (xY 1 61 (jek (Xq Tryz.prog 108 (cvF 0 1 6)))) (kA (xY 1 61 (jS Tryz.prog KC2 Zl 4000 108)) (jS Tryz.prog KC2 Zl 4000 108))
theorem jkh:GenOK Tryz.prog 108 jBN:=jK (jY (yC jwJ)) (jK (jY (jl j5 (jg j5 Tryz.func108 (by kernel_rfl)))) (jl j5 (jg j5 Tryz.func108 (by kernel_rfl))))
theorem jwK:qm 1 2:=fun o s z gn t h=>by kernel_rfl
theorem jwL:qm 1 3:=fun o s z gn t h=>by kernel_rfl
theorem jwM:qm 1 4:=fun o s z gn t h=>by kernel_rfl
theorem jwN:qm 1 5:=fun o s z gn t h=>by kernel_rfl
theorem jwO:qm 1 6:=fun o s z gn t h=>by kernel_rfl
theorem jwP:qm 1 7:=fun o s z gn t h=>by kernel_rfl
theorem jwQ:qm 1 8:=fun o s z gn t h=>by kernel_rfl
theorem jwR:qm 1 9:=fun o s z gn t h=>by kernel_rfl
theorem jwS:GenOK Tryz.prog 108 (Xq Tryz.prog 108 (cvF 1 2 9)):=jna (fun m h1 h2=>by
 obtain rfl | rfl | rfl | rfl | rfl | rfl | rfl | rfl:m=2∨m=3∨m=4∨m=5∨m=6∨m=7∨m=8∨m=9:=by omega
 ·exact jwK
 ·exact jwL
 ·exact jwM
 ·exact jwN
 ·exact jwO
 ·exact jwP
 ·exact jwQ
 ·exact jwR) (by decide)
noncomputable def jBO:List LV→List Nat→List Blk→Nat→Option Dl:=kA (xY 1 61 (jek (Xq Tryz.prog 108 (cvF 1 2 9)))) (kA (xY 1 61 (jS Tryz.prog KC2 Zl 4000 108)) (jS Tryz.prog KC2 Zl 4000 108))
theorem jki:GenOK Tryz.prog 108 jBO:=jK (jY (yC jwS)) (jK (jY (jl j5 (jg j5 Tryz.func108 (by kernel_rfl)))) (jl j5 (jg j5 Tryz.func108 (by kernel_rfl))))
theorem jwT:qm 2 3:=fun o s z gn t h=>by kernel_rfl
theorem jwU:qm 2 4:=fun o s z gn t h=>by kernel_rfl
theorem jwV:qm 2 5:=fun o s z gn t h=>by kernel_rfl
theorem jwW:qm 2 6:=fun o s z gn t h=>by kernel_rfl
theorem jwX:qm 2 7:=fun o s z gn t h=>by kernel_rfl
theorem jwY:qm 2 8:=fun o s z gn t h=>by kernel_rfl
theorem jwZ:qm 2 9:=fun o s z gn t h=>by kernel_rfl
theorem jnV:qm 2 10:=fun o s z gn t h=>by kernel_rfl
theorem jnW:qm 2 11:=fun o s z gn t h=>by kernel_rfl
theorem jnX:qm 2 12:=fun o s z gn t h=>by kernel_rfl
theorem jw0:GenOK Tryz.prog 108 (Xq Tryz.prog 108 (cvF 2 3 12)):=jna (fun m h1 h2=>by
 obtain rfl | rfl | rfl | rfl | rfl | rfl | rfl | rfl | rfl | rfl:m=3∨m=4∨m=5∨m=6∨m=7∨m=8∨m=9∨m=10∨m=11∨m=12:=by omega
 ·exact jwT
 ·exact jwU
 ·exact jwV
 ·exact jwW
 ·exact jwX
 ·exact jwY
 ·exact jwZ
 ·exact jnV
 ·exact jnW
 ·exact jnX) (by decide)
noncomputable def jBP:List LV→List Nat→List Blk→Nat→Option Dl:=kA (xY 1 61 (jek (Xq Tryz.prog 108 (cvF 2 3 12)))) (kA (xY 1 61 (jS Tryz.prog KC2 Zl 4000 108)) (jS Tryz.prog KC2 Zl 4000 108))
theorem jkj:GenOK Tryz.prog 108 jBP:=jK (jY (yC jw0)) (jK (jY (jl j5 (jg j5 Tryz.func108 (by kernel_rfl)))) (jl j5 (jg j5 Tryz.func108 (by kernel_rfl))))
theorem jw1:qm 3 4:=fun o s z gn t h=>by kernel_rfl
theorem jw2:qm 3 5:=fun o s z gn t h=>by kernel_rfl
theorem jw3:qm 3 6:=fun o s z gn t h=>by kernel_rfl
theorem jw4:qm 3 7:=fun o s z gn t h=>by kernel_rfl
theorem jw5:qm 3 8:=fun o s z gn t h=>by kernel_rfl
theorem jw6:qm 3 9:=fun o s z gn t h=>by kernel_rfl
theorem jnY:qm 3 10:=fun o s z gn t h=>by kernel_rfl
theorem jnZ:qm 3 11:=fun o s z gn t h=>by kernel_rfl
theorem jn0:qm 3 12:=fun o s z gn t h=>by kernel_rfl
theorem jn1:qm 3 13:=fun o s z gn t h=>by kernel_rfl
theorem jn2:qm 3 14:=fun o s z gn t h=>by kernel_rfl
theorem jn3:qm 3 15:=fun o s z gn t h=>by kernel_rfl
theorem jw7:GenOK Tryz.prog 108 (Xq Tryz.prog 108 (cvF 3 4 15)):=jna (fun m h1 h2=>by
 obtain rfl | rfl | rfl | rfl | rfl | rfl | rfl | rfl | rfl | rfl | rfl | rfl:m=4∨m=5∨m=6∨m=7∨m=8∨m=9∨m=10∨m=11∨m=12∨m=13∨m=14∨m=15:=by omega
 ·exact jw1
 ·exact jw2
 ·exact jw3
 ·exact jw4
 ·exact jw5
 ·exact jw6
 ·exact jnY
 ·exact jnZ
 ·exact jn0
 ·exact jn1
 ·exact jn2
 ·exact jn3) (by decide)
noncomputable def jBQ:List LV→List Nat→List Blk→Nat→Option Dl:=kA (xY 1 61 (jek (Xq Tryz.prog 108 (cvF 3 4 15)))) (kA (xY 1 61 (jS Tryz.prog KC2 Zl 4000 108)) (jS Tryz.prog KC2 Zl 4000 108))
theorem jkk:GenOK Tryz.prog 108 jBQ:=jK (jY (yC jw7)) (jK (jY (jl j5 (jg j5 Tryz.func108 (by kernel_rfl)))) (jl j5 (jg j5 Tryz.func108 (by kernel_rfl))))
theorem jw8:qm 4 5:=fun o s z gn t h=>by kernel_rfl
theorem jw9:qm 4 6:=fun o s z gn t h=>by kernel_rfl
theorem jxa:qm 4 7:=fun o s z gn t h=>by kernel_rfl
theorem jxb:qm 4 8:=fun o s z gn t h=>by kernel_rfl
theorem jxc:qm 4 9:=fun o s z gn t h=>by kernel_rfl
theorem jn4:qm 4 10:=fun o s z gn t h=>by kernel_rfl
theorem jn5:qm 4 11:=fun o s z gn t h=>by kernel_rfl
theorem jn6:qm 4 12:=fun o s z gn t h=>by kernel_rfl
theorem jn7:qm 4 13:=fun o s z gn t h=>by kernel_rfl
theorem jn8:qm 4 14:=fun o s z gn t h=>by kernel_rfl
theorem jn9:qm 4 15:=fun o s z gn t h=>by kernel_rfl
theorem joa:qm 4 16:=fun o s z gn t h=>by kernel_rfl
theorem job:qm 4 17:=fun o s z gn t h=>by kernel_rfl
theorem joc:qm 4 18:=fun o s z gn t h=>by kernel_rfl
theorem jxd:GenOK Tryz.prog 108 (Xq Tryz.prog 108 (cvF 4 5 18)):=jna (fun m h1 h2=>by
 obtain rfl | rfl | rfl | rfl | rfl | rfl | rfl | rfl | rfl | rfl | rfl | rfl | rfl | rfl:m=5∨m=6∨m=7∨m=8∨m=9∨m=10∨m=11∨m=12∨m=13∨m=14∨m=15∨m=16∨m=17∨m=18:=by omega
 ·exact jw8
 ·exact jw9
 ·exact jxa
 ·exact jxb
 ·exact jxc
 ·exact jn4
 ·exact jn5
 ·exact jn6
 ·exact jn7
 ·exact jn8
 ·exact jn9
 ·exact joa
 ·exact job
 ·exact joc) (by decide)
noncomputable def jBR:List LV→List Nat→List Blk→Nat→Option Dl:=kA (xY 1 61 (jek (Xq Tryz.prog 108 (cvF 4 5 18)))) (kA (xY 1 61 (jS Tryz.prog KC2 Zl 4000 108)) (jS Tryz.prog KC2 Zl 4000 108))
theorem jkl:GenOK Tryz.prog 108 jBR:=jK (jY (yC jxd)) (jK (jY (jl j5 (jg j5 Tryz.func108 (by kernel_rfl)))) (jl j5 (jg j5 Tryz.func108 (by kernel_rfl))))
theorem jxe:qm 5 6:=fun o s z gn t h=>by kernel_rfl
theorem jxf:qm 5 7:=fun o s z gn t h=>by kernel_rfl
theorem jxg:qm 5 8:=fun o s z gn t h=>by kernel_rfl
theorem jxh:qm 5 9:=fun o s z gn t h=>by kernel_rfl
theorem jod:qm 5 10:=fun o s z gn t h=>by kernel_rfl
theorem joe:qm 5 11:=fun o s z gn t h=>by kernel_rfl
theorem jof:qm 5 12:=fun o s z gn t h=>by kernel_rfl
theorem jog:qm 5 13:=fun o s z gn t h=>by kernel_rfl
theorem joh:qm 5 14:=fun o s z gn t h=>by kernel_rfl
theorem joi:qm 5 15:=fun o s z gn t h=>by kernel_rfl
theorem joj:qm 5 16:=fun o s z gn t h=>by kernel_rfl
theorem jok:qm 5 17:=fun o s z gn t h=>by kernel_rfl
theorem jol:qm 5 18:=fun o s z gn t h=>by kernel_rfl
theorem jom:qm 5 19:=fun o s z gn t h=>by kernel_rfl
theorem jon:qm 5 20:=fun o s z gn t h=>by kernel_rfl
theorem joo:qm 5 21:=fun o s z gn t h=>by kernel_rfl
theorem jxi:GenOK Tryz.prog 108 (Xq Tryz.prog 108 (cvF 5 6 21)):=jna (fun m h1 h2=>by
 obtain rfl | rfl | rfl | rfl | rfl | rfl | rfl | rfl | rfl | rfl | rfl | rfl | rfl | rfl | rfl | rfl:m=6∨m=7∨m=8∨m=9∨m=10∨m=11∨m=12∨m=13∨m=14∨m=15∨m=16∨m=17∨m=18∨m=19∨m=20∨m=21:=by omega
 ·exact jxe
 ·exact jxf
 ·exact jxg
 ·exact jxh
 ·exact jod
 ·exact joe
 ·exact jof
 ·exact jog
 ·exact joh
 ·exact joi
 ·exact joj
 ·exact jok
 ·exact jol
 ·exact jom
 ·exact jon
 ·exact joo) (by decide)
noncomputable def jBS:List LV→List Nat→List Blk→Nat→Option Dl:=kA (xY 1 61 (jek (Xq Tryz.prog 108 (cvF 5 6 21)))) (kA (xY 1 61 (jS Tryz.prog KC2 Zl 4000 108)) (jS Tryz.prog KC2 Zl 4000 108))
theorem jkm:GenOK Tryz.prog 108 jBS:=jK (jY (yC jxi)) (jK (jY (jl j5 (jg j5 Tryz.func108 (by kernel_rfl)))) (jl j5 (jg j5 Tryz.func108 (by kernel_rfl))))
end Go.Proofs.YtnlhpaidmiogbaaGreat

/- output.Shift by formula (its flag is chosen). -/
namespace Go.Proofs.YtnlhpaidmiogbaaGreat
open Go.Lr
set_option linter.unusedVariables false
noncomputable def KS1:FuncId→Option SumK:=moreG KC1 176 (jS Tryz.prog KC1 Zl 4000 176)
theorem z9:Sound Tryz.prog KS1:=soundKC1.moreG (jl soundKC1 (jg soundKC1 Tryz.func176 (by kernel_rfl)))
def svQ (f:Int→Int→Int→Int→Int) (b:Nat) (o:Nat→Int):Int:=f (mq0 1073741824 0 0 77 (o (b+1)) (o (b+2)) (o (b+3)) (o (b+4))) (mq1 1073741824 0 0 77 (o (b+1)) (o (b+2)) (o (b+3)) (o (b+4))) (mq2 1073741824 0 0 77 (o (b+1)) (o (b+2)) (o (b+3)) (o (b+4))) (mq3 1073741824 0 0 77 (o (b+1)) (o (b+2)) (o (b+3)) (o (b+4)))
def svY (d o:Nat→Int) (b:Nat):List At:=jhh (o b) (svQ uV0 b o) (svQ uV1 b o) (svQ uV2 b o) (svQ uV3 b o) (fI2 (o (b+5)) (d 4)) (fI2 (o (b+6)) (d 5)) (fI2 (o (b+7)) (d 6)) (fI2 (o (b+8)) (d 7)) (fI2 (o (b+9)) (d 8)) (fI2 (o (b+10)) (d 9))
def svG (d o:Nat→Int) (b:Nat):List At:=match jhh (o b) (o (b+1)) (o (b+2)) (o (b+3)) (o (b+4)) (fI2 (o (b+5)) (d 4)) (fI2 (o (b+6)) (d 5)) (fI2 (o (b+7)) (d 6)) (fI2 (o (b+8)) (d 7)) (fI2 (o (b+9)) (d 8)) (fI2 (o (b+10)) (d 9)) with
 | [.int .i64 t,.int .i64 q0,.int .i64 q1,.int .i64 q2,.int .i64 q3,.int .i64 v0,.int .i64 v1,.int .i64 v2,.int .i64 p0,.int .i64 p1,.int .i64 p2]=>jhh t q0 q1 q2 q3 (fI2 v0 (d 14)) (fI2 v1 (d 15)) (fI2 v2 (d 16)) (fI2 p0 (d 17)) (fI2 p1 (d 18)) (fI2 p2 (d 19))
 | l=>l
def jlK (l:List At):ShX:=fun v b=>(.tup [],[(1,some (flag 61 (b 0))),(2,some ⟨79,(0,0),11,l⟩)])
def jB8 (j:Nat):List LV:=[.v (.one (.ptr 3 0)),.v (.one (.ptr 1 0)),.v (.one (.slu 0 j))]
def jB9 (dc:List At) (m:Nat) (o:Nat→Int) (z gn:Int) (h:Bool):List Blk:=[⟨39,(0,0),10,dc⟩,flag 61 h,⟨79,(0,0),11,mkI o 0 (11*m)⟩,⟨210,(0,0),0,[.int .i64 z,.int .i64 gn,.slu 2 m]⟩]
noncomputable abbrev KW (j:Nat) (dc:List At) (m:Nat) (o:Nat→Int) (z gn:Int) (h:Bool):Option Dl:=kN Tryz.prog KS1 Zl 4000 106 [] (jB8 j) [0,1,2,3] (jB9 dc m o z gn h) 4
def shL (k:Nat) (R:Option Dl):Option (LV×List (Nat×Option Blk)×List (Bool×Bool))×Bool:=(R.bind (fun d=>(yk (xL k []) d.cs).map (fun os=>(d.val,d.wr,os))),R.isSome)
def shQ (l:List At) (R:Option Dl):Option (LV×List (Nat×Option Blk)×List (Bool×Bool))×Bool:=(R.map (fun x=>((jlK l (fun _=>0) (coG x.wr)).1,(jlK l (fun _=>0) (coG x.wr)).2,[])),true)
def shY (d:Nat→Int):List At:=[.int .i64 1073741824,.int .i64 0,.int .i64 0,.int .i64 77,.int .i64 (d 4),.int .i64 (d 5),.int .i64 (d 6),.int .i64 (d 7),.int .i64 (d 8),.int .i64 (d 9)]
def shG (d:Nat→Int):List At:=[.int .i64 1073741824,.int .i64 0,.int .i64 0,.int .i64 0,.int .i64 (d 4),.int .i64 (d 5),.int .i64 (d 6),.int .i64 (d 7),.int .i64 (d 8),.int .i64 (d 9),.int .i64 1073741824,.int .i64 0,.int .i64 0,.int .i64 0,.int .i64 (d 14),.int .i64 (d 15),.int .i64 (d 16),.int .i64 (d 17),.int .i64 (d 18),.int .i64 (d 19)]
theorem jEf (d o:Nat→Int) (z gn:Int) (h:Bool):shL 0 (KW 1 (shY d) 3 o z gn h)=shQ (Jf (svY d o) 3 0) (KW 1 (shY d) 3 o z gn h):=by kernel_rfl
theorem jEg (d o:Nat→Int) (z gn:Int) (h:Bool):shL 0 (KW 1 (shY d) 5 o z gn h)=shQ (Jf (svY d o) 5 0) (KW 1 (shY d) 5 o z gn h):=by kernel_rfl
theorem jEh (d o:Nat→Int) (z gn:Int) (h:Bool):shL 0 (KW 1 (shY d) 7 o z gn h)=shQ (Jf (svY d o) 7 0) (KW 1 (shY d) 7 o z gn h):=by kernel_rfl
theorem jEi (d o:Nat→Int) (z gn:Int) (h:Bool):shL 0 (KW 1 (shY d) 9 o z gn h)=shQ (Jf (svY d o) 9 0) (KW 1 (shY d) 9 o z gn h):=by kernel_rfl
theorem jyK (d o:Nat→Int) (z gn:Int) (h:Bool):shL 0 (KW 1 (shY d) 11 o z gn h)=shQ (Jf (svY d o) 11 0) (KW 1 (shY d) 11 o z gn h):=by kernel_rfl
theorem jyL (d o:Nat→Int) (z gn:Int) (h:Bool):shL 0 (KW 1 (shY d) 13 o z gn h)=shQ (Jf (svY d o) 13 0) (KW 1 (shY d) 13 o z gn h):=by kernel_rfl
theorem jEj (d o:Nat→Int) (z gn:Int) (h:Bool):shL 0 (KW 2 (shG d) 5 o z gn h)=shQ (Jf (svG d o) 5 0) (KW 2 (shG d) 5 o z gn h):=by kernel_rfl
theorem jEk (d o:Nat→Int) (z gn:Int) (h:Bool):shL 0 (KW 2 (shG d) 8 o z gn h)=shQ (Jf (svG d o) 8 0) (KW 2 (shG d) 8 o z gn h):=by kernel_rfl
theorem jyM (d o:Nat→Int) (z gn:Int) (h:Bool):shL 0 (KW 2 (shG d) 11 o z gn h)=shQ (Jf (svG d o) 11 0) (KW 2 (shG d) 11 o z gn h):=by kernel_rfl
theorem jyN (d o:Nat→Int) (z gn:Int) (h:Bool):shL 0 (KW 2 (shG d) 14 o z gn h)=shQ (Jf (svG d o) 14 0) (KW 2 (shG d) 14 o z gn h):=by kernel_rfl
theorem jyO (d o:Nat→Int) (z gn:Int) (h:Bool):shL 0 (KW 2 (shG d) 17 o z gn h)=shQ (Jf (svG d o) 17 0) (KW 2 (shG d) 17 o z gn h):=by kernel_rfl
theorem jyP (d o:Nat→Int) (z gn:Int) (h:Bool):shL 0 (KW 2 (shG d) 20 o z gn h)=shQ (Jf (svG d o) 20 0) (KW 2 (shG d) 20 o z gn h):=by kernel_rfl
def jyQ (cells:List At):List (Bool×Bool):=[(decide (jo cells 0=1073741824),true),(decide (jo cells 1=0),true),(decide (jo cells 2=0),true),(decide (jo cells 3=77),true)]
def jyR (cells:List At):List (Bool×Bool):=[(decide (jo cells 0=1073741824),true),(decide (jo cells 1=0),true),(decide (jo cells 2=0),true),(decide (jo cells 3=0),true),(decide (jo cells 10=1073741824),true),(decide (jo cells 11=0),true),(decide (jo cells 12=0),true),(decide (jo cells 13=0),true)]
def jEl (j:Nat) (dc:List At) (m:Nat) (o:Nat→Int) (z gn:Int) (h:Bool) (l:List At):Prop:=∃v b nw,GenAt Tryz.prog 106 (jB8 j) [0,1,2,3] (jB9 dc m o z gn h) 4 ⟨(jlK l v b).1,(jlK l v b).2,nw,[],[]⟩
theorem xq {j:Nat} {dc:List At} {m:Nat} {o:Nat→Int} {z gn:Int} {h:Bool} {l:List At} (ht:shL 0 (KW j dc m o z gn h)=shQ l (KW j dc m o z gn h)):jEl j dc m o z gn h l:=
 GenAt.of_run (Sh:=jlK l) (vw:=fun _ _=>0) (bw:=coG) z9 (jg z9 Tryz.func106 (by kernel_rfl)) ht (by simp)
def shM (j:Nat) (m:Nat):Bool:=(Nat.beq j 1&&Nat.beq m 3)||(Nat.beq j 1&&Nat.beq m 5)||(Nat.beq j 1&&Nat.beq m 7)||(Nat.beq j 1&&Nat.beq m 9)||(Nat.beq j 1&&Nat.beq m 11)||(Nat.beq j 1&&Nat.beq m 13)||(Nat.beq j 2&&Nat.beq m 5)||(Nat.beq j 2&&Nat.beq m 8)||(Nat.beq j 2&&Nat.beq m 11)||(Nat.beq j 2&&Nat.beq m 14)||(Nat.beq j 2&&Nat.beq m 17)||(Nat.beq j 2&&Nat.beq m 20)
def shF:List LV→List Nat→List Blk→Nat→Option (List (Bool×Bool)×ShX):=fun args seen ks nb=>
 match args,ks with
 | [.v (.one (.ptr p po)),.v (.one (.ptr c co)),.v (.one (.slu b j))],[⟨td,(d1,d2),ed,dcells⟩,⟨tf,(f1,f2),ef,[.bool h]⟩,⟨tt,(o1,o2),es,cells⟩,⟨tp,(p1,p2),ep,[.int .i64 z,.int .i64 gn,.slu ob m]⟩]=>
  match Yk [p,po,c,co,b,td,d1,d2,ed,tf,f1,f2,ef,tt,o1,o2,es,tp,p1,p2,ep,ob,nb] [3,0,1,0,0,39,0,0,10,61,0,0,0,79,0,0,11,210,0,0,0,2,4],Yk seen [0,1,2,3],qM cells (11*m),shM j m with
  | true,true,true,true=>match qM dcells 10,Nat.beq j 1 with
   | true,true=>some (jyQ dcells,jlK (Jf (svY (jo dcells) (jo cells)) m 0))
   | _,_=>match qM dcells 20,Nat.beq j 2 with
    | true,true=>some (jyR dcells,jlK (Jf (svG (jo dcells) (jo cells)) m 0))
    | _,_=>none
  | _,_,_,_=>none
 | _,_=>none
theorem jEm:GenOK Tryz.prog 106 (Xq Tryz.prog 106 shF):=by
 refine YG fun args seen ks nb cs Sh hF hc=> ?_
 unfold shF at hF
 split at hF
 ·rename_i p po c co b j td d1 d2 ed dcells tf f1 f2 ef h tt o1 o2 es cells tp p1 p2 ep z gn ob m
  split at hF
  ·rename_i g1 g2 g3 g4
   have e1:=qA g1
   have e2:=qA g2
   simp only [List.cons.injEq,and_true] at e1
   obtain ⟨rfl,rfl,rfl,rfl,rfl,rfl,rfl,rfl,rfl,rfl,rfl,rfl,rfl,rfl,rfl,rfl,rfl,rfl,rfl,rfl,rfl,rfl,rfl⟩:=e1
   subst e2
   have ec:=(j6 g3).eq
   rw [←kl] at ec
   split at hF
   ·rename_i q1 q2
    cases hF
    have ed:=(j6 q1).eq
    rw [←kl] at ed
    have ej:=Nat.eq_of_beq_eq_true q2
    subst ej
    have hk:dcells=shY (jo dcells):=by
     have a:∀c∈jyQ dcells,c.1=c.2:=hc
     simp only [jyQ,List.mem_cons,List.not_mem_nil,or_false,forall_eq_or_imp,forall_eq,decide_eq_true_eq] at a
     obtain ⟨a0,a1,a2,a3⟩:=a
     have e2:dcells=mkI (jo dcells) 0 10:=ed
     rw [e2]
     show mkI (jo dcells) 0 10=shY (jo (mkI (jo dcells) 0 10))
     unfold shY
     simp only [mkI]
     rw [a0,a1,a2,a3]
     rfl
    have hm:m=3∨m=5∨m=7∨m=9∨m=11∨m=13:=by have g:=g4;simp [shM] at g;omega
    obtain ⟨k,hk1,hk2⟩:∃k,cells=mkI k 0 (11*m)∧jo cells=k:=⟨jo cells,ec,rfl⟩
    obtain ⟨dd,hd1,hd2⟩:∃dd,dcells=shY dd∧jo dcells=dd:=⟨jo dcells,hk,rfl⟩
    rw [hk2,hd2,hk1,hd1]
    rcases hm with rfl | rfl | rfl | rfl | rfl | rfl
    ·exact xq (jEf _ _ z gn h)
    ·exact xq (jEg _ _ z gn h)
    ·exact xq (jEh _ _ z gn h)
    ·exact xq (jEi _ _ z gn h)
    ·exact xq (jyK _ _ z gn h)
    ·exact xq (jyL _ _ z gn h)
   ·split at hF
    ·rename_i q1 q2
     cases hF
     have ed:=(j6 q1).eq
     rw [←kl] at ed
     have ej:=Nat.eq_of_beq_eq_true q2
     subst ej
     have hk:dcells=shG (jo dcells):=by
      have a:∀c∈jyR dcells,c.1=c.2:=hc
      simp only [jyR,List.mem_cons,List.not_mem_nil,or_false,forall_eq_or_imp,forall_eq,decide_eq_true_eq] at a
      obtain ⟨a0,a1,a2,a3,a10,a11,a12,a13⟩:=a
      have e2:dcells=mkI (jo dcells) 0 20:=ed
      rw [e2]
      show mkI (jo dcells) 0 20=shG (jo (mkI (jo dcells) 0 20))
      unfold shG
      simp only [mkI]
      rw [a0,a1,a2,a3,a10,a11,a12,a13]
      rfl
     have hm:m=5∨m=8∨m=11∨m=14∨m=17∨m=20:=by have g:=g4;simp [shM] at g;omega
     obtain ⟨k,hk1,hk2⟩:∃k,cells=mkI k 0 (11*m)∧jo cells=k:=⟨jo cells,ec,rfl⟩
     obtain ⟨dd,hd1,hd2⟩:∃dd,dcells=shG dd∧jo dcells=dd:=⟨jo dcells,hk,rfl⟩
     rw [hk2,hd2,hk1,hd1]
     rcases hm with rfl | rfl | rfl | rfl | rfl | rfl
     ·exact xq (jEj _ _ z gn h)
     ·exact xq (jEk _ _ z gn h)
     ·exact xq (jyM _ _ z gn h)
     ·exact xq (jyN _ _ z gn h)
     ·exact xq (jyO _ _ z gn h)
     ·exact xq (jyP _ _ z gn h)
    ·cases hF
  ·cases hF
 ·cases hF
noncomputable def shD:List LV→List Nat→List Blk→Nat→Option Dl:=kA (xY 1 61 (jek (Xq Tryz.prog 106 shF))) (kA (xY 1 61 (jS Tryz.prog KS1 Zl 4000 106)) (jS Tryz.prog KS1 Zl 4000 106))
theorem Ye:GenOK Tryz.prog 106 shD:=jK (jY (yC jEm)) (jK (jY (jl z9 (jg z9 Tryz.func106 (by kernel_rfl)))) (jl z9 (jg z9 Tryz.func106 (by kernel_rfl))))
end Go.Proofs.YtnlhpaidmiogbaaGreat

/- The filter with Correct, Shift by formula, for each delay. -/
namespace Go.Proofs.YtnlhpaidmiogbaaGreat
open Go.Lr
set_option linter.unusedVariables false
noncomputable def jBF:FuncId→Option SumK:=moreG jja 108 jBN
theorem soundAVc0:Sound Tryz.prog jBF:=soundAS31.moreG jkh
noncomputable def jvW:FuncId→Option SumK:=moreG jBF 106 shD
theorem soundAVs0:Sound Tryz.prog jvW:=soundAVc0.moreG Ye
noncomputable def AV0:FuncId→Option SumK:=moreG jvW 20 (kN Tryz.prog jvW ⟨false,false,false⟩ 20000 20 [])
theorem soundAV0:Sound Tryz.prog AV0:=soundAVs0.moreG (kR soundAVs0 (jg soundAVs0 Tryz.func20 (by kernel_rfl)))
noncomputable def jBG:FuncId→Option SumK:=moreG jja 108 jBO
theorem soundAVc1:Sound Tryz.prog jBG:=soundAS31.moreG jki
noncomputable def jvX:FuncId→Option SumK:=moreG jBG 106 shD
theorem soundAVs1:Sound Tryz.prog jvX:=soundAVc1.moreG Ye
noncomputable def AV1:FuncId→Option SumK:=moreG jvX 20 (kN Tryz.prog jvX ⟨false,false,false⟩ 20000 20 [])
theorem jN:Sound Tryz.prog AV1:=soundAVs1.moreG (kR soundAVs1 (jg soundAVs1 Tryz.func20 (by kernel_rfl)))
noncomputable def jBH:FuncId→Option SumK:=moreG jja 108 jBP
theorem soundAVc2:Sound Tryz.prog jBH:=soundAS31.moreG jkj
noncomputable def jvY:FuncId→Option SumK:=moreG jBH 106 shD
theorem soundAVs2:Sound Tryz.prog jvY:=soundAVc2.moreG Ye
noncomputable def AV2:FuncId→Option SumK:=moreG jvY 20 (kN Tryz.prog jvY ⟨false,false,false⟩ 20000 20 [])
theorem jJ:Sound Tryz.prog AV2:=soundAVs2.moreG (kR soundAVs2 (jg soundAVs2 Tryz.func20 (by kernel_rfl)))
noncomputable def jBI:FuncId→Option SumK:=moreG jja 108 jBQ
theorem soundAVc3:Sound Tryz.prog jBI:=soundAS31.moreG jkk
noncomputable def jvZ:FuncId→Option SumK:=moreG jBI 106 shD
theorem soundAVs3:Sound Tryz.prog jvZ:=soundAVc3.moreG Ye
noncomputable def AV3:FuncId→Option SumK:=moreG jvZ 20 (kN Tryz.prog jvZ ⟨false,false,false⟩ 20000 20 [])
theorem jG:Sound Tryz.prog AV3:=soundAVs3.moreG (kR soundAVs3 (jg soundAVs3 Tryz.func20 (by kernel_rfl)))
noncomputable def jBJ:FuncId→Option SumK:=moreG jja 108 jBR
theorem soundAVc4:Sound Tryz.prog jBJ:=soundAS31.moreG jkl
noncomputable def jv0:FuncId→Option SumK:=moreG jBJ 106 shD
theorem soundAVs4:Sound Tryz.prog jv0:=soundAVc4.moreG Ye
noncomputable def AV4:FuncId→Option SumK:=moreG jv0 20 (kN Tryz.prog jv0 ⟨false,false,false⟩ 20000 20 [])
theorem jD:Sound Tryz.prog AV4:=soundAVs4.moreG (kR soundAVs4 (jg soundAVs4 Tryz.func20 (by kernel_rfl)))
noncomputable def jBK:FuncId→Option SumK:=moreG jja 108 jBS
theorem soundAVc5:Sound Tryz.prog jBK:=soundAS31.moreG jkm
noncomputable def jv1:FuncId→Option SumK:=moreG jBK 106 shD
theorem soundAVs5:Sound Tryz.prog jv1:=soundAVc5.moreG Ye
noncomputable def AV5:FuncId→Option SumK:=moreG jv1 20 (kN Tryz.prog jv1 ⟨false,false,false⟩ 20000 20 [])
theorem jA:Sound Tryz.prog AV5:=soundAVs5.moreG (kR soundAVs5 (jg soundAVs5 Tryz.func20 (by kernel_rfl)))
end Go.Proofs.YtnlhpaidmiogbaaGreat
