/- Joined texts. What each part proves stands ahead of it; no condition. -/
import Derived.Test.YtnlhpaidmiogbaaGreatLrM3
import Derived.Test.YtnlhpaidmiogbaaGreatLrM2

/- root: Sqrt, Hypot: their walks, and what they come to. -/
namespace Go.Proofs.YtnlhpaidmiogbaaGreat
open Go.Lr
set_option linter.unusedVariables false
set_option linter.unusedSimpArgs false
theorem jkO (a:Int) (hb:Bool):(jR Tryz.prog S17 Zl 2000 55 [A0,.v (.one (.int .i64 a))] [(0,flag 61 hb)] 1 [some true]).map qn=some (LV.v (V1.one (At.int IntKind.i64 0)),some { ty:=61,fr:=(0,0),es:=0,cells:=[At.bool true] },[(decide (jc a<0),true)]):=by kernel_rfl
theorem jkP (a:Int) (hb:Bool):(jR Tryz.prog S17 Zl 2000 55 [A0,.v (.one (.int .i64 a))] [(0,flag 61 hb)] 1 [some false]).map qn=some (LV.v (V1.one (At.int IntKind.i64 (jc (kp (jb (wHi (jc a*jj (Int.toNat 30))) (wLo (jc a*jj (Int.toNat 30)))))))),some { ty:=61,fr:=(0,0),es:=0,cells:=[At.bool (hb||jV a||jV (kp (jb (wHi (jc a*jj (Int.toNat 30))) (wLo (jc a*jj (Int.toNat 30))))))] },[(decide (wHi (jc a*jj (Int.toNat 30))<0),false),(isI (wHi (jc a*jj (Int.toNat 30))),true),(isU (wLo (jc a*jj (Int.toNat 30))),true),(isI (jc a),true),(decide (0≤30)&&decide (30≤127),true),(decide (jh (jc a)*jj (Int.toNat 30)<170141183460469231731687303715884105728),true),(decide (jc a<0),false)]):=by kernel_rfl
def jcj (a:Int) (hb:Bool):Option (LV×Bool×List (Bool×Bool)):=
 bif (decide (jc a<0)) then some (LV.v (V1.one (At.int IntKind.i64 0)),(true),[])
 else some (LV.v (V1.one (At.int IntKind.i64 (jc (kp (jb (wHi (jc a*jj (Int.toNat 30))) (wLo (jc a*jj (Int.toNat 30)))))))),(hb||jV a||jV (kp (jb (wHi (jc a*jj (Int.toNat 30))) (wLo (jc a*jj (Int.toNat 30)))))),[(decide (wHi (jc a*jj (Int.toNat 30))<0),false),(isI (wHi (jc a*jj (Int.toNat 30))),true),(isU (wLo (jc a*jj (Int.toNat 30))),true),(isI (jc a),true),(decide (0≤30)&&decide (30≤127),true),(decide (jh (jc a)*jj (Int.toNat 30)<170141183460469231731687303715884105728),true)])
def jjt:List LV→Bool→Option (LV×Bool×List (Bool×Bool))
 | [.v (.one (.int .i64 a))],hb=>jcj a hb
 | _,_=>none
theorem sumxsqrt:SumOK Tryz.prog 55 (jv 61 jjt):=by
 refine jT (z:=Zl) sound17 (jg sound17 Tryz.func55 (by kernel_rfl)) fun args hb v h' cs hF hc=> ?_
 unfold jjt at hF
 split at hF
 ·rename_i a
  unfold jcj at hF
  rcases ji (decide (jc a<0)) with h0 | h0
  ·rw [jH h0] at hF
   cases hF
   exact ⟨rfl,2000,[some true],_,jkO a hb,ja (h0) (jd)⟩
  ·rw [jB h0] at hF
   cases hF
   exact ⟨rfl,2000,[some false],_,jkP a hb,ja (jx (hc)) (ja (jx (jf (hc))) (ja (jx (jf (jf (hc)))) (ja (jx (jf (jf (jf (hc))))) (ja (jx (jf (jf (jf (jf (hc)))))) (ja (jx (jf (jf (jf (jf (jf (hc))))))) (ja (h0) (jd)))))))⟩
 ·cases hF
theorem hb (dead:Nat→Value) (hb:Bool) (o n c:Nat) (ty:TypeId) (fr:Nat×Nat) (es:Nat) (l:List At) (x y:Int):jI [0,5,12,13,14] [0,1,2] (exec Tryz.prog S17 Zl 400 (.code (c1 (c1 (c2 (c2 (jk Tryz.prog 135)))))) (Kst.st ⟨[(0,A0),(1,.v (.one (.slx 1 o n c))),(4,.v (.one (.int .i64 0))),(5,P2)],[(0,flag 61 hb),(1,⟨ty,fr,es,l⟩),(2,⟨110,(0,0),0,[.int .i64 x,.int .u64 y]⟩)],3⟩ 34 dead []))=some (Ex.normal,[LV.v (V1.one (At.ptr 0 0)),LV.v (V1.one (At.ptr 2 0)),LV.v (V1.one (At.slx 1 (if c=((Int.ofNat 0)).toNat then o else o+((Int.ofNat 0)).toNat*1) ((if (64:Int)<(n:Int) then 64 else (n:Int)).toNat - ((Int.ofNat 0)).toNat) (c - ((Int.ofNat 0)).toNat))),LV.v (V1.one (At.int IntKind.i64 ↑((if (64:Int)<(n:Int) then 64 else (n:Int)).toNat - ((Int.ofNat 0)).toNat))),LV.v (V1.one (At.int IntKind.i64 0))],[some { ty:=61,fr:=(0,0),es:=0,cells:=[At.bool hb] },some { ty:=ty,fr:=fr,es:=es,cells:=l },some { ty:=110,fr:=(0,0),es:=0,cells:=[At.int IntKind.i64 x,At.int IntKind.u64 y] }],[(decide (0≤(Int.ofNat 0))&&(decide ((Int.ofNat 0)≤if 64<(n:Int) then 64 else (n:Int))&&decide ((if (64:Int)<(n:Int) then 64 else (n:Int))≤(c:Int))),true)]):=by kernel_rfl
theorem hc (dead:Nat→Value) (hb:Bool) (o n c:Nat) (ty:TypeId) (fr:Nat×Nat) (es:Nat) (l:List At) (x y i:Int):jI [0,5,12,13,14] [0,1,2] (exec Tryz.prog S17 Zl 400 (.code (c1 (c1 (c2 (c1 (c2 (c2 (jk Tryz.prog 135)))))))) (Kst.st ⟨[(0,A0),(5,P2),(12,.v (.one (.slx 1 o n c))),(13,.v (.one (.int .i64 n))),(14,.v (.one (.int .i64 i)))],[(0,flag 61 hb),(1,⟨ty,fr,es,l⟩),(2,⟨110,(0,0),0,[.int .i64 x,.int .u64 y]⟩)],3⟩ 34 dead [some true]))=some (Ex.normal,[LV.v (V1.one (At.ptr 0 0)),LV.v (V1.one (At.ptr 2 0)),LV.v (V1.one (At.slx 1 o n c)),LV.v (V1.one (At.int IntKind.i64 (n:Int))),LV.v (V1.one (At.int IntKind.i64 (wr IntKind.i64 (i+1))))],[some { ty:=61,fr:=(0,0),es:=0,cells:=[At.bool (hb||jV (jo l (o+i.toNat*1)))] },some { ty:=ty,fr:=fr,es:=es,cells:=l },some { ty:=110,fr:=(0,0),es:=0,cells:=[At.int IntKind.i64 (wHi (jb x y+jb (wHi (jc (jo l (o+i.toNat*1))*jc (jo l (o+i.toNat*1)))) (wLo (jc (jo l (o+i.toNat*1))*jc (jo l (o+i.toNat*1)))))),At.int IntKind.u64 (wLo (jb x y+jb (wHi (jc (jo l (o+i.toNat*1))*jc (jo l (o+i.toNat*1)))) (wLo (jc (jo l (o+i.toNat*1))*jc (jo l (o+i.toNat*1))))))] }],[(isI x,true),(isU y,true),(isI (wHi (jc (jo l (o+i.toNat*1))*jc (jo l (o+i.toNat*1)))),true),(isU (wLo (jc (jo l (o+i.toNat*1))*jc (jo l (o+i.toNat*1)))),true),(isW (jb x y+jb (wHi (jc (jo l (o+i.toNat*1))*jc (jo l (o+i.toNat*1)))) (wLo (jc (jo l (o+i.toNat*1))*jc (jo l (o+i.toNat*1))))),true),(isI (jc (jo l (o+i.toNat*1))),true),(isI (jc (jo l (o+i.toNat*1))),true),(isIntAt IntKind.i64 l (o+i.toNat*1),true),(decide (0≤i)&&decide (i<(n:Int)),true),(decide (i<(n:Int)),true)]):=by kernel_rfl
theorem hd (dead:Nat→Value) (hb:Bool) (o n c:Nat) (ty:TypeId) (fr:Nat×Nat) (es:Nat) (l:List At) (x y i:Int):jI [0,5] [0,1,2] (exec Tryz.prog S17 Zl 400 (.code (c1 (c1 (c2 (c1 (c2 (c2 (jk Tryz.prog 135)))))))) (Kst.st ⟨[(0,A0),(5,P2),(12,.v (.one (.slx 1 o n c))),(13,.v (.one (.int .i64 n))),(14,.v (.one (.int .i64 i)))],[(0,flag 61 hb),(1,⟨ty,fr,es,l⟩),(2,⟨110,(0,0),0,[.int .i64 x,.int .u64 y]⟩)],3⟩ 34 dead [some false]))=some (Ex.exit 0,[LV.v (V1.one (At.ptr 0 0)),LV.v (V1.one (At.ptr 2 0))],[some { ty:=61,fr:=(0,0),es:=0,cells:=[At.bool hb] },some { ty:=ty,fr:=fr,es:=es,cells:=l },some { ty:=110,fr:=(0,0),es:=0,cells:=[At.int IntKind.i64 x,At.int IntKind.u64 y] }],[(decide (i<(n:Int)),false)]):=by kernel_rfl
theorem he (dead:Nat→Value) (hb:Bool) (ty:TypeId) (fr:Nat×Nat) (es:Nat) (l:List At) (x y:Int):jI [4] [0,1] (exec Tryz.prog S17 Zl 400 (.code (c2 (c2 (c2 (jk Tryz.prog 135))))) (Kst.st ⟨[(0,A0),(5,P2)],[(0,flag 61 hb),(1,⟨ty,fr,es,l⟩),(2,⟨110,(0,0),0,[.int .i64 x,.int .u64 y]⟩)],3⟩ 34 dead []))=some (Ex.ret,[LV.v (V1.one (At.int IntKind.i64 (jc (kp (jb x y)))))],[some { ty:=61,fr:=(0,0),es:=0,cells:=[At.bool (hb||jV (kp (jb x y)))] },some { ty:=ty,fr:=fr,es:=es,cells:=l }],[(decide (x<0),false),(isI x,true),(isU y,true)]):=by kernel_rfl
theorem ha (dead:Nat→Value) (hb:Bool) (o n c:Nat) (ty:TypeId) (fr:Nat×Nat) (es:Nat) (l:List At):jI [0,1,4,5] [0,1,2] (xA Tryz.prog S17 Zl 400 (kV 2 (jk Tryz.prog 135)) (Kst.st ⟨kC 0 [A0,.v (.one (.slx 1 o n c))],[(0,flag 61 hb),(1,⟨ty,fr,es,l⟩)],2⟩ 34 dead []))=some (Ex.normal,[LV.v (V1.one (At.ptr 0 0)),LV.v (V1.one (At.slx 1 o n c)),LV.v (V1.one (At.int IntKind.i64 0)),LV.v (V1.one (At.ptr 2 0))],[some { ty:=61,fr:=(0,0),es:=0,cells:=[At.bool hb] },some { ty:=ty,fr:=fr,es:=es,cells:=l },some { ty:=110,fr:=(0,0),es:=0,cells:=[At.int IntKind.i64 0,At.int IntKind.u64 0] }],[]):=by kernel_rfl
def jpd (a:Int):Int:=if jc a<0 then 0 else jc (kp (jc a*1073741824))
def jpe (a:Int):Bool:=jV a||(decide (jc a<0)||jV (kp (jc a*1073741824)))
def je0:List LV→Bool→Option (LV×Bool×List (Bool×Bool))
 | [.v (.one (.int .i64 a))],hb=>some (I (jpd a),hb||jpe a,[])
 | _,_=>none
theorem jkQ:SumOK Tryz.prog 55 (jv 61 je0):=by
 refine sumxsqrt.acc_re fun args hb v h' cs hF hc=> ?_
 unfold je0 at hF
 split at hF
 ·rename_i a
  cases hF
  show ∃cs',jcj a hb=_∧_
  unfold jcj jpd jpe
  have b:=yT a
  have e1:jj (Int.toNat 30)=1073741824:=rfl
  rw [e1]
  by_cases h1:jc a<0
  ·rw [jH (decide_eq_true h1),if_pos h1,decide_eq_true h1]
   exact ⟨[],by simp [I],jd⟩
  ·rw [jB (decide_eq_false h1),if_neg h1,decide_eq_false h1]
   rw [jW]
   refine ⟨_,rfl.trans (by simp only [I,Bool.or_assoc,Bool.false_or];rfl), ?_⟩
   have h2:=qa (jc a*1073741824) (by omega) (by omega)
   have h3:jh (jc a)=jc a:=yG (by omega)
   have h4:0≤wHi (jc a*1073741824):=by unfold wHi;omega
   rw [h3,yF,Yg]
   simp only [jZ,ql,isI_iff,Bool.and_eq_true,decide_eq_true_eq,decide_eq_false_iff_not]
   exact ⟨by omega,h2,True.intro,True.intro,⟨by omega,by omega⟩,by omega,jd⟩
 ·cases hF
def sqS:List Int→Int
 | []=>0
 | a::l=>jc a*jc a+sqS l
theorem jkR (l m:List Int):sqS (l++m)=sqS l+sqS m:=by
 induction l with
 | nil=>simp [sqS]
 | cons a l ih=>simp only [List.cons_append,sqS,ih];omega
theorem jpf (a:Int):0≤jc a*jc a∧jc a*jc a≤1329227995784915872903807060280344576:=by
 have h:=ZG a a
 refine ⟨?_,h.2⟩
 by_cases h0:0≤jc a
 ·exact Int.mul_nonneg h0 h0
 ·exact Int.mul_nonneg_of_nonpos_of_nonpos (by omega) (by omega)
theorem jju (l:List Int):0≤sqS l∧sqS l≤l.length*1329227995784915872903807060280344576:=by
 induction l with
 | nil=>simp [sqS]
 | cons a l ih=>
  have:=jpf a
  simp only [sqS,List.length_cons]
  push_cast
  omega
noncomputable def jxw:Code:=c1 (c2 (c2 (jk Tryz.prog 135)))
def hyA (k:Blk) (o n c:Nat) (h:Bool) (v:Int) (i:Int):Kst:=⟨[(0,A0),(5,P2),(12,.v (.one (.slx 1 o n c))),(13,.v (.one (.int .i64 n))),(14,.v (.one (.int .i64 i)))],[(0,flag 61 h),(1,k),(2,wB v)],3⟩
def hyB (k:Blk) (h:Bool) (v:Int):Kst:=⟨[(0,A0),(5,P2)],[(0,flag 61 h),(1,k),(2,wB v)],3⟩
theorem jpg (k:Blk) (o n c:Nat) (xs:List Int) (hlen:xs.length=n) (hat:IntsAt k.cells o xs) (hok:okL noP k.cells=true) (hn:n≤64) (hb:Bool) (i:Nat) (hi:i<n):
  To Tryz.prog 34 (c1 (c1 (c2 jxw))) (hyA k o n c (hb||zT (xs.take i)) (sqS (xs.take i)) i) .normal (hyA k o n c (hb||zT (xs.take (i+1))) (sqS (xs.take (i+1))) ((i:Int)+1)):=by
 have hi':i<xs.length:=by omega
 have hx:=Ja (hat i hi')
 have hs:=qv xs i hi'
 have b0:=jju (xs.take i)
 rw [List.length_take] at b0
 have b1:=jpf xs[i]
 have hm:((min i xs.length:Nat):Int)=i:=by omega
 rw [hm] at b0
 have e1:sqS (xs.take (i+1))=sqS (xs.take i)+jc xs[i]*jc xs[i]:=by rw [hs,jkR];simp [sqS]
 have e2:(hb||zT (xs.take (i+1)))=((hb||zT (xs.take i))||jV xs[i]):=by rw [hs,jch];simp [zT,Bool.or_assoc]
 have e3:((i:Int)).toNat*1=i:=by simp
 have e4:wr .i64 ((i:Int)+1)=(i:Int)+1:=xu (by omega) (by omega)
 have hI:=yF xs[i]
 obtain ⟨ty,fr,es,l⟩:=k
 rw [e1,e2]
 generalize sqS (xs.take i)=S at *
 have hi2:=qa S (by omega) (by omega)
 have hl2:=qG S
 have hi3:=qa (jc xs[i]*jc xs[i]) (by omega) (by omega)
 have hl3:=qG (jc xs[i]*jc xs[i])
 refine To.run (z:=Zl) sound17 (slots:=[0,5,12,13,14]) (blks:=[0,1,2]) (vs:=[A0,P2,.v (.one (.slx 1 o n c)),.v (.one (.int .i64 n)),.v (.one (.int .i64 ((i:Int)+1)))])
  (bs:=[flag 61 ((hb||zT (xs.take i))||jV xs[i]),⟨ty,fr,es,l⟩,wB (S+jc xs[i]*jc xs[i])]) (nbB:=3)
  (fun dead=>hc dead (hb||zT (xs.take i)) o n c ty fr es l (wHi S) (wLo S) i) rfl (by rw [e4];rfl) (by rw [e3,hx.1];simp only [jW];rfl) ?_ (qF rfl (yU (Nat.le_refl _) rfl (jn jm hok) rfl)) (Nat.le_refl _)
 rw [e3,hx.1,hx.2,hI]
 simp only [jW,jZ,isI_iff,isU_iff,isW_iff,Bool.and_eq_true,decide_eq_true_eq]
 repeat' apply And.intro
 all_goals first | exact jd | exact True.intro | omega
theorem jxx (k:Blk) (o n c:Nat) (hok:okL noP k.cells=true) (h:Bool) (v:Int):To Tryz.prog 34 (c1 (c1 (c2 jxw))) (hyA k o n c h v n) (.exit 0) (hyB k h v):=by
 obtain ⟨ty,fr,es,l⟩:=k
 refine To.exec (z:=Zl) sound17 (slots:=[0,5]) (blks:=[0,1,2]) (vs:=[A0,P2]) (bs:=[flag 61 h,⟨ty,fr,es,l⟩,wB v]) (nbB:=3) (fun dead=>hd dead h o n c ty fr es l (wHi v) (wLo v) n) ?_ (qF rfl (yU (Nat.le_refl _) rfl (jn jm hok) rfl)) (Nat.le_refl _)
 simp
theorem jBV (k:Blk) (o n c:Nat) (xs:List Int) (hlen:xs.length=n) (hat:IntsAt k.cells o xs) (hok:okL noP k.cells=true) (hn:n≤64) (hb:Bool):∀(m i:Nat),i+m=n→
  Rd Tryz.prog 34 (c1 (c1 (c2 jxw))) (m+1) (hyA k o n c (hb||zT (xs.take i)) (sqS (xs.take i)) i) (.exit 0) (hyB k (hb||zT xs) (sqS xs))
 | 0,i,h=>by
  have hi:i=n:=by omega
  subst hi
  rw [←hlen,List.take_length,hlen]
  exact Rd.last (by simp) (jxx k o i c hok _ _)
 | m+1,i,h=>by
  have hs:=jpg k o n c xs hlen hat hok hn hb i (by omega)
  refine Rd.next hs ?_
  exact jBV k o n c xs hlen hat hok hn hb m (i+1) (by omega)
def xk (xs:List Int):Int:=jc (kp (sqS (xs.take 64)))
def jdc (xs:List Int):Bool:=zT (xs.take 64)||jV (kp (sqS (xs.take 64)))
def jdd:List AV→Bool→Option (LV×Bool×List (Bool×Bool))
 | [.ints xs],hb=>some (I (xk xs),hb||jdc xs,[])
 | _,_=>none
theorem jde (hb:Bool):(jR Tryz.prog S17 Zl 2000 135 [A0,.v (.one .nilsl)] [(0,flag 61 hb)] 1 []).map (fun r=>(r.1,getM r.2.1 0,r.2.2.2))=some (I (xk []),some (flag 61 (hb||jdc [])),[(decide ((0:Int)<0),false),(isI 0,true),(isU 0,true)]):=by kernel_rfl
theorem IntsAt.take {l:List At} {o:Nat} {xs:List Int} (h:IntsAt l o xs) (m:Nat):IntsAt l o (xs.take m):=by
 intro j hj
 rw [List.length_take] at hj
 have:=h j (by omega)
 rw [this,List.getElem_take]
theorem je1:SumOK Tryz.prog 135 (yv 61 1 jdd):=by
 refine jar (jg sound17 Tryz.func135 (by kernel_rfl)) (fun avs hb r h=> ?_) fun pre xs hb v h' cs hF hcc hp hv=> ?_
 ·unfold jdd at h
  split at h
  ·exact ⟨[],_,rfl⟩
  ·cases h
 ·have hpre:pre=[]:=by
   cases pre with
   | nil=>rfl
   | cons p pre=>
    simp only [List.map_cons,List.cons_append] at hF
    unfold jdd at hF
    split at hF
    ·rename_i he;simp at he
    ·cases hF
  subst hpre
  have hF':some (I (xk xs),hb||jdc xs,[])=some (v,h',cs):=hF
  cases hF'
  refine ⟨fun k o n c hk hnc E w hrel=> ?_,fun hx E w hrel=> ?_⟩
  ·have hlen:xs.length=n:=by have:=hk.1;omega
   have hok:=hk.2.2
   have hat:=IntsAt.take hk.2.1 64
   have hlt:(xs.take 64).length=min n 64:=by rw [List.length_take];omega
   have hR:=jBV k o (min n 64) c (xs.take 64) hlt hat hok (by omega) hb (min n 64) 0 (by omega)
   have b0:=jju (xs.take 64)
   rw [hlt] at b0
   have hi2:=qa (sqS (xs.take 64)) (by omega) (by omega)
   have hl2:=qG (sqS (xs.take 64))
   have hh0:0≤wHi (sqS (xs.take 64)):=by unfold wHi;omega
   have eI:(if (64:Int) < ↑n then 64 else (↑n:Int))=((min n 64:Nat):Int):=by split <;> omega
   have eN:((min n 64:Nat):Int).toNat - (Int.ofNat 0).toNat=min n 64:=by simp
   have eO:(if c=(Int.ofNat 0).toNat then o else o+(Int.ofNat 0).toNat*1)=o:=by split <;> simp
   have eC:c - (Int.ofNat 0).toNat=c:=by simp
   obtain ⟨ty,fr,es,l⟩:=k
   refine J9 (c:=jk Tryz.prog 135) (e:= .ret) (nb:=2) (B:=⟨[(4,.v (.one (.int .i64 (xk xs))))],[(0,flag 61 (hb||jdc xs)),(1,⟨ty,fr,es,l⟩)],3⟩) Tryz.func135 (by kernel_rfl) (Nat.le_of_ble_eq_true (by kernel_rfl)) (Nat.le_of_ble_eq_true (by kernel_rfl))
    (fun u hu=> ?_) (xX (Nat.le_refl _) rfl (jn jm hok)) ?_ (.inr rfl) (fun dead=>by kernel_rfl) rfl (fun i b hib=> ?_) E w hrel
   ·simp only [List.nil_append,List.mem_cons,List.not_mem_nil,or_false] at hu
    rcases hu with rfl | rfl <;> rfl
   ·refine To.spineR (z:=Zl) sound17 (k:=2) (slots:=[0,1,4,5]) (blks:=[0,1,2]) (vs:=[A0,.v (.one (.slx 1 o n c)),.v (.one (.int .i64 0)),P2]) (bs:=[flag 61 hb,⟨ty,fr,es,l⟩,wB 0]) (nbB:=3) (by kernel_rfl) (fun dead=>ha dead hb o n c ty fr es l) rfl rfl rfl (by simp) (qF rfl (yU (Nat.le_refl _) rfl (jn jm hok) rfl)) (Nat.le_succ 2) ?_
    refine To.seq (by kernel_rfl) (To.seq (by kernel_rfl) (To.run (z:=Zl) sound17 (slots:=[0,5,12,13,14]) (blks:=[0,1,2]) (vs:=[A0,P2,.v (.one (.slx 1 o (min n 64) c)),.v (.one (.int .i64 ((min n 64:Nat):Int))),.v (.one (.int .i64 0))]) (bs:=[flag 61 hb,⟨ty,fr,es,l⟩,wB 0]) (nbB:=3) (fun dead=>Go.Proofs.YtnlhpaidmiogbaaGreat.hb dead hb o n c ty fr es l 0 0) rfl (by simp only [eI,eN,eO,eC];rfl) rfl ?_ (qF rfl (yU (Nat.le_refl _) rfl (jn jm hok) rfl)) (Nat.le_refl _))
     (To.block (id:=0) (by kernel_rfl) (To.loop (m:=min n 64+1) (by kernel_rfl) ?_) (.inl rfl))) (C:=_) (B:=hyB ⟨ty,fr,es,l⟩ (hb||zT (xs.take 64)) (sqS (xs.take 64))) ?_
    ·simp only [eI,jZ,Bool.and_eq_true,decide_eq_true_eq]
     have e0:Int.ofNat 0=0:=rfl
     rw [e0]
     exact ⟨⟨by omega,by omega,by omega⟩,jd⟩
    ·have h0:hyA ⟨ty,fr,es,l⟩ o (min n 64) c (hb||zT ((xs.take 64).take 0)) (sqS ((xs.take 64).take 0)) ((0:Nat):Int)=⟨[0,5,12,13,14].zip [A0,P2,.v (.one (.slx 1 o (min n 64) c)),.v (.one (.int .i64 ((min n 64:Nat):Int))),.v (.one (.int .i64 0))],[0,1,2].zip [flag 61 hb,⟨ty,fr,es,l⟩,wB 0],3⟩:=by
      unfold hyA
      simp only [List.take_zero,zT,Bool.or_false,sqS]
      rfl
     rw [←h0]
     exact hR
    ·refine To.run (z:=Zl) sound17 (slots:=[4]) (blks:=[0,1]) (vs:=[.v (.one (.int .i64 (xk xs)))]) (bs:=[flag 61 (hb||jdc xs),⟨ty,fr,es,l⟩]) (nbB:=3) (fun dead=>he dead (hb||zT (xs.take 64)) ty fr es l (wHi (sqS (xs.take 64))) (wLo (sqS (xs.take 64)))) rfl ?_ ?_ ?_ (qF rfl (xX (Nat.le_succ 2) rfl (jn jm hok))) (Nat.le_refl _)
     ·rw [jW];rfl
     ·rw [jW,Bool.or_assoc];rfl
     ·simp only [jZ,ql,isI_iff,isU_iff,decide_eq_false_iff_not]
      exact ⟨by omega,hi2,hl2,jd⟩
   ·rcases Xj hib with ⟨rfl,rfl⟩ | ⟨rfl,rfl⟩
    ·exact ⟨rfl,by decide,rfl⟩
    ·exact ⟨rfl,by decide,jn jm hok⟩
  ·subst hx
   have hrun:=jde hb
   cases hq:jR Tryz.prog S17 Zl 2000 135 [A0,.v (.one .nilsl)] [(0,flag 61 hb)] 1 [] with
   | none=>rw [hq] at hrun;cases hrun
   | some q=>
    obtain ⟨v',m2,nb',cs'⟩:=q
    rw [hq] at hrun
    simp only [Option.map_some,Option.some.injEq,Prod.mk.injEq] at hrun
    obtain ⟨rfl,hm2,rfl⟩:=hrun
    exact yu sound17 hq (m':=[(0,flag 61 (hb||jdc []))]) (fun i c hic=>by
      obtain ⟨rfl,rfl⟩:=jbS hic
      exact ⟨hm2,Nat.zero_lt_one,rfl⟩) (ja rfl (ja rfl (ja rfl jd))) rfl (fun a ha=>by
      simp only [List.mem_cons,List.not_mem_nil,or_false] at ha
      rcases ha with rfl | rfl <;> rfl) rfl E w hrel
def S18:FuncId→Option SumK:=more (more S17 55 (jv 61 je0)) 135 (yv 61 1 jdd)
theorem sound18:Sound Tryz.prog S18:=(sound17.more jkQ).more je1
end Go.Proofs.YtnlhpaidmiogbaaGreat

/- fx.Dot: its walk, round by round. -/
namespace Go.Proofs.YtnlhpaidmiogbaaGreat
open Go.Lr
set_option linter.unusedVariables false
set_option linter.unusedSimpArgs false
theorem jew (dead:Nat→Value) (hb:Bool) (s:Int) (oa na ca ob nn cb:Nat) (ty:TypeId) (fr:Nat×Nat) (es:Nat) (l:List At) (ty2:TypeId) (fr2:Nat×Nat) (es2:Nat) (l2:List At):jI [0,1,2,3,9] [0,1,2,3] (xA Tryz.prog S18 Zl 400 (kV 3 (jk Tryz.prog 81)) (Kst.st ⟨kC 0 [A0,I s,SLX 1 oa na ca,SLX 2 ob nn cb],[(0,flag 61 hb),(1,⟨ty,fr,es,l⟩),(2,⟨ty2,fr2,es2,l2⟩)],3⟩ 53 dead [some false,some false,some false,some false]))=some (Ex.normal,[LV.v (V1.one (At.ptr 0 0)),LV.v (V1.one (At.int IntKind.i64 s)),LV.v (V1.one (At.slx 1 oa na ca)),LV.v (V1.one (At.slx 2 ob nn cb)),LV.v (V1.one (At.ptr 3 0))],[some { ty:=61,fr:=(0,0),es:=0,cells:=[At.bool hb] },some { ty:=ty,fr:=fr,es:=es,cells:=l },some { ty:=ty2,fr:=fr2,es:=es2,cells:=l2 },some { ty:=110,fr:=(0,0),es:=0,cells:=[At.int IntKind.i64 0,At.int IntKind.u64 0] }],[(decide (s>120),false),(decide (s<0),false),(decide (s<0),false),(decide (s<0),false)]):=by kernel_rfl
theorem jex (dead:Nat→Value) (hb:Bool) (s:Int) (oa na ca ob nn cb:Nat) (ty:TypeId) (fr:Nat×Nat) (es:Nat) (l:List At) (ty2:TypeId) (fr2:Nat×Nat) (es2:Nat) (l2:List At) (x y:Int):jI [0,1,2,3,9,25,26] [0,1,2,3] (exec Tryz.prog S18 Zl 400 (.code (c1 (c1 (c2 (c2 (c2 (jk Tryz.prog 81))))))) (Kst.st ⟨[(0,A0),(1,I s),(2,SLX 1 oa na ca),(3,SLX 2 ob nn cb),(9,.v (.one (.ptr 3 0)))],[(0,flag 61 hb),(1,⟨ty,fr,es,l⟩),(2,⟨ty2,fr2,es2,l2⟩),(3,⟨110,(0,0),0,[.int .i64 x,.int .u64 y]⟩)],4⟩ 53 dead []))=some (Ex.normal,[LV.v (V1.one (At.ptr 0 0)),LV.v (V1.one (At.int IntKind.i64 s)),LV.v (V1.one (At.slx 1 oa na ca)),LV.v (V1.one (At.slx 2 ob nn cb)),LV.v (V1.one (At.ptr 3 0)),LV.v (V1.one (At.int IntKind.i64 (if 100<if (nn:Int)<(na:Int) then (nn:Int) else (na:Int) then 100 else if (nn:Int)<(na:Int) then (nn:Int) else (na:Int)))),LV.v (V1.one (At.int IntKind.i64 0))],[some { ty:=61,fr:=(0,0),es:=0,cells:=[At.bool hb] },some { ty:=ty,fr:=fr,es:=es,cells:=l },some { ty:=ty2,fr:=fr2,es:=es2,cells:=l2 },some { ty:=110,fr:=(0,0),es:=0,cells:=[At.int IntKind.i64 x,At.int IntKind.u64 y] }],[]):=by kernel_rfl
theorem jey (dead:Nat→Value) (hb:Bool) (s:Int) (oa na ca ob nn cb:Nat) (ty:TypeId) (fr:Nat×Nat) (es:Nat) (l:List At) (ty2:TypeId) (fr2:Nat×Nat) (es2:Nat) (l2:List At) (x y:Int) (mm i:Int):jI [0,1,2,3,9,25,26] [0,1,2,3] (exec Tryz.prog S18 Zl 400 (.code (c1 (c1 (c2 (c1 (c2 (c2 (c2 (jk Tryz.prog 81))))))))) (Kst.st ⟨[(0,A0),(1,I s),(2,SLX 1 oa na ca),(3,SLX 2 ob nn cb),(9,.v (.one (.ptr 3 0))),(25,I mm),(26,I i)],[(0,flag 61 hb),(1,⟨ty,fr,es,l⟩),(2,⟨ty2,fr2,es2,l2⟩),(3,⟨110,(0,0),0,[.int .i64 x,.int .u64 y]⟩)],4⟩ 53 dead [some true]))=some (Ex.normal,[LV.v (V1.one (At.ptr 0 0)),LV.v (V1.one (At.int IntKind.i64 s)),LV.v (V1.one (At.slx 1 oa na ca)),LV.v (V1.one (At.slx 2 ob nn cb)),LV.v (V1.one (At.ptr 3 0)),LV.v (V1.one (At.int IntKind.i64 mm)),LV.v (V1.one (At.int IntKind.i64 (wr IntKind.i64 (i+1))))],[some { ty:=61,fr:=(0,0),es:=0,cells:=[At.bool (hb||jV (jo l (oa+i.toNat*1))||jV (jo l2 (ob+i.toNat*1)))] },some { ty:=ty,fr:=fr,es:=es,cells:=l },some { ty:=ty2,fr:=fr2,es:=es2,cells:=l2 },some { ty:=110,fr:=(0,0),es:=0,cells:=[At.int IntKind.i64 (wHi (jb x y+jb (wHi (jc (jo l (oa+i.toNat*1))*jc (jo l2 (ob+i.toNat*1)))) (wLo (jc (jo l (oa+i.toNat*1))*jc (jo l2 (ob+i.toNat*1)))))),At.int IntKind.u64 (wLo (jb x y+jb (wHi (jc (jo l (oa+i.toNat*1))*jc (jo l2 (ob+i.toNat*1)))) (wLo (jc (jo l (oa+i.toNat*1))*jc (jo l2 (ob+i.toNat*1))))))] }],[(isI x,true),(isU y,true),(isI (wHi (jc (jo l (oa+i.toNat*1))*jc (jo l2 (ob+i.toNat*1)))),true),(isU (wLo (jc (jo l (oa+i.toNat*1))*jc (jo l2 (ob+i.toNat*1)))),true),(isW (jb x y+jb (wHi (jc (jo l (oa+i.toNat*1))*jc (jo l2 (ob+i.toNat*1)))) (wLo (jc (jo l (oa+i.toNat*1))*jc (jo l2 (ob+i.toNat*1))))),true),(isI (jc (jo l (oa+i.toNat*1))),true),(isI (jc (jo l2 (ob+i.toNat*1))),true),(isIntAt IntKind.i64 l2 (ob+i.toNat*1),true),(decide (0≤i)&&decide (i<(nn:Int)),true),(isIntAt IntKind.i64 l (oa+i.toNat*1),true),(decide (0≤i)&&decide (i<(na:Int)),true),(decide (i<mm),true)]):=by kernel_rfl
theorem jez (dead:Nat→Value) (hb:Bool) (s:Int) (oa na ca ob nn cb:Nat) (ty:TypeId) (fr:Nat×Nat) (es:Nat) (l:List At) (ty2:TypeId) (fr2:Nat×Nat) (es2:Nat) (l2:List At) (x y:Int) (mm i:Int):jI [0,1,9] [0,1,2,3] (exec Tryz.prog S18 Zl 400 (.code (c1 (c1 (c2 (c1 (c2 (c2 (c2 (jk Tryz.prog 81))))))))) (Kst.st ⟨[(0,A0),(1,I s),(2,SLX 1 oa na ca),(3,SLX 2 ob nn cb),(9,.v (.one (.ptr 3 0))),(25,I mm),(26,I i)],[(0,flag 61 hb),(1,⟨ty,fr,es,l⟩),(2,⟨ty2,fr2,es2,l2⟩),(3,⟨110,(0,0),0,[.int .i64 x,.int .u64 y]⟩)],4⟩ 53 dead [some false]))=some (Ex.exit 0,[LV.v (V1.one (At.ptr 0 0)),LV.v (V1.one (At.int IntKind.i64 s)),LV.v (V1.one (At.ptr 3 0))],[some { ty:=61,fr:=(0,0),es:=0,cells:=[At.bool hb] },some { ty:=ty,fr:=fr,es:=es,cells:=l },some { ty:=ty2,fr:=fr2,es:=es2,cells:=l2 },some { ty:=110,fr:=(0,0),es:=0,cells:=[At.int IntKind.i64 x,At.int IntKind.u64 y] }],[(decide (i<mm),false)]):=by kernel_rfl
theorem jeA (dead:Nat→Value) (hb:Bool) (s:Int) (oa na ca ob nn cb:Nat) (ty:TypeId) (fr:Nat×Nat) (es:Nat) (l:List At) (ty2:TypeId) (fr2:Nat×Nat) (es2:Nat) (l2:List At) (x y:Int):jI [8] [0,1,2] (exec Tryz.prog S18 Zl 400 (.code (c2 (c2 (c2 (c2 (jk Tryz.prog 81)))))) (Kst.st ⟨[(0,A0),(1,I s),(9,.v (.one (.ptr 3 0)))],[(0,flag 61 hb),(1,⟨ty,fr,es,l⟩),(2,⟨ty2,fr2,es2,l2⟩),(3,⟨110,(0,0),0,[.int .i64 x,.int .u64 y]⟩)],4⟩ 53 dead []))=some (Ex.ret,[LV.v (V1.one (At.int IntKind.i64 (zR (jb x y) s)))],[some { ty:=61,fr:=(0,0),es:=0,cells:=[At.bool (hb||JK (jb x y) s)] },some { ty:=ty,fr:=fr,es:=es,cells:=l },some { ty:=ty2,fr:=fr2,es:=es2,cells:=l2 }],[(isI x,true),(isU y,true)]):=by kernel_rfl
theorem jeB (dead:Nat→Value) (hb:Bool) (s:Int) (oa na ca ob nn cb:Nat) (ty:TypeId) (fr:Nat×Nat) (es:Nat) (l:List At):jI [0,1,2,3,9] [0,1,3] (xA Tryz.prog S18 Zl 400 (kV 3 (jk Tryz.prog 81)) (Kst.st ⟨kC 0 [A0,I s,SLX 1 oa na ca,SLX 1 ob nn cb],[(0,flag 61 hb),(1,⟨ty,fr,es,l⟩)],3⟩ 53 dead [some false,some false,some false,some false]))=some (Ex.normal,[LV.v (V1.one (At.ptr 0 0)),LV.v (V1.one (At.int IntKind.i64 s)),LV.v (V1.one (At.slx 1 oa na ca)),LV.v (V1.one (At.slx 1 ob nn cb)),LV.v (V1.one (At.ptr 3 0))],[some { ty:=61,fr:=(0,0),es:=0,cells:=[At.bool hb] },some { ty:=ty,fr:=fr,es:=es,cells:=l },some { ty:=110,fr:=(0,0),es:=0,cells:=[At.int IntKind.i64 0,At.int IntKind.u64 0] }],[(decide (s>120),false),(decide (s<0),false),(decide (s<0),false),(decide (s<0),false)]):=by kernel_rfl
theorem jeC (dead:Nat→Value) (hb:Bool) (s:Int) (oa na ca ob nn cb:Nat) (ty:TypeId) (fr:Nat×Nat) (es:Nat) (l:List At) (x y:Int):jI [0,1,2,3,9,25,26] [0,1,3] (exec Tryz.prog S18 Zl 400 (.code (c1 (c1 (c2 (c2 (c2 (jk Tryz.prog 81))))))) (Kst.st ⟨[(0,A0),(1,I s),(2,SLX 1 oa na ca),(3,SLX 1 ob nn cb),(9,.v (.one (.ptr 3 0)))],[(0,flag 61 hb),(1,⟨ty,fr,es,l⟩),(3,⟨110,(0,0),0,[.int .i64 x,.int .u64 y]⟩)],4⟩ 53 dead []))=some (Ex.normal,[LV.v (V1.one (At.ptr 0 0)),LV.v (V1.one (At.int IntKind.i64 s)),LV.v (V1.one (At.slx 1 oa na ca)),LV.v (V1.one (At.slx 1 ob nn cb)),LV.v (V1.one (At.ptr 3 0)),LV.v (V1.one (At.int IntKind.i64 (if 100<if (nn:Int)<(na:Int) then (nn:Int) else (na:Int) then 100 else if (nn:Int)<(na:Int) then (nn:Int) else (na:Int)))),LV.v (V1.one (At.int IntKind.i64 0))],[some { ty:=61,fr:=(0,0),es:=0,cells:=[At.bool hb] },some { ty:=ty,fr:=fr,es:=es,cells:=l },some { ty:=110,fr:=(0,0),es:=0,cells:=[At.int IntKind.i64 x,At.int IntKind.u64 y] }],[]):=by kernel_rfl
theorem jeD (dead:Nat→Value) (hb:Bool) (s:Int) (oa na ca ob nn cb:Nat) (ty:TypeId) (fr:Nat×Nat) (es:Nat) (l:List At) (x y:Int) (mm i:Int):jI [0,1,2,3,9,25,26] [0,1,3] (exec Tryz.prog S18 Zl 400 (.code (c1 (c1 (c2 (c1 (c2 (c2 (c2 (jk Tryz.prog 81))))))))) (Kst.st ⟨[(0,A0),(1,I s),(2,SLX 1 oa na ca),(3,SLX 1 ob nn cb),(9,.v (.one (.ptr 3 0))),(25,I mm),(26,I i)],[(0,flag 61 hb),(1,⟨ty,fr,es,l⟩),(3,⟨110,(0,0),0,[.int .i64 x,.int .u64 y]⟩)],4⟩ 53 dead [some true]))=some (Ex.normal,[LV.v (V1.one (At.ptr 0 0)),LV.v (V1.one (At.int IntKind.i64 s)),LV.v (V1.one (At.slx 1 oa na ca)),LV.v (V1.one (At.slx 1 ob nn cb)),LV.v (V1.one (At.ptr 3 0)),LV.v (V1.one (At.int IntKind.i64 mm)),LV.v (V1.one (At.int IntKind.i64 (wr IntKind.i64 (i+1))))],[some { ty:=61,fr:=(0,0),es:=0,cells:=[At.bool (hb||jV (jo l (oa+i.toNat*1))||jV (jo l (ob+i.toNat*1)))] },some { ty:=ty,fr:=fr,es:=es,cells:=l },some { ty:=110,fr:=(0,0),es:=0,cells:=[At.int IntKind.i64 (wHi (jb x y+jb (wHi (jc (jo l (oa+i.toNat*1))*jc (jo l (ob+i.toNat*1)))) (wLo (jc (jo l (oa+i.toNat*1))*jc (jo l (ob+i.toNat*1)))))),At.int IntKind.u64 (wLo (jb x y+jb (wHi (jc (jo l (oa+i.toNat*1))*jc (jo l (ob+i.toNat*1)))) (wLo (jc (jo l (oa+i.toNat*1))*jc (jo l (ob+i.toNat*1))))))] }],[(isI x,true),(isU y,true),(isI (wHi (jc (jo l (oa+i.toNat*1))*jc (jo l (ob+i.toNat*1)))),true),(isU (wLo (jc (jo l (oa+i.toNat*1))*jc (jo l (ob+i.toNat*1)))),true),(isW (jb x y+jb (wHi (jc (jo l (oa+i.toNat*1))*jc (jo l (ob+i.toNat*1)))) (wLo (jc (jo l (oa+i.toNat*1))*jc (jo l (ob+i.toNat*1))))),true),(isI (jc (jo l (oa+i.toNat*1))),true),(isI (jc (jo l (ob+i.toNat*1))),true),(isIntAt IntKind.i64 l (ob+i.toNat*1),true),(decide (0≤i)&&decide (i<(nn:Int)),true),(isIntAt IntKind.i64 l (oa+i.toNat*1),true),(decide (0≤i)&&decide (i<(na:Int)),true),(decide (i<mm),true)]):=by kernel_rfl
theorem jeE (dead:Nat→Value) (hb:Bool) (s:Int) (oa na ca ob nn cb:Nat) (ty:TypeId) (fr:Nat×Nat) (es:Nat) (l:List At) (x y:Int) (mm i:Int):jI [0,1,9] [0,1,3] (exec Tryz.prog S18 Zl 400 (.code (c1 (c1 (c2 (c1 (c2 (c2 (c2 (jk Tryz.prog 81))))))))) (Kst.st ⟨[(0,A0),(1,I s),(2,SLX 1 oa na ca),(3,SLX 1 ob nn cb),(9,.v (.one (.ptr 3 0))),(25,I mm),(26,I i)],[(0,flag 61 hb),(1,⟨ty,fr,es,l⟩),(3,⟨110,(0,0),0,[.int .i64 x,.int .u64 y]⟩)],4⟩ 53 dead [some false]))=some (Ex.exit 0,[LV.v (V1.one (At.ptr 0 0)),LV.v (V1.one (At.int IntKind.i64 s)),LV.v (V1.one (At.ptr 3 0))],[some { ty:=61,fr:=(0,0),es:=0,cells:=[At.bool hb] },some { ty:=ty,fr:=fr,es:=es,cells:=l },some { ty:=110,fr:=(0,0),es:=0,cells:=[At.int IntKind.i64 x,At.int IntKind.u64 y] }],[(decide (i<mm),false)]):=by kernel_rfl
theorem jeF (dead:Nat→Value) (hb:Bool) (s:Int) (oa na ca ob nn cb:Nat) (ty:TypeId) (fr:Nat×Nat) (es:Nat) (l:List At) (x y:Int):jI [8] [0,1] (exec Tryz.prog S18 Zl 400 (.code (c2 (c2 (c2 (c2 (jk Tryz.prog 81)))))) (Kst.st ⟨[(0,A0),(1,I s),(9,.v (.one (.ptr 3 0)))],[(0,flag 61 hb),(1,⟨ty,fr,es,l⟩),(3,⟨110,(0,0),0,[.int .i64 x,.int .u64 y]⟩)],4⟩ 53 dead []))=some (Ex.ret,[LV.v (V1.one (At.int IntKind.i64 (zR (jb x y) s)))],[some { ty:=61,fr:=(0,0),es:=0,cells:=[At.bool (hb||JK (jb x y) s)] },some { ty:=ty,fr:=fr,es:=es,cells:=l }],[(isI x,true),(isU y,true)]):=by kernel_rfl
theorem jc6 (hb:Bool) (s:Int) (oa na ca ob nn cb:Nat) (ty:TypeId) (fr:Nat×Nat) (es:Nat) (l:List At) (ty2:TypeId) (fr2:Nat×Nat) (es2:Nat) (l2:List At):(jR Tryz.prog S18 Zl 2000 81 [A0,I s,SLX 1 oa na ca,SLX 2 ob nn cb] [(0,flag 61 hb),(1,⟨ty,fr,es,l⟩),(2,⟨ty2,fr2,es2,l2⟩)] 3 [some true,some true,some true,none]).map (fun r=>(r.1,getM r.2.1 0,getM r.2.1 1,getM r.2.1 2,r.2.2.2))=some (LV.v (V1.one (At.int IntKind.i64 (zR (jb 0 0) s))),some { ty:=61,fr:=(0,0),es:=0,cells:=[At.bool (hb||JK (jb 0 0) s)] },some { ty:=ty,fr:=fr,es:=es,cells:=l },some { ty:=ty2,fr:=fr2,es:=es2,cells:=l2 },[(isI 0,true),(isU 0,true),(decide (s<0),true),(decide (s<0),true),(decide (s<0),true)]):=by kernel_rfl
theorem jc7 (hb:Bool) (s:Int) (oa na ca ob nn cb:Nat) (ty:TypeId) (fr:Nat×Nat) (es:Nat) (l:List At) (ty2:TypeId) (fr2:Nat×Nat) (es2:Nat) (l2:List At):(jR Tryz.prog S18 Zl 2000 81 [A0,I s,SLX 1 oa na ca,SLX 2 ob nn cb] [(0,flag 61 hb),(1,⟨ty,fr,es,l⟩),(2,⟨ty2,fr2,es2,l2⟩)] 3 [some false,some false,some false,some true]).map (fun r=>(r.1,getM r.2.1 0,getM r.2.1 1,getM r.2.1 2,r.2.2.2))=some (LV.v (V1.one (At.int IntKind.i64 (zR (jb 0 0) s))),some { ty:=61,fr:=(0,0),es:=0,cells:=[At.bool (hb||JK (jb 0 0) s)] },some { ty:=ty,fr:=fr,es:=es,cells:=l },some { ty:=ty2,fr:=fr2,es:=es2,cells:=l2 },[(isI 0,true),(isU 0,true),(decide (s>120),true),(decide (s<0),false),(decide (s<0),false),(decide (s<0),false)]):=by kernel_rfl
theorem jc8 (hb:Bool) (s:Int) (oa na ca ob nn cb:Nat) (ty:TypeId) (fr:Nat×Nat) (es:Nat) (l:List At) (ty2:TypeId) (fr2:Nat×Nat) (es2:Nat) (l2:List At):(jR Tryz.prog S18 Zl 2000 81 [A0,I s,SLX 1 oa na ca,SLX 1 ob nn cb] [(0,flag 61 hb),(1,⟨ty,fr,es,l⟩)] 3 [some true,some true,some true,none]).map (fun r=>(r.1,getM r.2.1 0,getM r.2.1 1,getM r.2.1 2,r.2.2.2))=some (LV.v (V1.one (At.int IntKind.i64 (zR (jb 0 0) s))),some { ty:=61,fr:=(0,0),es:=0,cells:=[At.bool (hb||JK (jb 0 0) s)] },some { ty:=ty,fr:=fr,es:=es,cells:=l },none,[(isI 0,true),(isU 0,true),(decide (s<0),true),(decide (s<0),true),(decide (s<0),true)]):=by kernel_rfl
theorem jc9 (hb:Bool) (s:Int) (oa na ca ob nn cb:Nat) (ty:TypeId) (fr:Nat×Nat) (es:Nat) (l:List At) (ty2:TypeId) (fr2:Nat×Nat) (es2:Nat) (l2:List At):(jR Tryz.prog S18 Zl 2000 81 [A0,I s,SLX 1 oa na ca,SLX 1 ob nn cb] [(0,flag 61 hb),(1,⟨ty,fr,es,l⟩)] 3 [some false,some false,some false,some true]).map (fun r=>(r.1,getM r.2.1 0,getM r.2.1 1,getM r.2.1 2,r.2.2.2))=some (LV.v (V1.one (At.int IntKind.i64 (zR (jb 0 0) s))),some { ty:=61,fr:=(0,0),es:=0,cells:=[At.bool (hb||JK (jb 0 0) s)] },some { ty:=ty,fr:=fr,es:=es,cells:=l },none,[(isI 0,true),(isU 0,true),(decide (s>120),true),(decide (s<0),false),(decide (s<0),false),(decide (s<0),false)]):=by kernel_rfl
theorem jaO (hb:Bool) (s:Int) (oa na ca ob nn cb:Nat) (ty:TypeId) (fr:Nat×Nat) (es:Nat) (l:List At) (ty2:TypeId) (fr2:Nat×Nat) (es2:Nat) (l2:List At):(jR Tryz.prog S18 Zl 2000 81 [A0,I s,SLX 1 oa na ca,NIL] [(0,flag 61 hb),(1,⟨ty,fr,es,l⟩)] 2 [some true,some true,some true,none]).map (fun r=>(r.1,getM r.2.1 0,getM r.2.1 1,getM r.2.1 2,r.2.2.2))=some (LV.v (V1.one (At.int IntKind.i64 (zR (jb 0 0) s))),some { ty:=61,fr:=(0,0),es:=0,cells:=[At.bool (hb||JK (jb 0 0) s)] },some { ty:=ty,fr:=fr,es:=es,cells:=l },none,[(isI 0,true),(isU 0,true),(decide (s<0),true),(decide (s<0),true),(decide (s<0),true)]):=by kernel_rfl
theorem jaP (hb:Bool) (s:Int) (oa na ca ob nn cb:Nat) (ty:TypeId) (fr:Nat×Nat) (es:Nat) (l:List At) (ty2:TypeId) (fr2:Nat×Nat) (es2:Nat) (l2:List At):(jR Tryz.prog S18 Zl 2000 81 [A0,I s,SLX 1 oa na ca,NIL] [(0,flag 61 hb),(1,⟨ty,fr,es,l⟩)] 2 [some false,some false,some false,some true]).map (fun r=>(r.1,getM r.2.1 0,getM r.2.1 1,getM r.2.1 2,r.2.2.2))=some (LV.v (V1.one (At.int IntKind.i64 (zR (jb 0 0) s))),some { ty:=61,fr:=(0,0),es:=0,cells:=[At.bool (hb||JK (jb 0 0) s)] },some { ty:=ty,fr:=fr,es:=es,cells:=l },none,[(isI 0,true),(isU 0,true),(decide (s>120),true),(decide (s<0),false),(decide (s<0),false),(decide (s<0),false)]):=by kernel_rfl
theorem jda (hb:Bool) (s:Int) (oa na ca ob nn cb:Nat) (ty:TypeId) (fr:Nat×Nat) (es:Nat) (l:List At) (ty2:TypeId) (fr2:Nat×Nat) (es2:Nat) (l2:List At):(jR Tryz.prog S18 Zl 2000 81 [A0,I s,SLX 1 oa na ca,NIL] [(0,flag 61 hb),(1,⟨ty,fr,es,l⟩)] 2 [some false,some false,some false,some false,some false]).map (fun r=>(r.1,getM r.2.1 0,getM r.2.1 1,getM r.2.1 2,r.2.2.2))=some (LV.v (V1.one (At.int IntKind.i64 (zR (jb 0 0) s))),some { ty:=61,fr:=(0,0),es:=0,cells:=[At.bool (hb||JK (jb 0 0) s)] },some { ty:=ty,fr:=fr,es:=es,cells:=l },some { ty:=110,fr:=(0,0),es:=0,cells:=[At.int IntKind.i64 0,At.int IntKind.u64 0] },[(isI 0,true),(isU 0,true),(decide (0<if 100<if 0<(na:Int) then 0 else (na:Int) then 100 else if 0<(na:Int) then 0 else (na:Int)),false),(decide (s>120),false),(decide (s<0),false),(decide (s<0),false),(decide (s<0),false)]):=by kernel_rfl
theorem ZB (hb:Bool) (s:Int) (oa na ca ob nn cb:Nat) (ty:TypeId) (fr:Nat×Nat) (es:Nat) (l:List At) (ty2:TypeId) (fr2:Nat×Nat) (es2:Nat) (l2:List At):(jR Tryz.prog S18 Zl 2000 81 [A0,I s,NIL,SLX 1 ob nn cb] [(0,flag 61 hb),(1,⟨ty,fr,es,l⟩)] 2 [some true,some true,some true,none]).map (fun r=>(r.1,getM r.2.1 0,getM r.2.1 1,getM r.2.1 2,r.2.2.2))=some (LV.v (V1.one (At.int IntKind.i64 (zR (jb 0 0) s))),some { ty:=61,fr:=(0,0),es:=0,cells:=[At.bool (hb||JK (jb 0 0) s)] },some { ty:=ty,fr:=fr,es:=es,cells:=l },none,[(isI 0,true),(isU 0,true),(decide (s<0),true),(decide (s<0),true),(decide (s<0),true)]):=by kernel_rfl
theorem ZC (hb:Bool) (s:Int) (oa na ca ob nn cb:Nat) (ty:TypeId) (fr:Nat×Nat) (es:Nat) (l:List At) (ty2:TypeId) (fr2:Nat×Nat) (es2:Nat) (l2:List At):(jR Tryz.prog S18 Zl 2000 81 [A0,I s,NIL,SLX 1 ob nn cb] [(0,flag 61 hb),(1,⟨ty,fr,es,l⟩)] 2 [some false,some false,some false,some true]).map (fun r=>(r.1,getM r.2.1 0,getM r.2.1 1,getM r.2.1 2,r.2.2.2))=some (LV.v (V1.one (At.int IntKind.i64 (zR (jb 0 0) s))),some { ty:=61,fr:=(0,0),es:=0,cells:=[At.bool (hb||JK (jb 0 0) s)] },some { ty:=ty,fr:=fr,es:=es,cells:=l },none,[(isI 0,true),(isU 0,true),(decide (s>120),true),(decide (s<0),false),(decide (s<0),false),(decide (s<0),false)]):=by kernel_rfl
theorem jaQ (hb:Bool) (s:Int) (oa na ca ob nn cb:Nat) (ty:TypeId) (fr:Nat×Nat) (es:Nat) (l:List At) (ty2:TypeId) (fr2:Nat×Nat) (es2:Nat) (l2:List At):(jR Tryz.prog S18 Zl 2000 81 [A0,I s,NIL,SLX 1 ob nn cb] [(0,flag 61 hb),(1,⟨ty,fr,es,l⟩)] 2 [some false,some false,some false,some false,some false]).map (fun r=>(r.1,getM r.2.1 0,getM r.2.1 1,getM r.2.1 2,r.2.2.2))=some (LV.v (V1.one (At.int IntKind.i64 (zR (jb 0 0) s))),some { ty:=61,fr:=(0,0),es:=0,cells:=[At.bool (hb||JK (jb 0 0) s)] },some { ty:=ty,fr:=fr,es:=es,cells:=l },some { ty:=110,fr:=(0,0),es:=0,cells:=[At.int IntKind.i64 0,At.int IntKind.u64 0] },[(isI 0,true),(isU 0,true),(decide (0<if 100<if (nn:Int)<0 then (nn:Int) else 0 then 100 else if (nn:Int)<0 then (nn:Int) else 0),false),(decide (s>120),false),(decide (s<0),false),(decide (s<0),false),(decide (s<0),false)]):=by kernel_rfl
theorem jaR (hb:Bool) (s:Int) (oa na ca ob nn cb:Nat) (ty:TypeId) (fr:Nat×Nat) (es:Nat) (l:List At) (ty2:TypeId) (fr2:Nat×Nat) (es2:Nat) (l2:List At):(jR Tryz.prog S18 Zl 2000 81 [A0,I s,NIL,NIL] [(0,flag 61 hb)] 1 [some true,some true,some true,none]).map (fun r=>(r.1,getM r.2.1 0,getM r.2.1 1,getM r.2.1 2,r.2.2.2))=some (LV.v (V1.one (At.int IntKind.i64 (zR (jb 0 0) s))),some { ty:=61,fr:=(0,0),es:=0,cells:=[At.bool (hb||JK (jb 0 0) s)] },none,none,[(isI 0,true),(isU 0,true),(decide (s<0),true),(decide (s<0),true),(decide (s<0),true)]):=by kernel_rfl
theorem jaS (hb:Bool) (s:Int) (oa na ca ob nn cb:Nat) (ty:TypeId) (fr:Nat×Nat) (es:Nat) (l:List At) (ty2:TypeId) (fr2:Nat×Nat) (es2:Nat) (l2:List At):(jR Tryz.prog S18 Zl 2000 81 [A0,I s,NIL,NIL] [(0,flag 61 hb)] 1 [some false,some false,some false,some true]).map (fun r=>(r.1,getM r.2.1 0,getM r.2.1 1,getM r.2.1 2,r.2.2.2))=some (LV.v (V1.one (At.int IntKind.i64 (zR (jb 0 0) s))),some { ty:=61,fr:=(0,0),es:=0,cells:=[At.bool (hb||JK (jb 0 0) s)] },none,none,[(isI 0,true),(isU 0,true),(decide (s>120),true),(decide (s<0),false),(decide (s<0),false),(decide (s<0),false)]):=by kernel_rfl
theorem jdb (hb:Bool) (s:Int) (oa na ca ob nn cb:Nat) (ty:TypeId) (fr:Nat×Nat) (es:Nat) (l:List At) (ty2:TypeId) (fr2:Nat×Nat) (es2:Nat) (l2:List At):(jR Tryz.prog S18 Zl 2000 81 [A0,I s,NIL,NIL] [(0,flag 61 hb)] 1 [some false,some false,some false,some false,some false]).map (fun r=>(r.1,getM r.2.1 0,getM r.2.1 1,getM r.2.1 2,r.2.2.2))=some (LV.v (V1.one (At.int IntKind.i64 (zR (jb 0 0) s))),some { ty:=61,fr:=(0,0),es:=0,cells:=[At.bool (hb||JK (jb 0 0) s)] },some { ty:=110,fr:=(0,0),es:=0,cells:=[At.int IntKind.i64 0,At.int IntKind.u64 0] },none,[(isI 0,true),(isU 0,true),(decide (0<if 100<if 0<0 then 0 else 0 then 100 else if 0<0 then 0 else 0),false),(decide (s>120),false),(decide (s<0),false),(decide (s<0),false),(decide (s<0),false)]):=by kernel_rfl
def yE:List Int→List Int→Int
 | a::l,b::m=>jc a*jc b+yE l m
 | _,_=>0
def kL:List Int→List Int→Bool
 | a::l,b::m=>jV a||(jV b||kL l m)
 | _,_=>false
theorem QF (l:List Int):yE l []=0:=by cases l <;> rfl
theorem XM (l:List Int):kL l []=false:=by cases l <;> rfl
theorem Yt:∀(l m:List Int) (a b:Int),l.length=m.length→yE (l++[a]) (m++[b])=yE l m+jc a*jc b
 | [],[],a,b,_=>by simp [yE]
 | x::l,y::m,a,b,h=>by
  have:=Yt l m a b (by simpa using h)
  simp only [List.cons_append,yE,this];omega
theorem QG:∀(l m:List Int) (a b:Int),l.length=m.length→kL (l++[a]) (m++[b])=(kL l m||(jV a||jV b))
 | [],[],a,b,_=>by simp [kL]
 | x::l,y::m,a,b,h=>by
  have:=QG l m a b (by simpa using h)
  simp only [List.cons_append,kL,this,Bool.or_assoc]
theorem jaT:∀(xs ys:List Int) (n k:Nat),n≤k→(n=k∨xs.length≤n∨ys.length≤n)→yE (xs.take n) (ys.take n)=yE (xs.take k) (ys.take k)∧kL (xs.take n) (ys.take n)=kL (xs.take k) (ys.take k)
 | [],ys,n,k,_,_=>by simp [yE,kL]
 | x::xs,[],n,k,_,_=>by simp [QF,XM]
 | x::xs,y::ys,0,k,_,h=>by
  have:k=0:=by simp at h;omega
  subst this;exact ⟨rfl,rfl⟩
 | x::xs,y::ys,n+1,0,h,_=>by omega
 | x::xs,y::ys,n+1,k+1,h,h'=>by
  have:=jaT xs ys n k (by omega) (by simp at h';omega)
  refine ⟨?_, ?_⟩ <;> simp only [List.take_succ_cons,yE,kL,this.1,this.2]
theorem QH:∀(l m:List Int),-(l.length*1329227995784915872903807060280344576:Int)≤yE l m∧yE l m≤l.length*1329227995784915872903807060280344576
 | [],m=>by simp [yE]
 | a::l,[]=>by
  rw [QF]
  have:(0:Int)≤((a::l).length:Int)*1329227995784915872903807060280344576:=Int.mul_nonneg (by omega) (by decide)
  omega
 | a::l,b::m=>by
  have h1:=QH l m
  have h2:=ZG a b
  simp only [yE,List.length_cons]
  push_cast
  omega
theorem jeG {D p:Int} {i m:Nat} (hi:i<m) (hm:m≤100) (b0: -((i:Int)*1329227995784915872903807060280344576)≤D∧D≤i*1329227995784915872903807060280344576) (b1: -1329227995784915872903807060280344576≤p∧p≤1329227995784915872903807060280344576):
  (-170141183460469231731687303715884105728≤D∧D<170141183460469231731687303715884105728)∧(-170141183460469231731687303715884105728≤p∧p<170141183460469231731687303715884105728)∧(-170141183460469231731687303715884105728≤D+p∧D+p<170141183460469231731687303715884105728):=by omega
theorem jeH {D:Int} {n k:Nat} (b0: -(((min 100 n:Nat):Int)*1329227995784915872903807060280344576)≤D∧D≤((min 100 n:Nat):Int)*1329227995784915872903807060280344576):
  -170141183460469231731687303715884105728≤D∧D<170141183460469231731687303715884105728:=by omega
def qP (s:Int) (xs ys:List Int):Int:=zR (yE (xs.take 100) (ys.take 100)) s
def yz (s:Int) (xs ys:List Int):Bool:=kL (xs.take 100) (ys.take 100)||JK (yE (xs.take 100) (ys.take 100)) s
def jaU:List AV→Bool→Option (LV×Bool×List (Bool×Bool))
 | [.pl (.v (.one (.int .i64 s))),.ints xs,.ints ys],hb=>some (I (qP s xs ys),hb||yz s xs ys,[])
 | _,_=>none
theorem jaV {s:Int} {xs ys:List Int} (h:xs=[]∨ys=[]) (hb:Bool):zR (jb 0 0) s=qP s xs ys∧(hb||JK (jb 0 0) s)=(hb||yz s xs ys):=by
 have e:jb 0 0=0:=rfl
 unfold qP yz
 rcases h with rfl | rfl
 ·simp [yE,kL,e]
 ·simp [QF,XM,e]
theorem ya {s:Int} (h:s<0∨s>120) (xs ys:List Int) (hb:Bool):zR (jb 0 0) s=qP s xs ys∧(hb||JK (jb 0 0) s)=(hb||yz s xs ys):=by
 unfold qP yz zR JK
 rcases h with h | h
 ·simp [h]
 ·have:¬s<0:=by omega
  simp [h,this]
section
variable {P:Program} {S:FuncId→Option SumK} {z:Md}
theorem jcb (hs:Sound P S) {n:Nat} {f:FuncId} {args:List LV} {m m':Mem} {nb:Nat} {dec:List (Option Bool)} {v:LV} {b0 b1 b2:Option Blk} {cs:List (Bool×Bool)}
  (hrun:(jR P S z n f args m nb dec).map (fun r=>(r.1,getM r.2.1 0,getM r.2.1 1,getM r.2.1 2,r.2.2.2))=some (v,b0,b1,b2,cs))
  (hg:∀i b,getM m' i=some b→(i=0∧b0=some b∨i=1∧b1=some b∨i=2∧b2=some b)∧i<nb∧okL (below nb) b.cells=true) (hc:∀c∈cs,c.1=c.2) (hm:ku nb m=true) (ha:∀u∈args,u.ok (below nb)=true) (hv:v.ok noP=true)
  (E:Env) (w:World) (hrel:Rel E (getM m) w):Calls P f (args.map (LV.den E)).toArray w fun e w'=>e = .returned (v.den E0)∧Lcl E m m' w w':=by
 cases hq:jR P S z n f args m nb dec with
 | none=>rw [hq] at hrun;cases hrun
 | some q=>
  obtain ⟨v',m2,nb',cs'⟩:=q
  rw [hq] at hrun
  simp only [Option.map_some,Option.some.injEq,Prod.mk.injEq] at hrun
  obtain ⟨rfl,e0,e1,e2,rfl⟩:=hrun
  refine yu hs hq (fun i b hib=> ?_) hc hm ha hv E w hrel
  obtain ⟨h,h2⟩:=hg i b hib
  refine ⟨?_,h2⟩
  rcases h with ⟨rfl,h⟩ | ⟨rfl,h⟩ | ⟨rfl,h⟩
  ·rw [e0,h]
  ·rw [e1,h]
  ·rw [e2,h]
end
theorem ZD {s:Int} (h:s<0):∀c∈[(isI 0,true),(isU 0,true),(decide (s<0),true),(decide (s<0),true),(decide (s<0),true)],c.1=c.2:=by
 have h1:isI 0=true:=by decide
 have h2:isU 0=true:=by decide
 rw [h1,h2,decide_eq_true h];simp
theorem ZE {s:Int} (h:s>120):∀c∈[(isI 0,true),(isU 0,true),(decide (s>120),true),(decide (s<0),false),(decide (s<0),false),(decide (s<0),false)],c.1=c.2:=by
 have h1:isI 0=true:=by decide
 have h2:isU 0=true:=by decide
 rw [h1,h2,decide_eq_true h,decide_eq_false (show ¬s<0 by omega)];simp
theorem jkt {s:Int} {b:Bool} (hb:b=false) (h0:0≤s) (h:s≤120):∀c∈[(isI 0,true),(isU 0,true),(b,false),(decide (s>120),false),(decide (s<0),false),(decide (s<0),false),(decide (s<0),false)],c.1=c.2:=by
 have h1:isI 0=true:=by decide
 have h2:isU 0=true:=by decide
 rw [h1,h2,hb,decide_eq_false (show ¬s>120 by omega),decide_eq_false (show ¬s<0 by omega)];simp
theorem jcc {nb:Nat} {b0 b1 b2 b3:Blk} (hnb:4≤nb) (h0:okL (below nb) b0.cells=true) (h1:okL (below nb) b1.cells=true) (h2:okL (below nb) b2.cells=true) (h3:okL (below nb) b3.cells=true):ku nb [(0,b0),(1,b1),(2,b2),(3,b3)]=true:=by
 have e0:Nat.blt 0 nb=true:=by rw [Ko];simp;omega
 have e1:Nat.blt 1 nb=true:=by rw [Ko];simp;omega
 have e2:Nat.blt 2 nb=true:=by rw [Ko];simp;omega
 have e3:Nat.blt 3 nb=true:=by rw [Ko];simp;omega
 simp only [ku,e0,e1,e2,e3,h0,h1,h2,h3]
 rfl
theorem Yu {nb:Nat} {b0 b1 b3:Blk} (hnb:4≤nb) (h0:okL (below nb) b0.cells=true) (h1:okL (below nb) b1.cells=true) (h3:okL (below nb) b3.cells=true):ku nb [(0,b0),(1,b1),(3,b3)]=true:=by
 have e0:Nat.blt 0 nb=true:=by rw [Ko];simp;omega
 have e1:Nat.blt 1 nb=true:=by rw [Ko];simp;omega
 have e3:Nat.blt 3 nb=true:=by rw [Ko];simp;omega
 simp only [ku,e0,e1,e3,h0,h1,h3]
 rfl
theorem jeI {nb:Nat} {b0:Blk} (hnb:1≤nb) (h0:okL (below nb) b0.cells=true):ku nb [(0,b0)]=true:=by
 have e0:Nat.blt 0 nb=true:=by rw [Ko];simp;omega
 simp only [ku,e0,h0]
 rfl
def P3:LV:= .v (.one (.ptr 3 0))
noncomputable def jnc:Code:=c2 (c2 (c2 (jk Tryz.prog 81)))
def jhq (k1 k2:Blk) (s:Int) (oa na ca ob nn cb:Nat) (h:Bool) (v mm i:Int):Kst:=⟨[(0,A0),(1,I s),(2,SLX 1 oa na ca),(3,SLX 2 ob nn cb),(9,P3),(25,I mm),(26,I i)],[(0,flag 61 h),(1,k1),(2,k2),(3,wB v)],4⟩
def jku (k1 k2:Blk) (s:Int) (h:Bool) (v:Int):Kst:=⟨[(0,A0),(1,I s),(9,P3)],[(0,flag 61 h),(1,k1),(2,k2),(3,wB v)],4⟩
theorem jhr (k1 k2:Blk) (s:Int) (oa na ca ob nn cb:Nat) (xs ys:List Int) (hx:SlAt 1 k1 oa na xs) (hy:SlAt 1 k2 ob nn ys) (hb:Bool) (m:Nat) (hm:m≤100) (hma:m≤na) (hmb:m≤nn) (i:Nat) (hi:i<m):
  To Tryz.prog 53 (c1 (c1 (c2 (c1 jnc)))) (jhq k1 k2 s oa na ca ob nn cb (hb||kL (xs.take i) (ys.take i)) (yE (xs.take i) (ys.take i)) m i) .normal (jhq k1 k2 s oa na ca ob nn cb (hb||kL (xs.take (i+1)) (ys.take (i+1))) (yE (xs.take (i+1)) (ys.take (i+1))) m ((i:Int)+1)):=by
 obtain ⟨hlen,hat,hok⟩:=hx
 obtain ⟨hlen2,hat2,hok2⟩:=hy
 have ix:i<xs.length:=by omega
 have iy:i<ys.length:=by omega
 have hx:=Ja (hat i ix)
 have hy:=Ja (hat2 i iy)
 have b0:=QH (xs.take i) (ys.take i)
 rw [List.length_take] at b0
 have b1:=ZG xs[i] ys[i]
 have hmi:((min i xs.length:Nat):Int)=i:=by omega
 rw [hmi] at b0
 have e0:(xs.take i).length=(ys.take i).length:=by simp only [List.length_take];omega
 have e1:yE (xs.take (i+1)) (ys.take (i+1))=yE (xs.take i) (ys.take i)+jc xs[i]*jc ys[i]:=by rw [qv xs i ix,qv ys i iy,Yt _ _ _ _ e0]
 have e2:(hb||kL (xs.take (i+1)) (ys.take (i+1)))=(((hb||kL (xs.take i) (ys.take i))||jV xs[i])||jV ys[i]):=by rw [qv xs i ix,qv ys i iy,QG _ _ _ _ e0];simp [Bool.or_assoc]
 have e3:((i:Int)).toNat*1=i:=by simp
 have e4:wr .i64 ((i:Int)+1)=(i:Int)+1:=xu (by omega) (by omega)
 have hI:=yF xs[i]
 have hI2:=yF ys[i]
 obtain ⟨ty,fr,es,l⟩:=k1
 obtain ⟨ty2,fr2,es2,l2⟩:=k2
 rw [e1,e2]
 generalize yE (xs.take i) (ys.take i)=D at *
 obtain ⟨⟨bD0,bD1⟩,⟨bp0,bp1⟩,bs0,bs1⟩:=jeG hi hm b0 b1
 obtain ⟨i2a,i2b⟩:=qa D bD0 bD1
 obtain ⟨l2a,l2b⟩:=qG D
 obtain ⟨i3a,i3b⟩:=qa (jc xs[i]*jc ys[i]) bp0 bp1
 obtain ⟨l3a,l3b⟩:=qG (jc xs[i]*jc ys[i])
 have j0:(0:Int)≤(i:Int):=Int.natCast_nonneg i
 have j1:(i:Int)<(na:Int):=Int.ofNat_lt.2 (Nat.lt_of_lt_of_le hi hma)
 have j2:(i:Int)<(nn:Int):=Int.ofNat_lt.2 (Nat.lt_of_lt_of_le hi hmb)
 have j3:(i:Int)<(m:Int):=Int.ofNat_lt.2 hi
 refine To.run (z:=Zl) sound18 (slots:=[0,1,2,3,9,25,26]) (blks:=[0,1,2,3]) (vs:=[A0,I s,SLX 1 oa na ca,SLX 2 ob nn cb,P3,I m,I ((i:Int)+1)])
  (bs:=[flag 61 (((hb||kL (xs.take i) (ys.take i))||jV xs[i])||jV ys[i]),⟨ty,fr,es,l⟩,⟨ty2,fr2,es2,l2⟩,wB (D+jc xs[i]*jc ys[i])]) (nbB:=4)
  (fun dead=>jey dead (hb||kL (xs.take i) (ys.take i)) s oa na ca ob nn cb ty fr es l ty2 fr2 es2 l2 (wHi D) (wLo D) m i) rfl (by rw [e4];rfl) (by rw [e3,hx.1,hy.1];simp only [jW];rfl) ?_ (qF rfl (jcc (Nat.le_refl _) rfl (jn jm hok) (jn jm hok2) rfl)) (Nat.le_refl _)
 rw [e3,hx.1,hx.2,hy.1,hy.2,hI,hI2]
 simp only [jW,jZ,isI_iff,isU_iff,isW_iff,Bool.and_eq_true,decide_eq_true_eq]
 repeat' apply And.intro
 all_goals first | exact jd | exact True.intro | assumption
theorem jkv (k1 k2:Blk) (s:Int) (oa na ca ob nn cb:Nat) (hok:okL noP k1.cells=true) (hok2:okL noP k2.cells=true) (h:Bool) (v:Int) (m:Nat):To Tryz.prog 53 (c1 (c1 (c2 (c1 jnc)))) (jhq k1 k2 s oa na ca ob nn cb h v m m) (.exit 0) (jku k1 k2 s h v):=by
 obtain ⟨ty,fr,es,l⟩:=k1
 obtain ⟨ty2,fr2,es2,l2⟩:=k2
 refine To.exec (z:=Zl) sound18 (slots:=[0,1,9]) (blks:=[0,1,2,3]) (vs:=[A0,I s,P3]) (bs:=[flag 61 h,⟨ty,fr,es,l⟩,⟨ty2,fr2,es2,l2⟩,wB v]) (nbB:=4) (fun dead=>jez dead h s oa na ca ob nn cb ty fr es l ty2 fr2 es2 l2 (wHi v) (wLo v) m m) ?_ (qF rfl (jcc (Nat.le_refl _) rfl (jn jm hok) (jn jm hok2) rfl)) (Nat.le_refl _)
 simp
theorem jjm (k1 k2:Blk) (s:Int) (oa na ca ob nn cb:Nat) (xs ys:List Int) (hx:SlAt 1 k1 oa na xs) (hy:SlAt 1 k2 ob nn ys) (hb:Bool) (m:Nat) (hm:m≤100) (hma:m≤na) (hmb:m≤nn):∀(j i:Nat),i+j=m→
  Rd Tryz.prog 53 (c1 (c1 (c2 (c1 jnc)))) (j+1) (jhq k1 k2 s oa na ca ob nn cb (hb||kL (xs.take i) (ys.take i)) (yE (xs.take i) (ys.take i)) m i) (.exit 0) (jku k1 k2 s (hb||kL (xs.take m) (ys.take m)) (yE (xs.take m) (ys.take m)))
 | 0,i,h=>by
  have hi:i=m:=by omega
  subst hi
  exact Rd.last (by simp) (jkv k1 k2 s oa na ca ob nn cb hx.2.2 hy.2.2 _ _ i)
 | j+1,i,h=>Rd.next (jhr k1 k2 s oa na ca ob nn cb xs ys hx hy hb m hm hma hmb i (by omega)) (jjm k1 k2 s oa na ca ob nn cb xs ys hx hy hb m hm hma hmb j (i+1) (by omega))
theorem joA (k1 k2:Blk) (s:Int) (h0:0≤s) (h1:s≤120) (oa na ca ob nn cb:Nat) (xs ys:List Int) (hx:SlAt 1 k1 oa na xs) (hy:SlAt 1 k2 ob nn ys) (hb:Bool) (E:Env) (w:World) (hrel:Rel E (getM [(0,flag 61 hb),(1,k1),(2,k2)]) w):
  Calls Tryz.prog 81 ((A0::([I s]++[SLX 1 oa na ca,SLX 2 ob nn cb])).map (LV.den E)).toArray w fun e w'=>e = .returned ((I (qP s xs ys)).den E0)∧Lcl E [(0,flag 61 hb),(1,k1),(2,k2)] [(0,flag 61 (hb||yz s xs ys)),(1,k1),(2,k2)] w w':=by
 have hxl:xs.length=na:=by have:=hx.1;omega
 have hyl:ys.length=nn:=by have:=hy.1;omega
 have hok:=hx.2.2
 have hok2:=hy.2.2
 have hm:min (min na nn) 100≤100:=by omega
 have hR:=jjm k1 k2 s oa na ca ob nn cb xs ys hx hy hb (min (min na nn) 100) (by omega) (by omega) (by omega) (min (min na nn) 100) 0 (by omega)
 have hmin:=jaT xs ys (min (min na nn) 100) 100 (by omega) (by omega)
 rw [hmin.1,hmin.2] at hR
 have eI:(if (100:Int)<if (nn:Int)<(na:Int) then (nn:Int) else (na:Int) then 100 else if (nn:Int)<(na:Int) then (nn:Int) else (na:Int))=((min (min na nn) 100:Nat):Int):=by (repeat' split) <;> omega
 generalize min (min na nn) 100=m at *
 have b0:=QH (xs.take 100) (ys.take 100)
 rw [List.length_take] at b0
 have hV:qP s xs ys=zR (yE (xs.take 100) (ys.take 100)) s:=rfl
 have hH:(hb||yz s xs ys)=((hb||kL (xs.take 100) (ys.take 100))||JK (yE (xs.take 100) (ys.take 100)) s):=by unfold yz;rw [Bool.or_assoc]
 rw [hV,hH]
 generalize yE (xs.take 100) (ys.take 100)=D at *
 obtain ⟨bD0,bD1⟩:=jeH (k:=0) b0
 have hi2:=qa D bD0 bD1
 have hl2:=qG D
 have hs1:decide (s>120)=false:=decide_eq_false (by omega)
 have hs0:decide (s<0)=false:=decide_eq_false (by omega)
 obtain ⟨ty,fr,es,l⟩:=k1
 obtain ⟨ty2,fr2,es2,l2⟩:=k2
 refine J9 (c:=jk Tryz.prog 81) (e:= .ret) (nb:=3) (B:=⟨[(8,I (zR D s))],[(0,flag 61 ((hb||kL (xs.take 100) (ys.take 100))||JK D s)),(1,⟨ty,fr,es,l⟩),(2,⟨ty2,fr2,es2,l2⟩)],4⟩) Tryz.func81 (by kernel_rfl) (Nat.le_of_ble_eq_true (by kernel_rfl)) (Nat.le_of_ble_eq_true (by kernel_rfl))
  (fun u hu=> ?_) (yU (Nat.le_refl _) rfl (jn jm hok) (jn jm hok2)) ?_ (.inr rfl) (fun dead=>by kernel_rfl) rfl (fun i b hib=> ?_) E w hrel
 ·simp only [List.cons_append,List.nil_append,List.mem_cons,List.not_mem_nil,or_false] at hu
  rcases hu with rfl | rfl | rfl | rfl <;> rfl
 ·refine To.spineR (z:=Zl) sound18 (k:=3) (slots:=[0,1,2,3,9]) (blks:=[0,1,2,3]) (vs:=[A0,I s,SLX 1 oa na ca,SLX 2 ob nn cb,P3]) (bs:=[flag 61 hb,⟨ty,fr,es,l⟩,⟨ty2,fr2,es2,l2⟩,wB 0]) (nbB:=4) (by kernel_rfl) (fun dead=>jew dead hb s oa na ca ob nn cb ty fr es l ty2 fr2 es2 l2) rfl rfl rfl (by rw [hs1,hs0];simp) (qF rfl (jcc (Nat.le_refl _) rfl (jn jm hok) (jn jm hok2) rfl)) (Nat.le_succ 3) ?_
  refine To.seq (by kernel_rfl) (To.seq (by kernel_rfl) (To.run (z:=Zl) sound18 (slots:=[0,1,2,3,9,25,26]) (blks:=[0,1,2,3]) (vs:=[A0,I s,SLX 1 oa na ca,SLX 2 ob nn cb,P3,I m,I 0]) (bs:=[flag 61 hb,⟨ty,fr,es,l⟩,⟨ty2,fr2,es2,l2⟩,wB 0]) (nbB:=4) (fun dead=>jex dead hb s oa na ca ob nn cb ty fr es l ty2 fr2 es2 l2 0 0) rfl (by simp only [eI];rfl) rfl jd (qF rfl (jcc (Nat.le_refl _) rfl (jn jm hok) (jn jm hok2) rfl)) (Nat.le_refl _))
   (To.block (id:=0) (by kernel_rfl) (To.loop (m:=m+1) (by kernel_rfl) ?_) (.inl rfl))) (C:=_) (B:=jku ⟨ty,fr,es,l⟩ ⟨ty2,fr2,es2,l2⟩ s (hb||kL (xs.take 100) (ys.take 100)) D) ?_
  ·simp only [List.take_zero,kL,Bool.or_false,yE] at hR
   exact hR
  ·refine To.run (z:=Zl) sound18 (slots:=[8]) (blks:=[0,1,2]) (vs:=[I (zR D s)]) (bs:=[flag 61 ((hb||kL (xs.take 100) (ys.take 100))||JK D s),⟨ty,fr,es,l⟩,⟨ty2,fr2,es2,l2⟩]) (nbB:=4) (fun dead=>jeA dead (hb||kL (xs.take 100) (ys.take 100)) s oa na ca ob nn cb ty fr es l ty2 fr2 es2 l2 (wHi D) (wLo D)) rfl ?_ ?_ ?_ (qF rfl (yU (Nat.le_of_ble_eq_true rfl) rfl (jn jm hok) (jn jm hok2))) (Nat.le_refl _)
   ·rw [jW];rfl
   ·rw [jW];rfl
   ·simp only [jZ,isI_iff,isU_iff]
    exact ⟨hi2,hl2,jd⟩
 ·rcases jec hib with ⟨rfl,rfl⟩ | ⟨rfl,rfl⟩ | ⟨rfl,rfl⟩
  ·exact ⟨rfl,by decide,rfl⟩
  ·exact ⟨rfl,by decide,jn jm hok⟩
  ·exact ⟨rfl,by decide,jn jm hok2⟩
def jhs (k1:Blk) (s:Int) (oa na ca ob nn cb:Nat) (h:Bool) (v mm i:Int):Kst:=⟨[(0,A0),(1,I s),(2,SLX 1 oa na ca),(3,SLX 1 ob nn cb),(9,P3),(25,I mm),(26,I i)],[(0,flag 61 h),(1,k1),(3,wB v)],4⟩
def jkw (k1:Blk) (s:Int) (h:Bool) (v:Int):Kst:=⟨[(0,A0),(1,I s),(9,P3)],[(0,flag 61 h),(1,k1),(3,wB v)],4⟩
theorem jht (k1:Blk) (s:Int) (oa na ca ob nn cb:Nat) (xs ys:List Int) (hx:SlAt 1 k1 oa na xs) (hy:SlAt 1 k1 ob nn ys) (hb:Bool) (m:Nat) (hm:m≤100) (hma:m≤na) (hmb:m≤nn) (i:Nat) (hi:i<m):
  To Tryz.prog 53 (c1 (c1 (c2 (c1 jnc)))) (jhs k1 s oa na ca ob nn cb (hb||kL (xs.take i) (ys.take i)) (yE (xs.take i) (ys.take i)) m i) .normal (jhs k1 s oa na ca ob nn cb (hb||kL (xs.take (i+1)) (ys.take (i+1))) (yE (xs.take (i+1)) (ys.take (i+1))) m ((i:Int)+1)):=by
 obtain ⟨hlen,hat,hok⟩:=hx
 obtain ⟨hlen2,hat2,-⟩:=hy
 have ix:i<xs.length:=by omega
 have iy:i<ys.length:=by omega
 have hx:=Ja (hat i ix)
 have hy:=Ja (hat2 i iy)
 have b0:=QH (xs.take i) (ys.take i)
 rw [List.length_take] at b0
 have b1:=ZG xs[i] ys[i]
 have hmi:((min i xs.length:Nat):Int)=i:=by omega
 rw [hmi] at b0
 have e0:(xs.take i).length=(ys.take i).length:=by simp only [List.length_take];omega
 have e1:yE (xs.take (i+1)) (ys.take (i+1))=yE (xs.take i) (ys.take i)+jc xs[i]*jc ys[i]:=by rw [qv xs i ix,qv ys i iy,Yt _ _ _ _ e0]
 have e2:(hb||kL (xs.take (i+1)) (ys.take (i+1)))=(((hb||kL (xs.take i) (ys.take i))||jV xs[i])||jV ys[i]):=by rw [qv xs i ix,qv ys i iy,QG _ _ _ _ e0];simp [Bool.or_assoc]
 have e3:((i:Int)).toNat*1=i:=by simp
 have e4:wr .i64 ((i:Int)+1)=(i:Int)+1:=xu (by omega) (by omega)
 have hI:=yF xs[i]
 have hI2:=yF ys[i]
 obtain ⟨ty,fr,es,l⟩:=k1
 rw [e1,e2]
 generalize yE (xs.take i) (ys.take i)=D at *
 obtain ⟨⟨bD0,bD1⟩,⟨bp0,bp1⟩,bs0,bs1⟩:=jeG hi hm b0 b1
 obtain ⟨i2a,i2b⟩:=qa D bD0 bD1
 obtain ⟨l2a,l2b⟩:=qG D
 obtain ⟨i3a,i3b⟩:=qa (jc xs[i]*jc ys[i]) bp0 bp1
 obtain ⟨l3a,l3b⟩:=qG (jc xs[i]*jc ys[i])
 have j0:(0:Int)≤(i:Int):=Int.natCast_nonneg i
 have j1:(i:Int)<(na:Int):=Int.ofNat_lt.2 (Nat.lt_of_lt_of_le hi hma)
 have j2:(i:Int)<(nn:Int):=Int.ofNat_lt.2 (Nat.lt_of_lt_of_le hi hmb)
 have j3:(i:Int)<(m:Int):=Int.ofNat_lt.2 hi
 refine To.run (z:=Zl) sound18 (slots:=[0,1,2,3,9,25,26]) (blks:=[0,1,3]) (vs:=[A0,I s,SLX 1 oa na ca,SLX 1 ob nn cb,P3,I m,I ((i:Int)+1)])
  (bs:=[flag 61 (((hb||kL (xs.take i) (ys.take i))||jV xs[i])||jV ys[i]),⟨ty,fr,es,l⟩,wB (D+jc xs[i]*jc ys[i])]) (nbB:=4)
  (fun dead=>jeD dead (hb||kL (xs.take i) (ys.take i)) s oa na ca ob nn cb ty fr es l (wHi D) (wLo D) m i) rfl (by rw [e4];rfl) (by rw [e3,hx.1,hy.1];simp only [jW];rfl) ?_ (qF rfl (Yu (Nat.le_refl _) rfl (jn jm hok) rfl)) (Nat.le_refl _)
 rw [e3,hx.1,hx.2,hy.1,hy.2,hI,hI2]
 simp only [jW,jZ,isI_iff,isU_iff,isW_iff,Bool.and_eq_true,decide_eq_true_eq]
 repeat' apply And.intro
 all_goals first | exact jd | exact True.intro | assumption
theorem jkx (k1:Blk) (s:Int) (oa na ca ob nn cb:Nat) (hok:okL noP k1.cells=true) (h:Bool) (v:Int) (m:Nat):To Tryz.prog 53 (c1 (c1 (c2 (c1 jnc)))) (jhs k1 s oa na ca ob nn cb h v m m) (.exit 0) (jkw k1 s h v):=by
 obtain ⟨ty,fr,es,l⟩:=k1
 refine To.exec (z:=Zl) sound18 (slots:=[0,1,9]) (blks:=[0,1,3]) (vs:=[A0,I s,P3]) (bs:=[flag 61 h,⟨ty,fr,es,l⟩,wB v]) (nbB:=4) (fun dead=>jeE dead h s oa na ca ob nn cb ty fr es l (wHi v) (wLo v) m m) ?_ (qF rfl (Yu (Nat.le_refl _) rfl (jn jm hok) rfl)) (Nat.le_refl _)
 simp
theorem jjn (k1:Blk) (s:Int) (oa na ca ob nn cb:Nat) (xs ys:List Int) (hx:SlAt 1 k1 oa na xs) (hy:SlAt 1 k1 ob nn ys) (hb:Bool) (m:Nat) (hm:m≤100) (hma:m≤na) (hmb:m≤nn):∀(j i:Nat),i+j=m→
  Rd Tryz.prog 53 (c1 (c1 (c2 (c1 jnc)))) (j+1) (jhs k1 s oa na ca ob nn cb (hb||kL (xs.take i) (ys.take i)) (yE (xs.take i) (ys.take i)) m i) (.exit 0) (jkw k1 s (hb||kL (xs.take m) (ys.take m)) (yE (xs.take m) (ys.take m)))
 | 0,i,h=>by
  have hi:i=m:=by omega
  subst hi
  exact Rd.last (by simp) (jkx k1 s oa na ca ob nn cb hx.2.2 _ _ i)
 | j+1,i,h=>Rd.next (jht k1 s oa na ca ob nn cb xs ys hx hy hb m hm hma hmb i (by omega)) (jjn k1 s oa na ca ob nn cb xs ys hx hy hb m hm hma hmb j (i+1) (by omega))
theorem joB (k1:Blk) (s:Int) (h0:0≤s) (h1:s≤120) (oa na ca ob nn cb:Nat) (xs ys:List Int) (hx:SlAt 1 k1 oa na xs) (hy:SlAt 1 k1 ob nn ys) (hb:Bool) (E:Env) (w:World) (hrel:Rel E (getM [(0,flag 61 hb),(1,k1)]) w):
  Calls Tryz.prog 81 ((A0::([I s]++[SLX 1 oa na ca,SLX 1 ob nn cb])).map (LV.den E)).toArray w fun e w'=>e = .returned ((I (qP s xs ys)).den E0)∧Lcl E [(0,flag 61 hb),(1,k1)] [(0,flag 61 (hb||yz s xs ys)),(1,k1)] w w':=by
 have hxl:xs.length=na:=by have:=hx.1;omega
 have hyl:ys.length=nn:=by have:=hy.1;omega
 have hok:=hx.2.2
 have hok2:=hy.2.2
 have hm:min (min na nn) 100≤100:=by omega
 have hR:=jjn k1 s oa na ca ob nn cb xs ys hx hy hb (min (min na nn) 100) (by omega) (by omega) (by omega) (min (min na nn) 100) 0 (by omega)
 have hmin:=jaT xs ys (min (min na nn) 100) 100 (by omega) (by omega)
 rw [hmin.1,hmin.2] at hR
 have eI:(if (100:Int)<if (nn:Int)<(na:Int) then (nn:Int) else (na:Int) then 100 else if (nn:Int)<(na:Int) then (nn:Int) else (na:Int))=((min (min na nn) 100:Nat):Int):=by (repeat' split) <;> omega
 generalize min (min na nn) 100=m at *
 have b0:=QH (xs.take 100) (ys.take 100)
 rw [List.length_take] at b0
 have hV:qP s xs ys=zR (yE (xs.take 100) (ys.take 100)) s:=rfl
 have hH:(hb||yz s xs ys)=((hb||kL (xs.take 100) (ys.take 100))||JK (yE (xs.take 100) (ys.take 100)) s):=by unfold yz;rw [Bool.or_assoc]
 rw [hV,hH]
 generalize yE (xs.take 100) (ys.take 100)=D at *
 obtain ⟨bD0,bD1⟩:=jeH (k:=0) b0
 have hi2:=qa D bD0 bD1
 have hl2:=qG D
 have hs1:decide (s>120)=false:=decide_eq_false (by omega)
 have hs0:decide (s<0)=false:=decide_eq_false (by omega)
 obtain ⟨ty,fr,es,l⟩:=k1
 refine J9 (c:=jk Tryz.prog 81) (e:= .ret) (nb:=3) (B:=⟨[(8,I (zR D s))],[(0,flag 61 ((hb||kL (xs.take 100) (ys.take 100))||JK D s)),(1,⟨ty,fr,es,l⟩)],4⟩) Tryz.func81 (by kernel_rfl) (Nat.le_of_ble_eq_true (by kernel_rfl)) (Nat.le_of_ble_eq_true (by kernel_rfl))
  (fun u hu=> ?_) (xX (Nat.le_of_ble_eq_true rfl) rfl (jn jm hok)) ?_ (.inr rfl) (fun dead=>by kernel_rfl) rfl (fun i b hib=> ?_) E w hrel
 ·simp only [List.cons_append,List.nil_append,List.mem_cons,List.not_mem_nil,or_false] at hu
  rcases hu with rfl | rfl | rfl | rfl <;> rfl
 ·refine To.spineR (z:=Zl) sound18 (k:=3) (slots:=[0,1,2,3,9]) (blks:=[0,1,3]) (vs:=[A0,I s,SLX 1 oa na ca,SLX 1 ob nn cb,P3]) (bs:=[flag 61 hb,⟨ty,fr,es,l⟩,wB 0]) (nbB:=4) (by kernel_rfl) (fun dead=>jeB dead hb s oa na ca ob nn cb ty fr es l) rfl rfl rfl (by rw [hs1,hs0];simp) (qF rfl (Yu (Nat.le_refl _) rfl (jn jm hok) rfl)) (Nat.le_succ 3) ?_
  refine To.seq (by kernel_rfl) (To.seq (by kernel_rfl) (To.run (z:=Zl) sound18 (slots:=[0,1,2,3,9,25,26]) (blks:=[0,1,3]) (vs:=[A0,I s,SLX 1 oa na ca,SLX 1 ob nn cb,P3,I m,I 0]) (bs:=[flag 61 hb,⟨ty,fr,es,l⟩,wB 0]) (nbB:=4) (fun dead=>jeC dead hb s oa na ca ob nn cb ty fr es l 0 0) rfl (by simp only [eI];rfl) rfl jd (qF rfl (Yu (Nat.le_refl _) rfl (jn jm hok) rfl)) (Nat.le_refl _))
   (To.block (id:=0) (by kernel_rfl) (To.loop (m:=m+1) (by kernel_rfl) ?_) (.inl rfl))) (C:=_) (B:=jkw ⟨ty,fr,es,l⟩ s (hb||kL (xs.take 100) (ys.take 100)) D) ?_
  ·simp only [List.take_zero,kL,Bool.or_false,yE] at hR
   exact hR
  ·refine To.run (z:=Zl) sound18 (slots:=[8]) (blks:=[0,1]) (vs:=[I (zR D s)]) (bs:=[flag 61 ((hb||kL (xs.take 100) (ys.take 100))||JK D s),⟨ty,fr,es,l⟩]) (nbB:=4) (fun dead=>jeF dead (hb||kL (xs.take 100) (ys.take 100)) s oa na ca ob nn cb ty fr es l (wHi D) (wLo D)) rfl ?_ ?_ ?_ (qF rfl (xX (Nat.le_of_ble_eq_true rfl) rfl (jn jm hok))) (Nat.le_refl _)
   ·rw [jW];rfl
   ·rw [jW];rfl
   ·simp only [jZ,isI_iff,isU_iff]
    exact ⟨hi2,hl2,jd⟩
 ·rcases Xj hib with ⟨rfl,rfl⟩ | ⟨rfl,rfl⟩
  ·exact ⟨rfl,by decide,rfl⟩
  ·exact ⟨rfl,by decide,jn jm hok⟩
theorem jjo:SumOK Tryz.prog 81 (yv 61 1 jaU):=by
 refine jgj (jg sound18 Tryz.func81 (by kernel_rfl)) (fun avs hb r h=> ?_) fun pre xs ys hb v h' cs hF hcc hp hv=> ?_
 ·unfold jaU at h
  split at h
  ·exact ⟨[_],_,_,rfl⟩
  ·cases h
 ·have hpre:∃s,pre=[I s]:=by
   match pre with
   | []=>simp [jaU] at hF
   | [p]=>
    simp only [List.map_cons,List.map_nil,List.cons_append,List.nil_append] at hF
    unfold jaU at hF
    split at hF
    ·rename_i he
     simp only [List.cons.injEq,AV.pl.injEq] at he
     obtain ⟨e,-⟩:=he
     exact ⟨_,by rw [e];rfl⟩
    ·cases hF
   | p::q::r=>simp [jaU] at hF
  obtain ⟨s,rfl⟩:=hpre
  have hF':some (I (qP s xs ys),hb||yz s xs ys,[])=some (v,h',cs):=hF
  cases hF'
  have hargs:∀(p q:LV) (nb:Nat),p.ok (below nb)=true→q.ok (below nb)=true→1≤nb→∀u∈A0::([I s]++[p,q]),u.ok (below nb)=true:=by
   intro p q nb hp hq hn u hu
   simp only [List.cons_append,List.nil_append,List.mem_cons,List.not_mem_nil,or_false] at hu
   rcases hu with rfl | rfl | rfl | rfl
   ·simp [A0,LV.ok,V1.ok,At.ok,below,Ko];omega
   ·rfl
   ·exact hp
   ·exact hq
  have hs:s<0∨s>120∨(0≤s∧s≤120):=by omega
  refine ⟨fun k1 oa na ca k2 ob nn cb hx hy E w hrel=> ?_,fun k1 oa na ca ob nn cb hx hy E w hrel=> ?_,fun hx k1 ob nn cb hy E w hrel=> ?_,fun hy k1 oa na ca hx E w hrel=> ?_,fun hx hy E w hrel=> ?_⟩
  ·have hok:=hx.2.2
   have hok2:=hy.2.2
   obtain ⟨ty,fr,es,l⟩:=k1
   obtain ⟨ty2,fr2,es2,l2⟩:=k2
   rcases hs with h | h | ⟨h0,h1⟩
   ·have hd:=ya (.inl h) xs ys hb
    rw [←hd.1,←hd.2]
    refine jcb sound18 (jc6 hb s oa na ca ob nn cb ty fr es l ty2 fr2 es2 l2) (fun i b hib=> ?_) (ZD h) (yU (Nat.le_refl _) rfl (jn jm hok) (jn jm hok2)) (hargs _ _ _ rfl rfl (by decide)) rfl E w hrel
    ·rcases jec hib with ⟨rfl,rfl⟩ | ⟨rfl,rfl⟩ | ⟨rfl,rfl⟩
     ·exact ⟨.inl ⟨rfl,rfl⟩,by decide,rfl⟩
     ·exact ⟨.inr (.inl ⟨rfl,rfl⟩),by decide,jn jm hok⟩
     ·exact ⟨.inr (.inr ⟨rfl,rfl⟩),by decide,jn jm hok2⟩
   ·have hd:=ya (.inr h) xs ys hb
    rw [←hd.1,←hd.2]
    refine jcb sound18 (jc7 hb s oa na ca ob nn cb ty fr es l ty2 fr2 es2 l2) (fun i b hib=> ?_) (ZE h) (yU (Nat.le_refl _) rfl (jn jm hok) (jn jm hok2)) (hargs _ _ _ rfl rfl (by decide)) rfl E w hrel
    ·rcases jec hib with ⟨rfl,rfl⟩ | ⟨rfl,rfl⟩ | ⟨rfl,rfl⟩
     ·exact ⟨.inl ⟨rfl,rfl⟩,by decide,rfl⟩
     ·exact ⟨.inr (.inl ⟨rfl,rfl⟩),by decide,jn jm hok⟩
     ·exact ⟨.inr (.inr ⟨rfl,rfl⟩),by decide,jn jm hok2⟩
   ·exact joA ⟨ty,fr,es,l⟩ ⟨ty2,fr2,es2,l2⟩ s h0 h1 oa na ca ob nn cb xs ys hx hy hb E w hrel
  ·have hok:=hx.2.2
   obtain ⟨ty,fr,es,l⟩:=k1
   rcases hs with h | h | ⟨h0,h1⟩
   ·have hd:=ya (.inl h) xs ys hb
    rw [←hd.1,←hd.2]
    refine jcb sound18 (jc8 hb s oa na ca ob nn cb ty fr es l 0 (0,0) 0 []) (fun i b hib=> ?_) (ZD h) (xX (Nat.le_of_ble_eq_true rfl) rfl (jn jm hok)) (hargs _ _ _ rfl rfl (by decide)) rfl E w hrel
    ·rcases Xj hib with ⟨rfl,rfl⟩ | ⟨rfl,rfl⟩
     ·exact ⟨.inl ⟨rfl,rfl⟩,by decide,rfl⟩
     ·exact ⟨.inr (.inl ⟨rfl,rfl⟩),by decide,jn jm hok⟩
   ·have hd:=ya (.inr h) xs ys hb
    rw [←hd.1,←hd.2]
    refine jcb sound18 (jc9 hb s oa na ca ob nn cb ty fr es l 0 (0,0) 0 []) (fun i b hib=> ?_) (ZE h) (xX (Nat.le_of_ble_eq_true rfl) rfl (jn jm hok)) (hargs _ _ _ rfl rfl (by decide)) rfl E w hrel
    ·rcases Xj hib with ⟨rfl,rfl⟩ | ⟨rfl,rfl⟩
     ·exact ⟨.inl ⟨rfl,rfl⟩,by decide,rfl⟩
     ·exact ⟨.inr (.inl ⟨rfl,rfl⟩),by decide,jn jm hok⟩
   ·exact joB ⟨ty,fr,es,l⟩ s h0 h1 oa na ca ob nn cb xs ys hx hy hb E w hrel
  ·have hok:=hy.2.2
   obtain ⟨ty,fr,es,l⟩:=k1
   rcases hs with h | h | ⟨h0,h1⟩
   ·have hd:=ya (.inl h) xs ys hb
    rw [←hd.1,←hd.2]
    refine jcb sound18 (ZB hb s 0 0 0 ob nn cb ty fr es l 0 (0,0) 0 []) (fun i b hib=> ?_) (ZD h) (xX (Nat.le_of_ble_eq_true rfl) rfl (jn jm hok)) (hargs _ _ _ rfl rfl (by decide)) rfl E w hrel
    ·rcases Xj hib with ⟨rfl,rfl⟩ | ⟨rfl,rfl⟩
     ·exact ⟨.inl ⟨rfl,rfl⟩,by decide,rfl⟩
     ·exact ⟨.inr (.inl ⟨rfl,rfl⟩),by decide,jn jm hok⟩
   ·have hd:=ya (.inr h) xs ys hb
    rw [←hd.1,←hd.2]
    refine jcb sound18 (ZC hb s 0 0 0 ob nn cb ty fr es l 0 (0,0) 0 []) (fun i b hib=> ?_) (ZE h) (xX (Nat.le_of_ble_eq_true rfl) rfl (jn jm hok)) (hargs _ _ _ rfl rfl (by decide)) rfl E w hrel
    ·rcases Xj hib with ⟨rfl,rfl⟩ | ⟨rfl,rfl⟩
     ·exact ⟨.inl ⟨rfl,rfl⟩,by decide,rfl⟩
     ·exact ⟨.inr (.inl ⟨rfl,rfl⟩),by decide,jn jm hok⟩
   ·have hd:=jaV (s:=s) (xs:=xs) (ys:=ys) (.inl hx) hb
    rw [←hd.1,←hd.2]
    refine jcb sound18 (jaQ hb s 0 0 0 ob nn cb ty fr es l 0 (0,0) 0 []) (fun i b hib=> ?_) (jkt (decide_eq_false (by (repeat' split) <;> omega)) h0 h1) (xX (Nat.le_of_ble_eq_true rfl) rfl (jn jm hok)) (hargs _ _ _ rfl rfl (by decide)) rfl E w hrel
    ·rcases Xj hib with ⟨rfl,rfl⟩ | ⟨rfl,rfl⟩
     ·exact ⟨.inl ⟨rfl,rfl⟩,by decide,rfl⟩
     ·exact ⟨.inr (.inl ⟨rfl,rfl⟩),by decide,jn jm hok⟩
  ·have hok:=hx.2.2
   obtain ⟨ty,fr,es,l⟩:=k1
   rcases hs with h | h | ⟨h0,h1⟩
   ·have hd:=ya (.inl h) xs ys hb
    rw [←hd.1,←hd.2]
    refine jcb sound18 (jaO hb s oa na ca 0 0 0 ty fr es l 0 (0,0) 0 []) (fun i b hib=> ?_) (ZD h) (xX (Nat.le_of_ble_eq_true rfl) rfl (jn jm hok)) (hargs _ _ _ rfl rfl (by decide)) rfl E w hrel
    ·rcases Xj hib with ⟨rfl,rfl⟩ | ⟨rfl,rfl⟩
     ·exact ⟨.inl ⟨rfl,rfl⟩,by decide,rfl⟩
     ·exact ⟨.inr (.inl ⟨rfl,rfl⟩),by decide,jn jm hok⟩
   ·have hd:=ya (.inr h) xs ys hb
    rw [←hd.1,←hd.2]
    refine jcb sound18 (jaP hb s oa na ca 0 0 0 ty fr es l 0 (0,0) 0 []) (fun i b hib=> ?_) (ZE h) (xX (Nat.le_of_ble_eq_true rfl) rfl (jn jm hok)) (hargs _ _ _ rfl rfl (by decide)) rfl E w hrel
    ·rcases Xj hib with ⟨rfl,rfl⟩ | ⟨rfl,rfl⟩
     ·exact ⟨.inl ⟨rfl,rfl⟩,by decide,rfl⟩
     ·exact ⟨.inr (.inl ⟨rfl,rfl⟩),by decide,jn jm hok⟩
   ·have hd:=jaV (s:=s) (xs:=xs) (ys:=ys) (.inr hy) hb
    rw [←hd.1,←hd.2]
    refine jcb sound18 (jda hb s oa na ca 0 0 0 ty fr es l 0 (0,0) 0 []) (fun i b hib=> ?_) (jkt (decide_eq_false (by (repeat' split) <;> omega)) h0 h1) (xX (Nat.le_of_ble_eq_true rfl) rfl (jn jm hok)) (hargs _ _ _ rfl rfl (by decide)) rfl E w hrel
    ·rcases Xj hib with ⟨rfl,rfl⟩ | ⟨rfl,rfl⟩
     ·exact ⟨.inl ⟨rfl,rfl⟩,by decide,rfl⟩
     ·exact ⟨.inr (.inl ⟨rfl,rfl⟩),by decide,jn jm hok⟩
  ·have hok:=True.intro
   have l:List At:=[]
   rcases hs with h | h | ⟨h0,h1⟩
   ·have hd:=ya (.inl h) xs ys hb
    rw [←hd.1,←hd.2]
    refine jcb sound18 (jaR hb s 0 0 0 0 0 0 0 (0,0) 0 [] 0 (0,0) 0 []) (fun i b hib=> ?_) (ZD h) (jeI (Nat.le_of_ble_eq_true rfl) rfl) (hargs _ _ _ rfl rfl (by decide)) rfl E w hrel
    ·obtain ⟨rfl,rfl⟩:=jbS hib
     exact ⟨.inl ⟨rfl,rfl⟩,by decide,rfl⟩
   ·have hd:=ya (.inr h) xs ys hb
    rw [←hd.1,←hd.2]
    refine jcb sound18 (jaS hb s 0 0 0 0 0 0 0 (0,0) 0 [] 0 (0,0) 0 []) (fun i b hib=> ?_) (ZE h) (jeI (Nat.le_of_ble_eq_true rfl) rfl) (hargs _ _ _ rfl rfl (by decide)) rfl E w hrel
    ·obtain ⟨rfl,rfl⟩:=jbS hib
     exact ⟨.inl ⟨rfl,rfl⟩,by decide,rfl⟩
   ·have hd:=jaV (s:=s) (xs:=xs) (ys:=ys) (.inl hx) hb
    rw [←hd.1,←hd.2]
    refine jcb sound18 (jdb hb s 0 0 0 0 0 0 0 (0,0) 0 [] 0 (0,0) 0 []) (fun i b hib=> ?_) (jkt (decide_eq_false (by (repeat' split) <;> omega)) h0 h1) (jeI (Nat.le_of_ble_eq_true rfl) rfl) (hargs _ _ _ rfl rfl (by decide)) rfl E w hrel
    ·obtain ⟨rfl,rfl⟩:=jbS hib
     exact ⟨.inl ⟨rfl,rfl⟩,by decide,rfl⟩
def S21:FuncId→Option SumK:=more S18 81 (yv 61 1 jaU)
theorem sound21:Sound Tryz.prog S21:=sound18.more jjo
end Go.Proofs.YtnlhpaidmiogbaaGreat

/- The local evaluator: summaries of closures over a flag's pointer, and over numbers. -/
namespace Go.Lr
open Go.RowKit
section
variable {P:Program} {S:FuncId→Option SumK} {z:Md}
def XU:List LV→Option (List LV×List Nat)
 | []=>some ([],[])
 | .v (.one (.ptr b 0))::l=>match XU l with
  | some ([],r)=>some ([],b::r)
  | _=>none
 | x::l=>match x.ok noP with
  | true=>match XU l with
   | some (p,r)=>some (x::p,r)
   | none=>none
  | false=>none
def jh1:List Nat→List LV
 | []=>[]
 | b::l=> .v (.one (.ptr b 0))::jh1 l
theorem jbd:∀{args pl:List LV} {r:List Nat},XU args=some (pl,r)→args=pl++jh1 r∧ke pl=true:=by
 intro args
 induction args with
 | nil=>intro pl r h;simp only [XU] at h;cases h;exact ⟨rfl,rfl⟩
 | cons x l ih=>
  intro pl r h
  unfold XU at h
  split at h
  ·rename_i e;cases e
  ·rename_i b l' e
   cases e
   split at h
   ·rename_i r' hr
    cases h
    obtain ⟨i1,-⟩:=ih hr
    exact ⟨by rw [i1];rfl,rfl⟩
   ·cases h
  ·rename_i x' l' _ e
   cases e
   split at h
   ·rename_i hx
    split at h
    ·rename_i p r' hr
     cases h
     obtain ⟨i1,i2⟩:=ih hr
     exact ⟨by rw [i1];rfl,by simp only [ke,hx,i2]⟩
    ·cases h
   ·cases h
def jcx (k:Blk) (c:Nat):Bool:=
 match k.cells with
 | [.ptr b 0]=>Nat.beq b c
 | _=>false
theorem QQ {k:Blk} {c:Nat} (h:jcx k c=true):k.cells=[.ptr c 0]:=by
 unfold jcx at h
 split at h
 ·rename_i b hb
  rw [xi] at h
  have:b=c:=by simpa using h
  subst this;exact hb
 ·cases h
def Xr (ty:TypeId) (F:List LV→List (List At)→Bool→Option (LV×Bool×List (Bool×Bool))):List LV→List (Nat×LV)→Option Tch:=fun args pk=>
 match XU args,pk with
 | some (pl,cc::rest),[(_,.v (.one (.ptr acc 0)))]=>match Jg (cc::rest) acc,Jg rest cc with
  | false,false=>match rest with
   | []=>some ⟨[cc],[acc],fun rdB wB _=>match rdB,wB with
    | [kc],[⟨t,(0,0),0,[.bool h]⟩]=>match Nat.beq t ty,jcx kc acc with
     | true,true=>match F pl [] h with
      | some (v,h',cs)=>match v.ok noP with
       | true=>some ⟨v,[flag ty h'],[],cs⟩
       | false=>none
      | none=>none
     | _,_=>none
    | _,_=>none⟩
   | [d]=>some ⟨[cc,d],[acc],fun rdB wB _=>match rdB,wB with
    | [kc,kd],[⟨t,(0,0),0,[.bool h]⟩]=>match Nat.beq t ty,jcx kc acc,okL noP kd.cells with
     | true,true,true=>match F pl [kd.cells] h with
      | some (v,h',cs)=>match v.ok noP with
       | true=>some ⟨v,[flag ty h'],[],cs⟩
       | false=>none
      | none=>none
     | _,_,_=>none
    | _,_=>none⟩
   | _=>none
  | _,_=>none
 | _,_=>none
theorem jcy {f:FuncId} (ho:Own P f) {args args':List LV} {m m':Mem} {ren:Nat→Nat} {g:Nat→Option Blk} {nb c:Nat} {ty:TypeId} {h h':Bool} {v:LV} {E E1:Env} {w:World}
  (hE:∀i,E1 i=E (ren i)) (hrel:Rel E g w) (hc:g c=some (flag ty h)) (h0:getM m' 0=some (flag ty h')) (hren0:ren 0=c)
  (hm:∀i b,getM m i=some b→∃b',g (ren i)=some b'∧b'.ty=b.ty∧b'.fr=b.fr∧b'.es=b.es∧b'.cells.map (At.den E)=b.cells.map (At.den E1))
  (hm':∀i b,i≠0→getM m i=some b→getM m' i=some b)
  (hargs:args.map (LV.den E)=args'.map (LV.den E1)) (hv:v.ok noP=true)
  (hcall:Calls P f (args'.map (LV.den E1)).toArray w fun e w'=>e = .returned (v.den E0)∧Lcl E1 m m' w w'):
  CallOK P f (args.map (LV.den E)).toArray w fun u w'=>∃E',u=v.den E'∧Post w E g nb ⟨v,[(c,some (flag ty h'))],[],[],[]⟩ E' w':=by
 obtain ⟨fn,f1,f2,f3⟩:=ho
 rw [hargs]
 refine .inl ⟨fn,f1,f2,f3,hcall.mono ?_⟩
 rintro e w' ⟨rfl,hl⟩
 refine ⟨_,rfl,E,(km hv).symm,jcY hrel hc hl.os hl.tape hl.output hl.size ?_ (fun i b hi hib=> ?_) fun b hb hne=>hl.frame b hb fun i hi=> ?_⟩
 ·exact kF (E:=E1) (i:=0) rfl (by rw [hE,hren0]) (hl.blk 0 _ h0)
 ·by_cases hex:∃j,(getM m j).isSome∧ren j=i
  ·obtain ⟨j,hj,rfl⟩:=hex
   obtain ⟨b',hb'⟩:=Option.isSome_iff_exists.1 hj
   obtain ⟨b2,q1,q2,q3,q4,q5⟩:=hm j b' hb'
   have:b2=b:=by rw [hib] at q1;cases q1;rfl
   subst this
   have hj0:j≠0:=fun e=>hi (by rw [e,hren0])
   obtain ⟨r,g1,g2,g3⟩:=hl.blk j _ (hm' j _ hj0 hb')
   have hlen:b2.cells.length=b'.cells.length:=by
    have:=congrArg List.length q5
    simpa using this
   exact ⟨r,by rw [←hE j,g1,q2,q3,q5],fun he=>g2 (by rw [←q4];exact he),fun he=>by rw [hlen,q4,←hE j];exact g3 (by rw [←q4];exact he)⟩
  ·obtain ⟨r,g1,g2,g3⟩:=hrel.blk i b hib
   refine ⟨r, ?_,g2,g3⟩
   rw [hl.frame _ (Array.getElem?_eq_some_iff.1 g1).1 fun j hj e=>hex ⟨j,hj, ?_⟩]
   ·exact g1
   ·obtain ⟨b',hb'⟩:=Option.isSome_iff_exists.1 hj
    obtain ⟨b2,q1,-⟩:=hm j b' hb'
    rw [hE] at e
    exact hrel.inj _ _ (by rw [q1];rfl) (by rw [hib];rfl) e
 ·obtain ⟨b',hb'⟩:=Option.isSome_iff_exists.1 hi
  obtain ⟨b2,q1,-⟩:=hm i b' hb'
  rw [hE]
  exact hne _ (by rw [q1];rfl)
theorem jB2 {E E1:Env} {g:Nat→Option Blk} {w:World} {ren:Nat→Nat} {m:Mem} (hrel:Rel E g w) (hE:∀i,E1 i=E (ren i))
  (hm:∀i b,getM m i=some b→∃b',g (ren i)=some b'∧b'.ty=b.ty∧b'.fr=b.fr∧b'.es=b.es∧b'.cells.map (At.den E)=b.cells.map (At.den E1))
  (hi:∀i j,(getM m i).isSome→(getM m j).isSome→ren i=ren j→i=j):Rel E1 (getM m) w:=by
 refine ⟨fun i b hib=> ?_,fun i j h1 h2 he=> ?_⟩
 ·obtain ⟨b',q1,q2,q3,q4,q5⟩:=hm i b hib
  obtain ⟨r,g1,g2,g3⟩:=hrel.blk _ _ q1
  have hlen:b'.cells.length=b.cells.length:=by
   have:=congrArg List.length q5
   simpa using this
  exact ⟨r,by rw [hE,g1,q2,q3,q5],fun hz=>g2 (by rw [q4];exact hz),fun hz=>by rw [←hlen,←q4,hE];exact g3 (by rw [q4];exact hz)⟩
 ·obtain ⟨b1,e1⟩:=Option.isSome_iff_exists.1 h1
  obtain ⟨b2,e2⟩:=Option.isSome_iff_exists.1 h2
  obtain ⟨c1,q1,-⟩:=hm i b1 e1
  obtain ⟨c2,q2,-⟩:=hm j b2 e2
  rw [hE,hE] at he
  exact hi i j h1 h2 (hrel.inj _ _ (by rw [q1];rfl) (by rw [q2];rfl) he)
def PT (b:Nat):LV:= .v (.one (.ptr b 0))
def Jt (ty:TypeId) (fr:Nat×Nat) (es:Nat):Blk:=⟨ty,fr,es,[.ptr 0 0]⟩
theorem jcz {f:FuncId} (ho:Own P f) {ty:TypeId} {F:List LV→List (List At)→Bool→Option (LV×Bool×List (Bool×Bool))}
  (h1:∀(pl:List LV) (hb:Bool) (v:LV) (h':Bool) (cs:List (Bool×Bool)),F pl [] hb=some (v,h',cs)→(∀c∈cs,c.1=c.2)→ke pl=true→v.ok noP=true→∀(tc:TypeId) (fc:Nat×Nat) (ec:Nat) (E:Env) (w:World),
   Rel E (getM [(0,flag ty hb),(1,Jt tc fc ec)]) w→Calls P f ((pl++[PT 1]).map (LV.den E)).toArray w fun e w'=>e = .returned (v.den E0)∧Lcl E [(0,flag ty hb),(1,Jt tc fc ec)] [(0,flag ty h'),(1,Jt tc fc ec)] w w')
  (h2:∀(pl:List LV) (kd:Blk) (hb:Bool) (v:LV) (h':Bool) (cs:List (Bool×Bool)),F pl [kd.cells] hb=some (v,h',cs)→(∀c∈cs,c.1=c.2)→ke pl=true→v.ok noP=true→okL noP kd.cells=true→∀(tc:TypeId) (fc:Nat×Nat) (ec:Nat) (E:Env) (w:World),
   Rel E (getM [(0,flag ty hb),(1,Jt tc fc ec),(2,kd)]) w→Calls P f ((pl++[PT 1,PT 2]).map (LV.den E)).toArray w fun e w'=>e = .returned (v.den E0)∧Lcl E [(0,flag ty hb),(1,Jt tc fc ec),(2,kd)] [(0,flag ty h'),(1,Jt tc fc ec),(2,kd)] w w'):
  KU P f (Xr ty F):=by
 intro args t g nb p rdB wrB ans ws E w hs hr hw _ hgo hz hc hrel hg hargs hn
 unfold Xr at hs
 split at hs
 ·rename_i pl cc rest b0 acc hcap hpk
  obtain ⟨rfl,hpl⟩:=jbd hcap
  have hpl':=plainVs_iff.1 hpl
  split at hs
  ·rename_i hm1 hm2
   have na:acc ∉ cc::rest:=xG hm1
   have nc:cc ∉ rest:=xG hm2
   split at hs
   ·cases hs
    simp only at hgo hw hr
    split at hgo
    ·rename_i kc t' hb
     split at hgo
     ·rename_i hty hcell
      rw [xi] at hty
      have hty':t'=ty:=by simpa using hty
      subst hty'
      have hkc:=QQ hcell
      split at hgo
      ·rename_i v h' cs hF
       split at hgo
       ·rename_i hv
        cases hgo
        obtain ⟨ka,r',hka,hr',hrr⟩:=kf hw
        cases kP hr'
        cases hrr
        obtain ⟨kc',r2,hkc',hr2,hrr2⟩:=kf hr
        cases kP hr2
        cases hrr2
        simp only [Xm] at hz
        cases hz
        have hf0:(⟨t',(0,0),0,[.bool hb]⟩:Blk)=flag t' hb:=rfl
        rw [hf0] at hka
        generalize hE1:(fun i=>E (jap acc cc i))=E1
        have hE:∀i,E1 i=E (jap acc cc i):=fun i=>by rw [←hE1]
        have hm:∀i b,getM [(0,flag t' hb),(1,Jt kc.ty kc.fr kc.es)] i=some b→∃b',g (jap acc cc i)=some b'∧b'.ty=b.ty∧b'.fr=b.fr∧b'.es=b.es∧b'.cells.map (At.den E)=b.cells.map (At.den E1):=by
         intro i b hib
         rcases Xj hib with ⟨rfl,rfl⟩ | ⟨rfl,rfl⟩
         ·exact ⟨_,hka,rfl,rfl,rfl,rfl⟩
         ·refine ⟨_,hkc',rfl,rfl,rfl, ?_⟩
          rw [hkc]
          simp only [Jt,List.map_cons,List.map_nil,At.den,hE,jap]
        have hcl:=h1 pl hb v h' cs hF hc hpl hv kc.ty kc.fr kc.es E1 w (jB2 hrel hE hm fun i j hi hj he=>by
         obtain ⟨bi,hbi⟩:=Option.isSome_iff_exists.1 hi
         obtain ⟨bj,hbj⟩:=Option.isSome_iff_exists.1 hj
         have hne:acc≠cc:=fun e=>na (by rw [e];simp)
         rcases Xj hbi with ⟨rfl,-⟩ | ⟨rfl,-⟩ <;> rcases Xj hbj with ⟨rfl,-⟩ | ⟨rfl,-⟩
         ·rfl
         ·exact absurd he hne
         ·exact absurd he.symm hne
         ·rfl)
        refine jcy ho hE hrel hka rfl rfl hm (fun i q h0 hq=> ?_) ?_ hv hcl
        ·rw [jz,if_neg h0] at hq ⊢;exact hq
        ·simp only [jh1,List.map_append,List.map_cons,List.map_nil]
         rw [j9 hpl',j9 (E:=E1) hpl']
         simp only [PT,LV.den,V1.den,At.den,hE,jap]
       ·cases hgo
      ·cases hgo
     ·cases hgo
    ·cases hgo
   ·rename_i d
    cases hs
    simp only at hgo hw hr
    split at hgo
    ·rename_i kc kd t' hb
     split at hgo
     ·rename_i hty hcell hkd
      rw [xi] at hty
      have hty':t'=ty:=by simpa using hty
      subst hty'
      have hkc:=QQ hcell
      split at hgo
      ·rename_i v h' cs hF
       split at hgo
       ·rename_i hv
        cases hgo
        obtain ⟨ka,r',hka,hr',hrr⟩:=kf hw
        cases kP hr'
        cases hrr
        obtain ⟨kc',r2,hkc',hr2,hrr2⟩:=kf hr
        cases hrr2
        obtain ⟨kd',r3,hkd',hr3,hrr3⟩:=kf hr2
        cases kP hr3
        cases hrr3
        simp only [Xm] at hz
        cases hz
        have hf0:(⟨t',(0,0),0,[.bool hb]⟩:Blk)=flag t' hb:=rfl
        rw [hf0] at hka
        generalize hE1:(fun i=>E (jjO acc cc d i))=E1
        have hE:∀i,E1 i=E (jjO acc cc d i):=fun i=>by rw [←hE1]
        have hm:∀i b,getM [(0,flag t' hb),(1,Jt kc.ty kc.fr kc.es),(2,kd)] i=some b→∃b',g (jjO acc cc d i)=some b'∧b'.ty=b.ty∧b'.fr=b.fr∧b'.es=b.es∧b'.cells.map (At.den E)=b.cells.map (At.den E1):=by
         intro i b hib
         rcases jec hib with ⟨rfl,rfl⟩ | ⟨rfl,rfl⟩ | ⟨rfl,rfl⟩
         ·exact ⟨_,hka,rfl,rfl,rfl,rfl⟩
         ·refine ⟨_,hkc',rfl,rfl,rfl, ?_⟩
          rw [hkc]
          simp only [Jt,List.map_cons,List.map_nil,At.den,hE,jjO]
         ·exact ⟨_,hkd',rfl,rfl,rfl,by rw [qx hkd,qx (E:=E1) hkd]⟩
        have hcl:=h2 pl kd hb v h' cs hF hc hpl hv hkd kc.ty kc.fr kc.es E1 w (jB2 hrel hE hm fun i j hi hj he=>by
         obtain ⟨bi,hbi⟩:=Option.isSome_iff_exists.1 hi
         obtain ⟨bj,hbj⟩:=Option.isSome_iff_exists.1 hj
         have n1:acc≠cc:=fun e=>na (by rw [e];simp)
         have n2:acc≠d:=fun e=>na (by rw [e];simp)
         have n3:cc≠d:=fun e=>nc (by rw [e];simp)
         rcases jec hbi with ⟨rfl,-⟩ | ⟨rfl,-⟩ | ⟨rfl,-⟩ <;> rcases jec hbj with ⟨rfl,-⟩ | ⟨rfl,-⟩ | ⟨rfl,-⟩
         ·rfl
         ·exact absurd he n1
         ·exact absurd he n2
         ·exact absurd he.symm n1
         ·rfl
         ·exact absurd he n3
         ·exact absurd he.symm n2
         ·exact absurd he.symm n3
         ·rfl)
        refine jcy ho hE hrel hka rfl rfl hm (fun i q h0 hq=> ?_) ?_ hv hcl
        ·rw [jz,if_neg h0] at hq ⊢;exact hq
        ·simp only [jh1,List.map_append,List.map_cons,List.map_nil]
         rw [j9 hpl',j9 (E:=E1) hpl']
         simp only [PT,LV.den,V1.den,At.den,hE,jjO]
       ·cases hgo
      ·cases hgo
     ·cases hgo
    ·cases hgo
   ·cases hs
  ·cases hs
 ·cases hs
end
end Go.Lr

/- The closures of quat and rot: their runs, their summaries. -/
namespace Go.Proofs.YtnlhpaidmiogbaaGreat
open Go.Lr
set_option linter.unusedVariables false
set_option linter.unusedSimpArgs false
def C4 (a0 a1 a2 a3:Int):List At:=[.int .i64 a0,.int .i64 a1,.int .i64 a2,.int .i64 a3]
theorem jji {f:FuncId} (ho:Own Tryz.prog f) {ty:TypeId} {V:Int→Int→Int→Int→Int→Int→Int→Int→Int} {H:Int→Int→Int→Int→Int→Int→Int→Int→Bool} {S:FuncId→Option SumK} (hs:Sound Tryz.prog S) {n:Nat}
  {F:List LV→List (List At)→Bool→Option (LV×Bool×List (Bool×Bool))}
  (hF:∀pl cl hb r,F pl cl hb=some r→∃w x y z a0 a1 a2 a3,pl=[I w,I x,I y,I z]∧cl=[C4 a0 a1 a2 a3]∧r=(I (V w x y z a0 a1 a2 a3),hb||H w x y z a0 a1 a2 a3,[]))
  (hr:∀w x y z a0 a1 a2 a3 hb tc fc ec td fd ed,(jR Tryz.prog S Zl n f [I w,I x,I y,I z,PT 1,PT 2] [(0,flag ty hb),(1,Jt tc fc ec),(2,⟨td,fd,ed,C4 a0 a1 a2 a3⟩)] 3 []).map (fun r=>(r.1,getM r.2.1 0,getM r.2.1 1,getM r.2.1 2,r.2.2.2)) =
   some (I (V w x y z a0 a1 a2 a3),some (flag ty (hb||H w x y z a0 a1 a2 a3)),some (Jt tc fc ec),some ⟨td,fd,ed,C4 a0 a1 a2 a3⟩,[])):KU Tryz.prog f (Xr ty F):=by
 refine jcz ho (fun pl hb v h' cs hf _ _ _=> ?_) fun pl kd hb v h' cs hf hc _ _ hok tc fc ec E w hrel=> ?_
 ·obtain ⟨w,x,y,z,a0,a1,a2,a3,-,h,-⟩:=hF _ _ _ _ hf
  cases h
 ·obtain ⟨w',x,y,z,a0,a1,a2,a3,rfl,h,h'⟩:=hF _ _ _ _ hf
  cases h'
  obtain ⟨td,fd,ed,l⟩:=kd
  simp only [List.cons.injEq,and_true] at h
  subst h
  refine jcb hs (hr w' x y z a0 a1 a2 a3 hb tc fc ec td fd ed) (fun i b hib=> ?_) jd rfl (fun u hu=> ?_) rfl E w hrel
  ·rcases jec hib with ⟨rfl,rfl⟩ | ⟨rfl,rfl⟩ | ⟨rfl,rfl⟩
   ·exact ⟨.inl ⟨rfl,rfl⟩,by decide,rfl⟩
   ·exact ⟨.inr (.inl ⟨rfl,rfl⟩),by decide,rfl⟩
   ·exact ⟨.inr (.inr ⟨rfl,rfl⟩),by decide,rfl⟩
  ·simp only [List.cons_append,List.nil_append,List.mem_cons,List.not_mem_nil,or_false] at hu
   rcases hu with rfl | rfl | rfl | rfl | rfl | rfl <;> rfl
theorem jnT {f:FuncId} (ho:Own Tryz.prog f) {ty:TypeId} {V:Int→Int→Int→Int→Int} {H:Int→Int→Int→Int→Bool} {S:FuncId→Option SumK} (hs:Sound Tryz.prog S) {n:Nat}
  {F:List LV→List (List At)→Bool→Option (LV×Bool×List (Bool×Bool))}
  (hF:∀pl cl hb r,F pl cl hb=some r→∃w x y z,pl=[I w,I x,I y,I z]∧cl=[]∧r=(I (V w x y z),hb||H w x y z,[]))
  (hr:∀w x y z hb tc fc ec,(jR Tryz.prog S Zl n f [I w,I x,I y,I z,PT 1] [(0,flag ty hb),(1,Jt tc fc ec)] 2 []).map (fun r=>(r.1,getM r.2.1 0,getM r.2.1 1,(none:Option Blk),r.2.2.2)) =
   some (I (V w x y z),some (flag ty (hb||H w x y z)),some (Jt tc fc ec),none,[])):KU Tryz.prog f (Xr ty F):=by
 refine jcz ho (fun pl hb v h' cs hf hc _ _ tc fc ec E w hrel=> ?_) fun pl kd hb v h' cs hf _ _ _ _=> ?_
 ·obtain ⟨w',x,y,z,rfl,-,h'⟩:=hF _ _ _ _ hf
  cases h'
  have hq:=hr w' x y z hb tc fc ec
  cases hrun:jR Tryz.prog S Zl n f [I w',I x,I y,I z,PT 1] [(0,flag ty hb),(1,Jt tc fc ec)] 2 [] with
  | none=>rw [hrun] at hq;cases hq
  | some q=>
   obtain ⟨v',m2,nb',cs'⟩:=q
   rw [hrun] at hq
   simp only [Option.map_some,Option.some.injEq,Prod.mk.injEq,and_true,true_and] at hq
   obtain ⟨rfl,e0,e1,rfl⟩:=hq
   refine yu hs hrun (fun i b hib=> ?_) jd rfl (fun u hu=> ?_) rfl E w hrel
   ·rcases Xj hib with ⟨rfl,rfl⟩ | ⟨rfl,rfl⟩
    ·exact ⟨e0,by decide,rfl⟩
    ·exact ⟨e1,by decide,rfl⟩
   ·simp only [List.cons_append,List.nil_append,List.mem_cons,List.not_mem_nil,or_false] at hu
    rcases hu with rfl | rfl | rfl | rfl | rfl <;> rfl
 ·obtain ⟨w,x,y,z,-,h,-⟩:=hF _ _ _ _ hf
  cases h
def q1V (w x y z a0 a1 a2 a3:Int):Int:=qP 30 [a0,a1,a2,a3] [w,x,y,z]
def q1H (w x y z a0 a1 a2 a3:Int):Bool:=yz 30 [a0,a1,a2,a3] [w,x,y,z]
def q1F:List LV→List (List At)→Bool→Option (LV×Bool×List (Bool×Bool))
 | [.v (.one (.int .i64 w)),.v (.one (.int .i64 x)),.v (.one (.int .i64 y)),.v (.one (.int .i64 z))],[[.int .i64 a0,.int .i64 a1,.int .i64 a2,.int .i64 a3]],hb=>some (I (q1V w x y z a0 a1 a2 a3),hb||q1H w x y z a0 a1 a2 a3,[])
 | _,_,_=>none
def s1V (w x y z a0 a1 a2 a3:Int):Int:=qP 30 [a0,a1,a2,a3] [wr .i64 (w*a0),wr .i64 (x*a1),wr .i64 (y*a2),wr .i64 (z*a3)]
def s1H (w x y z a0 a1 a2 a3:Int):Bool:=yz 30 [a0,a1,a2,a3] [wr .i64 (w*a0),wr .i64 (x*a1),wr .i64 (y*a2),wr .i64 (z*a3)]
def s1F:List LV→List (List At)→Bool→Option (LV×Bool×List (Bool×Bool))
 | [.v (.one (.int .i64 w)),.v (.one (.int .i64 x)),.v (.one (.int .i64 y)),.v (.one (.int .i64 z))],[[.int .i64 a0,.int .i64 a1,.int .i64 a2,.int .i64 a3]],hb=>some (I (s1V w x y z a0 a1 a2 a3),hb||s1H w x y z a0 a1 a2 a3,[])
 | _,_,_=>none
def t1V (a b d e:Int):Int:=qP 30 [a,a,d,d] [b,b,e,e]
def t1H (a b d e:Int):Bool:=yz 30 [a,a,d,d] [b,b,e,e]
def t1F:List LV→List (List At)→Bool→Option (LV×Bool×List (Bool×Bool))
 | [.v (.one (.int .i64 a)),.v (.one (.int .i64 b)),.v (.one (.int .i64 d)),.v (.one (.int .i64 e))],[],hb=>some (I (t1V a b d e),hb||t1H a b d e,[])
 | _,_,_=>none
theorem jwm:KU Tryz.prog 195 (Xr 61 q1F):=by
 refine jji (n:=2000) (jg sound21 Tryz.func195 (by kernel_rfl)) sound21 (V:=q1V) (H:=q1H) (fun pl cl hb r h=> ?_) fun w x y z a0 a1 a2 a3 hb tc fc ec td fd ed=>by kernel_rfl
 unfold q1F at h
 split at h
 ·cases h;exact ⟨_,_,_,_,_,_,_,_,rfl,rfl,rfl⟩
 ·cases h
theorem jwn:KU Tryz.prog 82 (Xr 61 s1F):=by
 refine jji (n:=2000) (jg sound21 Tryz.func82 (by kernel_rfl)) sound21 (V:=s1V) (H:=s1H) (fun pl cl hb r h=> ?_) fun w x y z a0 a1 a2 a3 hb tc fc ec td fd ed=>by kernel_rfl
 unfold s1F at h
 split at h
 ·cases h;exact ⟨_,_,_,_,_,_,_,_,rfl,rfl,rfl⟩
 ·cases h
theorem jwo:KU Tryz.prog 83 (Xr 61 t1F):=by
 refine jnT (n:=2000) (jg sound21 Tryz.func83 (by kernel_rfl)) sound21 (V:=t1V) (H:=t1H) (fun pl cl hb r h=> ?_) fun a b d e hb tc fc ec=>by kernel_rfl
 unfold t1F at h
 split at h
 ·cases h;exact ⟨_,_,_,_,rfl,rfl,rfl⟩
 ·cases h
def S21q:FuncId→Option SumK:=moreP S21 195 (Xr 61 q1F)
theorem sound21q:Sound Tryz.prog S21q:=sound21.moreP jwm
def S22:FuncId→Option SumK:=moreP (moreP S21q 82 (Xr 61 s1F)) 83 (Xr 61 t1F)
theorem sound22:Sound Tryz.prog S22:=(sound21q.moreP jwn).moreP jwo
end Go.Proofs.YtnlhpaidmiogbaaGreat

/- qsat, rof, qone: runs and summaries (printed). -/
namespace Go.Proofs.YtnlhpaidmiogbaaGreat
open Go.Lr
set_option linter.unusedVariables false
set_option linter.unusedSimpArgs false
theorem jqc (a0 a1 a2 a3:Int) (hb:Bool):(jR Tryz.prog S22 Zl 2000 134 [A0,.v (.agg [.int .i64 a0,.int .i64 a1,.int .i64 a2,.int .i64 a3])] [(0,flag 61 hb)] 1 [none,none,none,none,none]).map qn=some (LV.v (V1.agg [At.int IntKind.i64 (jc a0),At.int IntKind.i64 (jc a1),At.int IntKind.i64 (jc a2),At.int IntKind.i64 (jc a3)]),some { ty:=61,fr:=(0,0),es:=0,cells:=[At.bool (hb||jV a0||jV a1||jV a2||jV a3)] },[]):=by kernel_rfl
def jqd (a0 a1 a2 a3:Int) (hb:Bool):Option (LV×Bool×List (Bool×Bool)):=some (LV.v (V1.agg [At.int IntKind.i64 (jc a0),At.int IntKind.i64 (jc a1),At.int IntKind.i64 (jc a2),At.int IntKind.i64 (jc a3)]),(hb||jV a0||jV a1||jV a2||jV a3),[])
def jlj:List LV→Bool→Option (LV×Bool×List (Bool×Bool))
 | [.v (.agg [.int .i64 a0,.int .i64 a1,.int .i64 a2,.int .i64 a3])],hb=>jqd a0 a1 a2 a3 hb
 | _,_=>none
theorem jlk:SumOK Tryz.prog 134 (jv 61 jlj):=by
 refine jT (z:=Zl) sound22 (jg sound22 Tryz.func134 (by kernel_rfl)) fun args hb v h' cs hF hc=> ?_
 unfold jlj at hF
 split at hF
 ·rename_i a0 a1 a2 a3
  unfold jqd at hF
  cases hF
  exact ⟨rfl,2000,[none,none,none,none,none],_,jqc a0 a1 a2 a3 hb,jd⟩
 ·cases hF
theorem jyd (a0 a1 a2 a3:Int) (hb:Bool):(jR Tryz.prog S22 Zl 2000 38 [A0,.v (.agg [.int .i64 a0,.int .i64 a1,.int .i64 a2,.int .i64 a3])] [(0,flag 61 hb)] 1 [none,none,none,none,none]).map qn=some (LV.v (V1.agg [At.int IntKind.i64 (s1V 1 1 (-1) (-1) (jc a0) (jc a1) (jc a2) (jc a3)),At.int IntKind.i64 (t1V (jc a1) (jc a2) (wr IntKind.i64 (0 - jc a0)) (jc a3)),At.int IntKind.i64 (t1V (jc a1) (jc a3) (jc a0) (jc a2)),At.int IntKind.i64 (t1V (jc a1) (jc a2) (jc a0) (jc a3)),At.int IntKind.i64 (s1V 1 (-1) 1 (-1) (jc a0) (jc a1) (jc a2) (jc a3)),At.int IntKind.i64 (t1V (jc a2) (jc a3) (wr IntKind.i64 (0 - jc a0)) (jc a1)),At.int IntKind.i64 (t1V (jc a1) (jc a3) (wr IntKind.i64 (0 - jc a0)) (jc a2)),At.int IntKind.i64 (t1V (jc a2) (jc a3) (jc a0) (jc a1)),At.int IntKind.i64 (s1V 1 (-1) (-1) 1 (jc a0) (jc a1) (jc a2) (jc a3))]),some { ty:=61,fr:=(0,0),es:=0,cells:=[At.bool (hb||jV a0||jV a1||jV a2||jV a3||s1H 1 1 (-1) (-1) (jc a0) (jc a1) (jc a2) (jc a3)||t1H (jc a1) (jc a2) (wr IntKind.i64 (0 - jc a0)) (jc a3)||t1H (jc a1) (jc a3) (jc a0) (jc a2)||t1H (jc a1) (jc a2) (jc a0) (jc a3)||s1H 1 (-1) 1 (-1) (jc a0) (jc a1) (jc a2) (jc a3)||t1H (jc a2) (jc a3) (wr IntKind.i64 (0 - jc a0)) (jc a1)||t1H (jc a1) (jc a3) (wr IntKind.i64 (0 - jc a0)) (jc a2)||t1H (jc a2) (jc a3) (jc a0) (jc a1)||s1H 1 (-1) (-1) 1 (jc a0) (jc a1) (jc a2) (jc a3))] },[]):=by kernel_rfl
def jB3 (a0 a1 a2 a3:Int) (hb:Bool):Option (LV×Bool×List (Bool×Bool)):=some (LV.v (V1.agg [At.int IntKind.i64 (s1V 1 1 (-1) (-1) (jc a0) (jc a1) (jc a2) (jc a3)),At.int IntKind.i64 (t1V (jc a1) (jc a2) (wr IntKind.i64 (0 - jc a0)) (jc a3)),At.int IntKind.i64 (t1V (jc a1) (jc a3) (jc a0) (jc a2)),At.int IntKind.i64 (t1V (jc a1) (jc a2) (jc a0) (jc a3)),At.int IntKind.i64 (s1V 1 (-1) 1 (-1) (jc a0) (jc a1) (jc a2) (jc a3)),At.int IntKind.i64 (t1V (jc a2) (jc a3) (wr IntKind.i64 (0 - jc a0)) (jc a1)),At.int IntKind.i64 (t1V (jc a1) (jc a3) (wr IntKind.i64 (0 - jc a0)) (jc a2)),At.int IntKind.i64 (t1V (jc a2) (jc a3) (jc a0) (jc a1)),At.int IntKind.i64 (s1V 1 (-1) (-1) 1 (jc a0) (jc a1) (jc a2) (jc a3))]),(hb||jV a0||jV a1||jV a2||jV a3||s1H 1 1 (-1) (-1) (jc a0) (jc a1) (jc a2) (jc a3)||t1H (jc a1) (jc a2) (wr IntKind.i64 (0 - jc a0)) (jc a3)||t1H (jc a1) (jc a3) (jc a0) (jc a2)||t1H (jc a1) (jc a2) (jc a0) (jc a3)||s1H 1 (-1) 1 (-1) (jc a0) (jc a1) (jc a2) (jc a3)||t1H (jc a2) (jc a3) (wr IntKind.i64 (0 - jc a0)) (jc a1)||t1H (jc a1) (jc a3) (wr IntKind.i64 (0 - jc a0)) (jc a2)||t1H (jc a2) (jc a3) (jc a0) (jc a1)||s1H 1 (-1) (-1) 1 (jc a0) (jc a1) (jc a2) (jc a3)),[])
def jye:List LV→Bool→Option (LV×Bool×List (Bool×Bool))
 | [.v (.agg [.int .i64 a0,.int .i64 a1,.int .i64 a2,.int .i64 a3])],hb=>jB3 a0 a1 a2 a3 hb
 | _,_=>none
theorem sumrof:SumOK Tryz.prog 38 (jv 61 jye):=by
 refine jT (z:=Zl) sound22 (jg sound22 Tryz.func38 (by kernel_rfl)) fun args hb v h' cs hF hc=> ?_
 unfold jye at hF
 split at hF
 ·rename_i a0 a1 a2 a3
  unfold jB3 at hF
  cases hF
  exact ⟨rfl,2000,[none,none,none,none,none],_,jyd a0 a1 a2 a3 hb,jd⟩
 ·cases hF
theorem jqe :(jR Tryz.prog S22 Zl 2000 115 [] [] 0 []).map (fun r=>(r.1,r.2.2.2))=some (LV.v (V1.agg [At.int IntKind.i64 1073741824,At.int IntKind.i64 0,At.int IntKind.i64 0,At.int IntKind.i64 0]),[]):=by kernel_rfl
def jqf :Option (LV×List (Bool×Bool)):=some (LV.v (V1.agg [At.int IntKind.i64 1073741824,At.int IntKind.i64 0,At.int IntKind.i64 0,At.int IntKind.i64 0]),[])
def jll:List LV→Option (LV×List (Bool×Bool))
 | []=>jqf
 | _=>none
theorem jlm:SumOK Tryz.prog 115 (jp jll):=by
 refine jM (z:=Zl) sound22 (jg sound22 Tryz.func115 (by kernel_rfl)) fun args v cs hF hc=> ?_
 unfold jll at hF
 split at hF
 ·unfold jqf at hF
  cases hF
  exact ⟨2000,[],_,jqe ,jd⟩
 ·cases hF
def S23:FuncId→Option SumK:=(more (more (more S22 134 (jv 61 jlj)) 38 (jv 61 jye)) 115 (jp jll))
theorem sound23:Sound Tryz.prog S23:=(((sound22.more jlk).more sumrof).more jlm)
end Go.Proofs.YtnlhpaidmiogbaaGreat

/- Summaries that the evaluator makes by running the callee. -/
namespace Go.Proofs.YtnlhpaidmiogbaaGreat
open Go.Lr
noncomputable def T0:FuncId→Option SumK:=S23
theorem soundT0:Sound Tryz.prog T0:=sound23
noncomputable def T1:FuncId→Option SumK:=more T0 186 (yq Tryz.prog T0 Zl 2000 186)
theorem soundT1:Sound Tryz.prog T1:=soundT0.more (kv soundT0 (jg soundT0 Tryz.func186 (by kernel_rfl)))
noncomputable def T2:FuncId→Option SumK:=more T1 127 (yq Tryz.prog T1 Zl 2000 127)
theorem soundT2:Sound Tryz.prog T2:=soundT1.more (kv soundT1 (jg soundT1 Tryz.func127 (by kernel_rfl)))
noncomputable def T3:FuncId→Option SumK:=more T2 126 (yq Tryz.prog T2 Zl 2000 126)
theorem soundT3:Sound Tryz.prog T3:=soundT2.more (kv soundT2 (jg soundT2 Tryz.func126 (by kernel_rfl)))
noncomputable def T4:FuncId→Option SumK:=more T3 125 (yq Tryz.prog T3 Zl 2000 125)
theorem soundT4:Sound Tryz.prog T4:=soundT3.more (kv soundT3 (jg soundT3 Tryz.func125 (by kernel_rfl)))
noncomputable def T5:FuncId→Option SumK:=more T4 117 (yq Tryz.prog T4 Zl 2000 117)
theorem soundT5:Sound Tryz.prog T5:=soundT4.more (kv soundT4 (jg soundT4 Tryz.func117 (by kernel_rfl)))
noncomputable def T6:FuncId→Option SumK:=more T5 148 (yq Tryz.prog T5 Zl 2000 148)
theorem soundT6:Sound Tryz.prog T6:=soundT5.more (kv soundT5 (jg soundT5 Tryz.func148 (by kernel_rfl)))
noncomputable def T7:FuncId→Option SumK:=T6
theorem jkb:Sound Tryz.prog T7:=soundT6
noncomputable def T8:FuncId→Option SumK:=T7
theorem jkc:Sound Tryz.prog T8:=jkb
noncomputable def T9:FuncId→Option SumK:=T8
theorem soundT9:Sound Tryz.prog T9:=jkc
noncomputable def T10:FuncId→Option SumK:=more T9 217 (xj Tryz.prog T9 Zl 2000 217)
theorem soundT10:Sound Tryz.prog T10:=soundT9.more (kh soundT9 (jg soundT9 Tryz.func217 (by kernel_rfl)))
noncomputable def T11:FuncId→Option SumK:=more T10 178 (yq Tryz.prog T10 Zl 2000 178)
theorem soundT11:Sound Tryz.prog T11:=soundT10.more (kv soundT10 (jg soundT10 Tryz.func178 (by kernel_rfl)))
noncomputable def T12:FuncId→Option SumK:=T11
theorem soundT12:Sound Tryz.prog T12:=soundT11
noncomputable def T13:FuncId→Option SumK:=more T12 150 (xj Tryz.prog T12 Zl 2000 150)
theorem soundT13:Sound Tryz.prog T13:=soundT12.more (kh soundT12 (jg soundT12 Tryz.func150 (by kernel_rfl)))
noncomputable def T14:FuncId→Option SumK:=T13
theorem soundT14:Sound Tryz.prog T14:=soundT13
noncomputable def T15:FuncId→Option SumK:=more T14 85 (xj Tryz.prog T14 Zl 2000 85)
theorem soundT15:Sound Tryz.prog T15:=soundT14.more (kh soundT14 (jg soundT14 Tryz.func85 (by kernel_rfl)))
noncomputable def T16:FuncId→Option SumK:=more T15 196 (xj Tryz.prog T15 Zl 2000 196)
theorem soundT16:Sound Tryz.prog T16:=soundT15.more (kh soundT15 (jg soundT15 Tryz.func196 (by kernel_rfl)))
noncomputable def T17:FuncId→Option SumK:=more T16 177 (xj Tryz.prog T16 Zl 2000 177)
theorem soundT17:Sound Tryz.prog T17:=soundT16.more (kh soundT16 (jg soundT16 Tryz.func177 (by kernel_rfl)))
noncomputable def T18:FuncId→Option SumK:=more T17 151 (xj Tryz.prog T17 Zl 2000 151)
theorem soundT18:Sound Tryz.prog T18:=soundT17.more (kh soundT17 (jg soundT17 Tryz.func151 (by kernel_rfl)))
noncomputable def T19:FuncId→Option SumK:=T18
theorem soundT19:Sound Tryz.prog T19:=soundT18
noncomputable def T20:FuncId→Option SumK:=more T19 153 (xj Tryz.prog T19 Zl 2000 153)
theorem soundT20:Sound Tryz.prog T20:=soundT19.more (kh soundT19 (jg soundT19 Tryz.func153 (by kernel_rfl)))
noncomputable def T21:FuncId→Option SumK:=T20
theorem soundT21:Sound Tryz.prog T21:=soundT20
noncomputable def T22:FuncId→Option SumK:=more T21 37 (xj Tryz.prog T21 Zl 2000 37)
theorem soundT22:Sound Tryz.prog T22:=soundT21.more (kh soundT21 (jg soundT21 Tryz.func37 (by kernel_rfl)))
noncomputable def T23:FuncId→Option SumK:=more T22 40 (xj Tryz.prog T22 Zl 2000 40)
theorem soundT23:Sound Tryz.prog T23:=soundT22.more (kh soundT22 (jg soundT22 Tryz.func40 (by kernel_rfl)))
noncomputable def T24:FuncId→Option SumK:=more T23 84 (yq Tryz.prog T23 Zl 2000 84)
theorem soundT24:Sound Tryz.prog T24:=soundT23.more (kv soundT23 (jg soundT23 Tryz.func84 (by kernel_rfl)))
noncomputable def T25:FuncId→Option SumK:=more T24 111 (xj Tryz.prog T24 Zl 2000 111)
theorem soundT25:Sound Tryz.prog T25:=soundT24.more (kh soundT24 (jg soundT24 Tryz.func111 (by kernel_rfl)))
noncomputable def T26:FuncId→Option SumK:=more T25 53 (xj Tryz.prog T25 Zl 2000 53)
theorem soundT26:Sound Tryz.prog T26:=soundT25.more (kh soundT25 (jg soundT25 Tryz.func53 (by kernel_rfl)))
noncomputable def T27:FuncId→Option SumK:=more T26 54 (xj Tryz.prog T26 Zl 2000 54)
theorem soundT27:Sound Tryz.prog T27:=soundT26.more (kh soundT26 (jg soundT26 Tryz.func54 (by kernel_rfl)))
noncomputable def T28:FuncId→Option SumK:=more T27 244 (xj Tryz.prog T27 Zl 2000 244)
theorem soundT28:Sound Tryz.prog T28:=soundT27.more (kh soundT27 (jg soundT27 Tryz.func244 (by kernel_rfl)))
noncomputable def T29:FuncId→Option SumK:=T28
theorem soundT29:Sound Tryz.prog T29:=soundT28
noncomputable def T30:FuncId→Option SumK:=more T29 245 (xj Tryz.prog T29 Zl 2000 245)
theorem soundT30:Sound Tryz.prog T30:=soundT29.more (kh soundT29 (jg soundT29 Tryz.func245 (by kernel_rfl)))
noncomputable def T31:FuncId→Option SumK:=more T30 222 (xj Tryz.prog T30 Zl 2000 222)
theorem soundT31:Sound Tryz.prog T31:=soundT30.more (kh soundT30 (jg soundT30 Tryz.func222 (by kernel_rfl)))
noncomputable def T32:FuncId→Option SumK:=more T31 223 (xj Tryz.prog T31 Zl 2000 223)
theorem soundT32:Sound Tryz.prog T32:=soundT31.more (kh soundT31 (jg soundT31 Tryz.func223 (by kernel_rfl)))
noncomputable def T33:FuncId→Option SumK:=more T32 194 (xj Tryz.prog T32 Zl 2000 194)
theorem soundT33:Sound Tryz.prog T33:=soundT32.more (kh soundT32 (jg soundT32 Tryz.func194 (by kernel_rfl)))
noncomputable def T34:FuncId→Option SumK:=T33
theorem soundT34:Sound Tryz.prog T34:=soundT33
noncomputable def T35:FuncId→Option SumK:=more T34 39 (xj Tryz.prog T34 Zl 2000 39)
theorem soundT35:Sound Tryz.prog T35:=soundT34.more (kh soundT34 (jg soundT34 Tryz.func39 (by kernel_rfl)))
noncomputable def T36:FuncId→Option SumK:=more T35 155 (xj Tryz.prog T35 Zl 2000 155)
theorem soundT36:Sound Tryz.prog T36:=soundT35.more (kh soundT35 (jg soundT35 Tryz.func155 (by kernel_rfl)))
noncomputable def T37:FuncId→Option SumK:=moreG T36 235 (jS Tryz.prog T36 Zl 2000 235)
theorem soundT37:Sound Tryz.prog T37:=soundT36.moreG (jl soundT36 (jg soundT36 Tryz.func235 (by kernel_rfl)))
noncomputable def T38:FuncId→Option SumK:=moreG T37 147 (jS Tryz.prog T37 Zl 2000 147)
theorem soundT38:Sound Tryz.prog T38:=soundT37.moreG (jl soundT37 (jg soundT37 Tryz.func147 (by kernel_rfl)))
noncomputable def T39:FuncId→Option SumK:=more T38 204 (xj Tryz.prog T38 Zl 2000 204)
theorem soundT39:Sound Tryz.prog T39:=soundT38.more (kh soundT38 (jg soundT38 Tryz.func204 (by kernel_rfl)))
noncomputable def T40:FuncId→Option SumK:=more T39 236 (xj Tryz.prog T39 Zl 2000 236)
theorem soundT40:Sound Tryz.prog T40:=soundT39.more (kh soundT39 (jg soundT39 Tryz.func236 (by kernel_rfl)))
noncomputable def T41:FuncId→Option SumK:=more T40 221 (xj Tryz.prog T40 Zl 2000 221)
theorem soundT41:Sound Tryz.prog T41:=soundT40.more (kh soundT40 (jg soundT40 Tryz.func221 (by kernel_rfl)))
noncomputable def T42:FuncId→Option SumK:=more T41 220 (xj Tryz.prog T41 Zl 2000 220)
theorem soundT42:Sound Tryz.prog T42:=soundT41.more (kh soundT41 (jg soundT41 Tryz.func220 (by kernel_rfl)))
noncomputable def T43:FuncId→Option SumK:=more T42 205 (xj Tryz.prog T42 Zl 2000 205)
theorem soundT43:Sound Tryz.prog T43:=soundT42.more (kh soundT42 (jg soundT42 Tryz.func205 (by kernel_rfl)))
noncomputable def S24:FuncId→Option SumK:=T43
theorem sound24:Sound Tryz.prog S24:=soundT43
end Go.Proofs.YtnlhpaidmiogbaaGreat

/- Facts of rounding, dividing, roots, clamping: plain. -/
namespace Go.Proofs.YtnlhpaidmiogbaaGreat
open Go.Lr
set_option linter.unusedVariables false
theorem jaX (a:Int):jc (jc a)=jc a:=by have:=yT a;exact jL this.1 this.2
theorem jeJ {w:Int} (h:0≤w) (s:Nat):kB w s=(w+yW s)/jj s:=by
 unfold kB sgn
 rw [yG h]
 have:¬w<0:=by omega
 simp [this]
theorem jky {w:Int} (h:w≤0) (s:Nat):kB w s = -((-w+yW s)/jj s):=by
 by_cases h0:w=0
 ·subst h0
  rw [jeJ (Int.le_refl 0)]
  have h1:=Zi s
  have h2:=kg s
  have h3:yW s<jj s:=by
   cases s with
   | zero=>decide
   | succ n=>have:=kg n;show jj n<_;rw [zk];omega
  have e:(0+yW s)/jj s=0:=Int.ediv_eq_zero_of_lt (by omega) (by omega)
  rw [e,Int.neg_zero,e,Int.neg_zero]
 ·unfold kB sgn
  rw [jh2 h]
  have:w<0:=by omega
  simp [this]
theorem jeK (s:Nat):2*yW s≤jj s∧(s=0∧yW s=0∧jj s=1∨2*yW s=jj s):=by
 cases s with
 | zero=>exact ⟨by decide,.inl ⟨rfl,rfl,rfl⟩⟩
 | succ n=>rw [zk];exact ⟨Int.le_refl _,.inr rfl⟩
theorem jjp (w:Int) (s:Nat): -(jj s)≤2*(kB w s*jj s - w)∧2*(kB w s*jj s - w)≤jj s:=by
 have hp:=kg s
 have hh:=jeK s
 have h1:=(Zi s).1
 have key:∀u:Int,0≤u→ -(jj s)≤2*((u+yW s)/jj s*jj s - u)∧2*((u+yW s)/jj s*jj s - u)≤jj s:=by
  intro u hu
  have e:=Int.emod_add_mul_ediv (u+yW s) (jj s)
  have a:=Int.emod_nonneg (u+yW s) (show jj s≠0 by omega)
  have b:=Int.emod_lt_of_pos (u+yW s) hp
  rw [Int.mul_comm (jj s)] at e
  generalize (u+yW s)/jj s*jj s=q at *
  generalize (u+yW s)%jj s=r at *
  omega
 by_cases h:0≤w
 ·rw [jeJ h];exact key w h
 ·rw [jky (by omega)]
  have:=key (-w) (by omega)
  rw [Int.neg_mul]
  omega
theorem jeL {a b:Int} (ha:0≤a) (hb:0<b): -b≤2*(jcA a b*b - a)∧2*(jcA a b*b - a)≤b:=by
 have e:=Int.emod_add_mul_ediv a b
 have h0:=Int.emod_nonneg a (show b≠0 by omega)
 have h1:=Int.emod_lt_of_pos a hb
 rw [Int.mul_comm b] at e
 unfold jcA
 split
 ·have e2:(a/b+1)*b=a/b*b+b:=by grind
  rw [e2];omega
 ·omega
theorem jeM {a b:Int} (ha:0≤a) (hb:0<b):xU a b=jcA a b:=by
 unfold xU
 rw [yG ha,yG (by omega)]
 have h1:¬a<0:=by omega
 have h2:¬b<0:=by omega
 simp [h1,h2,sgn]
theorem jeN {N m:Int} (h0:0≤N) (h1:N<340282366920938463463374607431768211456) (h:m≤0∨m*m - m<N):m≤kp N:=by
 obtain ⟨a,b,c⟩:=Kk h0 h1
 generalize kp N=r at *
 rcases h with h | h
 ·omega
 ·rcases Int.lt_or_le r m with hlt | hle
  ·exfalso
   have e:r*r+r=r*(r+1):=by grind
   have:r*(r+1)≤(m - 1)*m:=Int.mul_le_mul (by omega) (by omega) (by omega) (by omega)
   have e2:(m - 1)*m=m*m - m:=by grind
   omega
  ·exact hle
end Go.Proofs.YtnlhpaidmiogbaaGreat

/- Plain facts that the Xl answer's texts brought. -/
namespace Go.Proofs.YtnlhpaidmiogbaaGreat
open Go.Lr
set_option linter.unusedVariables false
set_option linter.unusedSimpArgs false
theorem jqg (x:Int) (h0:0≤x) (h1:x<18446744073709551616):Int.ofNat ((u64 x).toNat.land (u64 1).toNat)=x%2:=by
 have e:(u64 1).toNat=2 ^ 1 - 1:=by decide
 rw [kI h0 h1,e]
 show ((x.toNat &&& (2 ^ 1 - 1):Nat):Int)=_
 rw [Nat.and_two_pow_sub_one_eq_mod]
 omega
theorem jfo {d:Int} (h:0<d):jcA 0 d=0:=by
 unfold jcA
 rw [Int.zero_emod,Int.zero_ediv,if_neg (by omega)]
end Go.Proofs.YtnlhpaidmiogbaaGreat

/- trig.Wrap: its runs, and what it comes to. -/
namespace Go.Proofs.YtnlhpaidmiogbaaGreat
open Go.Lr
set_option linter.unusedVariables false
set_option linter.unusedSimpArgs false
theorem jlZ (a:Int):(jR Tryz.prog S23 Zl 2000 84 [.v (.one (.int .i64 a))] [] 0 [some true]).map (fun r=>(r.1,r.2.2.2))=some (LV.v (V1.one (At.int IntKind.i64 (wr IntKind.i64 (a.tmod 6746518852 - 6746518852)))),[(decide (a.tmod 6746518852>3373259426),true)]):=by kernel_rfl
theorem jl0 (a:Int):(jR Tryz.prog S23 Zl 2000 84 [.v (.one (.int .i64 a))] [] 0 [some false,some true]).map (fun r=>(r.1,r.2.2.2))=some (LV.v (V1.one (At.int IntKind.i64 (wr IntKind.i64 (a.tmod 6746518852+6746518852)))),[(decide (a.tmod 6746518852≤ -3373259426),true),(decide (a.tmod 6746518852>3373259426),false)]):=by kernel_rfl
theorem jl1 (a:Int):(jR Tryz.prog S23 Zl 2000 84 [.v (.one (.int .i64 a))] [] 0 [some false,some false]).map (fun r=>(r.1,r.2.2.2))=some (LV.v (V1.one (At.int IntKind.i64 (a.tmod 6746518852))),[(decide (a.tmod 6746518852≤ -3373259426),false),(decide (a.tmod 6746518852>3373259426),false)]):=by kernel_rfl
def jc0 (a:Int):Option (LV×List (Bool×Bool)):=
 bif (decide (a.tmod 6746518852>3373259426)) then some (LV.v (V1.one (At.int IntKind.i64 (wr IntKind.i64 (a.tmod 6746518852 - 6746518852)))),[])
 else
  bif (decide (a.tmod 6746518852≤ -3373259426)) then some (LV.v (V1.one (At.int IntKind.i64 (wr IntKind.i64 (a.tmod 6746518852+6746518852)))),[])
  else some (LV.v (V1.one (At.int IntKind.i64 (a.tmod 6746518852))),[])
def jjQ:List LV→Option (LV×List (Bool×Bool))
 | [.v (.one (.int .i64 a))]=>jc0 a
 | _=>none
theorem sumtwrap:SumOK Tryz.prog 84 (jp jjQ):=by
 refine jM (z:=Zl) sound23 (jg sound23 Tryz.func84 (by kernel_rfl)) fun args v cs hF hc=> ?_
 unfold jjQ at hF
 split at hF
 ·rename_i a
  unfold jc0 at hF
  rcases ji (decide (a.tmod 6746518852>3373259426)) with h0 | h0
  ·rw [jH h0] at hF
   cases hF
   exact ⟨2000,[some true],_,jlZ a,ja (h0) (jd)⟩
  ·rw [jB h0] at hF
   rcases ji (decide (a.tmod 6746518852≤ -3373259426)) with h1 | h1
   ·rw [jH h1] at hF
    cases hF
    exact ⟨2000,[some false,some true],_,jl0 a,ja (h1) (ja (h0) (jd))⟩
   ·rw [jB h1] at hF
    cases hF
    exact ⟨2000,[some false,some false],_,jl1 a,ja (h1) (ja (h0) (jd))⟩
 ·cases hF
def kM (a:Int):Int:=if a.tmod 6746518852>3373259426 then a.tmod 6746518852 - 6746518852 else if a.tmod 6746518852≤ -3373259426 then a.tmod 6746518852+6746518852 else a.tmod 6746518852
theorem jl2 (a:Int): -6746518852<a.tmod 6746518852∧a.tmod 6746518852<6746518852∧∃k,a=k*6746518852+a.tmod 6746518852:=by
 have h:=Int.tmod_add_mul_tdiv a 6746518852
 refine ⟨?_, ?_,a.tdiv 6746518852,by omega⟩
 ·have:=Int.lt_tmod_of_pos a (show (0:Int)<6746518852 by decide);omega
 ·exact Int.tmod_lt_of_pos a (by decide)
def jl3:List LV→Option (LV×List (Bool×Bool))
 | [.v (.one (.int .i64 a))]=>some (I (kM a),[])
 | _=>none
theorem jl4:SumOK Tryz.prog 84 (jp jl3):=by
 refine sumtwrap.pure_re fun args v cs hF hc=> ?_
 unfold jl3 at hF
 split at hF
 ·rename_i a
  cases hF
  show ∃cs',jc0 a=_∧_
  obtain ⟨h0,h1,-⟩:=jl2 a
  unfold jc0 kM
  generalize a.tmod 6746518852=t at *
  by_cases c1:t>3373259426
  ·rw [jH (decide_eq_true c1),if_pos c1]
   have e:wr IntKind.i64 (t - 6746518852)=t - 6746518852:=xu (by omega) (by omega)
   exact ⟨[],by rw [e];rfl,jd⟩
  ·rw [jB (decide_eq_false c1),if_neg c1]
   by_cases c2:t≤ -3373259426
   ·rw [jH (decide_eq_true c2),if_pos c2]
    have e:wr IntKind.i64 (t+6746518852)=t+6746518852:=xu (by omega) (by omega)
    exact ⟨[],by rw [e];rfl,jd⟩
   ·rw [jB (decide_eq_false c2),if_neg c2]
    exact ⟨[],rfl,jd⟩
 ·cases hF
end Go.Proofs.YtnlhpaidmiogbaaGreat

/- The Xl answer's wrapping of angles: its runs (printed), and what it comes to. -/
namespace Go.Proofs.YtnlhpaidmiogbaaGreat
open Go.Lr
set_option linter.unusedVariables false
set_option linter.unusedSimpArgs false
noncomputable def S34:FuncId→Option SumK:=more S24 84 (jp jl3)
theorem sound34:Sound Tryz.prog S34:=sound24.more jl4
end Go.Proofs.YtnlhpaidmiogbaaGreat

/- Summaries of methods with slices, told in other words; fx.Add without an ask. -/
namespace Go.Lr
open Go.RowKit
def acT (ty:TypeId) (es:Nat) (F:List AV→Bool→Option (LV×Bool×List (Bool×Bool))) (c:Nat) (rest:List LV) (bl:List Nat):Tch:=⟨bl,[c],fun rdB wB _=>match wB with
 | [⟨t,(0,0),0,[.bool h]⟩]=>match Nat.beq t ty with
  | true=>match avA es rest rdB with
   | some (avs,cs0)=>match F avs h with
    | some (v,h',cs)=>match v.ok noP with
     | true=>some ⟨v,[flag ty h'],[],cs0++cs⟩
     | false=>none
    | none=>none
   | none=>none
  | false=>none
 | _=>none⟩
theorem SumOK.ac_re {P:Program} {f:FuncId} {ty:TypeId} {es:Nat} {F F':List AV→Bool→Option (LV×Bool×List (Bool×Bool))} (h:SumOK P f (yv ty es F))
  (hi:∀avs hb v h' cs,F' avs hb=some (v,h',cs)→(∀c∈cs,c.1=c.2)→∃cs',F avs hb=some (v,h',cs')∧∀c∈cs',c.1=c.2):SumOK P f (yv ty es F'):=by
 intro args t g nb p rdB wrB ans ws E w hs hr hw hnd hgo hz hc hrel hg hargs hn
 unfold yv at hs
 split at hs
 ·rename_i c rest
  split at hs
  ·rename_i bl hbl
   split at hs
   ·rename_i hm
    cases hs
    simp only at hgo hw hr hz
    split at hgo
    ·rename_i t' hb
     split at hgo
     ·rename_i hty
      split at hgo
      ·rename_i avs cs0 hav
       split at hgo
       ·rename_i v h' cs hF
        split at hgo
        ·rename_i hv
         cases hgo
         obtain ⟨cs',h1,h2⟩:=hi avs hb v h' cs hF fun d hd=>hc d (List.mem_append_right _ hd)
         refine h (.v (.one (.ptr c 0))::rest) (acT ty es F c rest bl) g nb p rdB _ ⟨v,[flag ty h'],[],cs0++cs'⟩ ws E w (by unfold yv;simp only [hbl,hm];rfl) hr hw hnd ?_ hz (fun d hd=>(List.mem_append.1 hd).elim (fun hd=>hc d (List.mem_append_left _ hd)) (h2 d)) hrel hg hargs hn
         simp only [acT,hty,hav,h1,hv]
        ·cases hgo
       ·cases hgo
      ·cases hgo
     ·cases hgo
    ·cases hgo
   ·cases hs
  ·cases hs
 ·cases hs
end Go.Lr
namespace Go.Proofs.YtnlhpaidmiogbaaGreat
open Go.Lr
set_option linter.unusedVariables false
def jck:List AV→Bool→Option (LV×Bool×List (Bool×Bool))
 | [.ints xs],hb=>match Nat.ble xs.length 1000 with
  | true=>some (I (Xo xs),hb||xp xs,[])
  | false=>none
 | _,_=>none
theorem jcl:SumOK Tryz.prog 181 (yv 61 1 jck):=by
 refine sumFadd.ac_re fun avs hb v h' cs hF hc=> ?_
 unfold jck at hF
 split at hF
 ·rename_i xs
  split at hF
  ·rename_i hl
   cases hF
   have:=Nat.le_of_ble_eq_true hl
   exact ⟨_,rfl,ja (decide_eq_true (by omega)) jd⟩
  ·cases hF
 ·cases hF
noncomputable def S35:FuncId→Option SumK:=more S34 181 (yv 61 1 jck)
theorem sound35:Sound Tryz.prog S35:=sound34.more jcl
end Go.Proofs.YtnlhpaidmiogbaaGreat

/- trig.Atan2: its runs, against what it computes. -/
namespace Go.Proofs.YtnlhpaidmiogbaaGreat
open Go.Lr
set_option linter.unusedVariables false
set_option linter.unusedSimpArgs false
def jkY (z:Int):Int→List Int→Int
 | s,[]=>s
 | s,k::l=>jkY z (Xo [k,ko z s 30]) l
def jhL (z:Int):Bool→Int→List Int→Bool
 | h,s,[]=>h
 | h,s,k::l=>jhL z (h||Xn z s 30||xp [k,ko z s 30]) (Xo [k,ko z s 30]) l
def atL:List Int:=[51130563,-56512728,63161284,-71582788,82595525,-97612893,119304647,-153391689,214748365,-357913941,1073741824]
def mnV (y x:Int):Int:=if jO (jc x)<jO (jc y) then jO (jc x) else jO (jc y)
def mxV (y x:Int):Int:=if jO (jc x)>jO (jc y) then jO (jc x) else jO (jc y)
def t0V (y x:Int):Int:=kz (mnV y x) (mxV y x) 30
def ttV (big:Bool) (t0:Int):Int:=bif big then kz (wr IntKind.i64 (t0 - 1073741824)) (wr IntKind.i64 (t0+1073741824)) 30 else t0
def r0V (big:Bool) (t0:Int):Int:=wr IntKind.i64 ((bif big then 843314857 else 0)+ko (ttV big t0) (jkY (ko (ttV big t0) (ttV big t0) 30) (-46684427) atL) 30)
def zi (big steep xn yn:Bool) (t0:Int):Int:=
 bif yn then wr IntKind.i64 (0 - (bif xn then wr IntKind.i64 (3373259426 - (bif steep then wr IntKind.i64 (1686629713 - r0V big t0) else r0V big t0)) else (bif steep then wr IntKind.i64 (1686629713 - r0V big t0) else r0V big t0)))
 else (bif xn then wr IntKind.i64 (3373259426 - (bif steep then wr IntKind.i64 (1686629713 - r0V big t0) else r0V big t0)) else (bif steep then wr IntKind.i64 (1686629713 - r0V big t0) else r0V big t0))
def xf (big:Bool) (y x:Int) (h:Bool):Bool:=
 jhL (ko (ttV big (t0V y x)) (ttV big (t0V y x)) 30) ((bif big then h||xT (mnV y x) (mxV y x) 30||xT (wr IntKind.i64 (t0V y x - 1073741824)) (wr IntKind.i64 (t0V y x+1073741824)) 30 else h||xT (mnV y x) (mxV y x) 30)||Xn (ttV big (t0V y x)) (ttV big (t0V y x)) 30) (-46684427) atL||Xn (ttV big (t0V y x)) (jkY (ko (ttV big (t0V y x)) (ttV big (t0V y x)) 30) (-46684427) atL) 30
theorem atZ (y x:Int) (hb:Bool):(jR Tryz.prog S35 Zl 2000 244 [A0,I y,I x] [(0,flag 61 hb)] 1 [some true]).map qn=some (I 0,some (flag 61 (hb||jV y||jV x)),[(mxV y x==0,true)]):=by kernel_rfl
theorem jpm (y x:Int) (hb:Bool):(jR Tryz.prog S35 Zl 2000 244 [A0,I y,I x] [(0,flag 61 hb)] 1 [some false,some true,none,none,none,none,none,none,none,none,none,none,none,none,some true,some true,some true]).map qn=some (I (zi true true true true (t0V y x)),some (flag 61 (xf true y x (hb||jV y||jV x))),[(decide (jc y<0),true),(decide (jc x<0),true),(decide (jO (jc y)>jO (jc x)),true),(decide (t0V y x>444758426),true),(mxV y x==0,false)]):=by kernel_rfl
theorem jpn (y x:Int) (hb:Bool):(jR Tryz.prog S35 Zl 2000 244 [A0,I y,I x] [(0,flag 61 hb)] 1 [some false,some true,none,none,none,none,none,none,none,none,none,none,none,none,some true,some true,some false]).map qn=some (I (zi true true true false (t0V y x)),some (flag 61 (xf true y x (hb||jV y||jV x))),[(decide (jc y<0),false),(decide (jc x<0),true),(decide (jO (jc y)>jO (jc x)),true),(decide (t0V y x>444758426),true),(mxV y x==0,false)]):=by kernel_rfl
theorem jpo (y x:Int) (hb:Bool):(jR Tryz.prog S35 Zl 2000 244 [A0,I y,I x] [(0,flag 61 hb)] 1 [some false,some true,none,none,none,none,none,none,none,none,none,none,none,none,some true,some false,some true]).map qn=some (I (zi true true false true (t0V y x)),some (flag 61 (xf true y x (hb||jV y||jV x))),[(decide (jc y<0),true),(decide (jc x<0),false),(decide (jO (jc y)>jO (jc x)),true),(decide (t0V y x>444758426),true),(mxV y x==0,false)]):=by kernel_rfl
theorem jpp (y x:Int) (hb:Bool):(jR Tryz.prog S35 Zl 2000 244 [A0,I y,I x] [(0,flag 61 hb)] 1 [some false,some true,none,none,none,none,none,none,none,none,none,none,none,none,some true,some false,some false]).map qn=some (I (zi true true false false (t0V y x)),some (flag 61 (xf true y x (hb||jV y||jV x))),[(decide (jc y<0),false),(decide (jc x<0),false),(decide (jO (jc y)>jO (jc x)),true),(decide (t0V y x>444758426),true),(mxV y x==0,false)]):=by kernel_rfl
theorem jpq (y x:Int) (hb:Bool):(jR Tryz.prog S35 Zl 2000 244 [A0,I y,I x] [(0,flag 61 hb)] 1 [some false,some true,none,none,none,none,none,none,none,none,none,none,none,none,some false,some true,some true]).map qn=some (I (zi true false true true (t0V y x)),some (flag 61 (xf true y x (hb||jV y||jV x))),[(decide (jc y<0),true),(decide (jc x<0),true),(decide (jO (jc y)>jO (jc x)),false),(decide (t0V y x>444758426),true),(mxV y x==0,false)]):=by kernel_rfl
theorem jpr (y x:Int) (hb:Bool):(jR Tryz.prog S35 Zl 2000 244 [A0,I y,I x] [(0,flag 61 hb)] 1 [some false,some true,none,none,none,none,none,none,none,none,none,none,none,none,some false,some true,some false]).map qn=some (I (zi true false true false (t0V y x)),some (flag 61 (xf true y x (hb||jV y||jV x))),[(decide (jc y<0),false),(decide (jc x<0),true),(decide (jO (jc y)>jO (jc x)),false),(decide (t0V y x>444758426),true),(mxV y x==0,false)]):=by kernel_rfl
theorem jps (y x:Int) (hb:Bool):(jR Tryz.prog S35 Zl 2000 244 [A0,I y,I x] [(0,flag 61 hb)] 1 [some false,some true,none,none,none,none,none,none,none,none,none,none,none,none,some false,some false,some true]).map qn=some (I (zi true false false true (t0V y x)),some (flag 61 (xf true y x (hb||jV y||jV x))),[(decide (jc y<0),true),(decide (jc x<0),false),(decide (jO (jc y)>jO (jc x)),false),(decide (t0V y x>444758426),true),(mxV y x==0,false)]):=by kernel_rfl
theorem jpt (y x:Int) (hb:Bool):(jR Tryz.prog S35 Zl 2000 244 [A0,I y,I x] [(0,flag 61 hb)] 1 [some false,some true,none,none,none,none,none,none,none,none,none,none,none,none,some false,some false,some false]).map qn=some (I (zi true false false false (t0V y x)),some (flag 61 (xf true y x (hb||jV y||jV x))),[(decide (jc y<0),false),(decide (jc x<0),false),(decide (jO (jc y)>jO (jc x)),false),(decide (t0V y x>444758426),true),(mxV y x==0,false)]):=by kernel_rfl
theorem jpu (y x:Int) (hb:Bool):(jR Tryz.prog S35 Zl 2000 244 [A0,I y,I x] [(0,flag 61 hb)] 1 [some false,some false,none,none,none,none,none,none,none,none,none,none,none,none,some true,some true,some true]).map qn=some (I (zi false true true true (t0V y x)),some (flag 61 (xf false y x (hb||jV y||jV x))),[(decide (jc y<0),true),(decide (jc x<0),true),(decide (jO (jc y)>jO (jc x)),true),(decide (t0V y x>444758426),false),(mxV y x==0,false)]):=by kernel_rfl
theorem jpv (y x:Int) (hb:Bool):(jR Tryz.prog S35 Zl 2000 244 [A0,I y,I x] [(0,flag 61 hb)] 1 [some false,some false,none,none,none,none,none,none,none,none,none,none,none,none,some true,some true,some false]).map qn=some (I (zi false true true false (t0V y x)),some (flag 61 (xf false y x (hb||jV y||jV x))),[(decide (jc y<0),false),(decide (jc x<0),true),(decide (jO (jc y)>jO (jc x)),true),(decide (t0V y x>444758426),false),(mxV y x==0,false)]):=by kernel_rfl
theorem jpw (y x:Int) (hb:Bool):(jR Tryz.prog S35 Zl 2000 244 [A0,I y,I x] [(0,flag 61 hb)] 1 [some false,some false,none,none,none,none,none,none,none,none,none,none,none,none,some true,some false,some true]).map qn=some (I (zi false true false true (t0V y x)),some (flag 61 (xf false y x (hb||jV y||jV x))),[(decide (jc y<0),true),(decide (jc x<0),false),(decide (jO (jc y)>jO (jc x)),true),(decide (t0V y x>444758426),false),(mxV y x==0,false)]):=by kernel_rfl
theorem jpx (y x:Int) (hb:Bool):(jR Tryz.prog S35 Zl 2000 244 [A0,I y,I x] [(0,flag 61 hb)] 1 [some false,some false,none,none,none,none,none,none,none,none,none,none,none,none,some true,some false,some false]).map qn=some (I (zi false true false false (t0V y x)),some (flag 61 (xf false y x (hb||jV y||jV x))),[(decide (jc y<0),false),(decide (jc x<0),false),(decide (jO (jc y)>jO (jc x)),true),(decide (t0V y x>444758426),false),(mxV y x==0,false)]):=by kernel_rfl
theorem jpy (y x:Int) (hb:Bool):(jR Tryz.prog S35 Zl 2000 244 [A0,I y,I x] [(0,flag 61 hb)] 1 [some false,some false,none,none,none,none,none,none,none,none,none,none,none,none,some false,some true,some true]).map qn=some (I (zi false false true true (t0V y x)),some (flag 61 (xf false y x (hb||jV y||jV x))),[(decide (jc y<0),true),(decide (jc x<0),true),(decide (jO (jc y)>jO (jc x)),false),(decide (t0V y x>444758426),false),(mxV y x==0,false)]):=by kernel_rfl
theorem jpz (y x:Int) (hb:Bool):(jR Tryz.prog S35 Zl 2000 244 [A0,I y,I x] [(0,flag 61 hb)] 1 [some false,some false,none,none,none,none,none,none,none,none,none,none,none,none,some false,some true,some false]).map qn=some (I (zi false false true false (t0V y x)),some (flag 61 (xf false y x (hb||jV y||jV x))),[(decide (jc y<0),false),(decide (jc x<0),true),(decide (jO (jc y)>jO (jc x)),false),(decide (t0V y x>444758426),false),(mxV y x==0,false)]):=by kernel_rfl
theorem jpA (y x:Int) (hb:Bool):(jR Tryz.prog S35 Zl 2000 244 [A0,I y,I x] [(0,flag 61 hb)] 1 [some false,some false,none,none,none,none,none,none,none,none,none,none,none,none,some false,some false,some true]).map qn=some (I (zi false false false true (t0V y x)),some (flag 61 (xf false y x (hb||jV y||jV x))),[(decide (jc y<0),true),(decide (jc x<0),false),(decide (jO (jc y)>jO (jc x)),false),(decide (t0V y x>444758426),false),(mxV y x==0,false)]):=by kernel_rfl
theorem jpB (y x:Int) (hb:Bool):(jR Tryz.prog S35 Zl 2000 244 [A0,I y,I x] [(0,flag 61 hb)] 1 [some false,some false,none,none,none,none,none,none,none,none,none,none,none,none,some false,some false,some false]).map qn=some (I (zi false false false false (t0V y x)),some (flag 61 (xf false y x (hb||jV y||jV x))),[(decide (jc y<0),false),(decide (jc x<0),false),(decide (jO (jc y)>jO (jc x)),false),(decide (t0V y x>444758426),false),(mxV y x==0,false)]):=by kernel_rfl
def jpC (y x:Int):Int:=bif mxV y x==0 then 0 else zi (decide (t0V y x>444758426)) (decide (jO (jc y)>jO (jc x))) (decide (jc x<0)) (decide (jc y<0)) (t0V y x)
def jpD (y x:Int) (h:Bool):Bool:=bif mxV y x==0 then h||jV y||jV x else xf (decide (t0V y x>444758426)) y x (h||jV y||jV x)
def jkZ:List LV→Bool→Option (LV×Bool×List (Bool×Bool))
 | [.v (.one (.int .i64 y)),.v (.one (.int .i64 x))],hb=>some (I (jpC y x),jpD y x hb,[])
 | _,_=>none
theorem jk0:SumOK Tryz.prog 244 (jv 61 jkZ):=by
 refine jT (z:=Zl) sound35 (jg sound35 Tryz.func244 (by kernel_rfl)) fun args hb v h' cs hF hc=> ?_
 unfold jkZ at hF
 split at hF
 ·rename_i y x
  cases hF
  refine ⟨rfl, ?_⟩
  unfold jpC jpD
  rcases ji (mxV y x==0) with h0 | h0
  ·rw [jH h0,jH h0]
   exact ⟨2000,[some true],_,atZ y x hb,ja h0 jd⟩
  ·rw [jB h0,jB h0]
   rcases ji (decide (t0V y x>444758426)) with h1 | h1
   ·rcases ji (decide (jO (jc y)>jO (jc x))) with h2 | h2
    ·rcases ji (decide (jc x<0)) with h3 | h3
     ·rcases ji (decide (jc y<0)) with h4 | h4
      ·rw [h1,h2,h3,h4]
       exact ⟨2000,_,_,jpm y x hb,ja h4 (ja h3 (ja h2 (ja h1 (ja h0 jd))))⟩
      ·rw [h1,h2,h3,h4]
       exact ⟨2000,_,_,jpn y x hb,ja h4 (ja h3 (ja h2 (ja h1 (ja h0 jd))))⟩
     ·rcases ji (decide (jc y<0)) with h4 | h4
      ·rw [h1,h2,h3,h4]
       exact ⟨2000,_,_,jpo y x hb,ja h4 (ja h3 (ja h2 (ja h1 (ja h0 jd))))⟩
      ·rw [h1,h2,h3,h4]
       exact ⟨2000,_,_,jpp y x hb,ja h4 (ja h3 (ja h2 (ja h1 (ja h0 jd))))⟩
    ·rcases ji (decide (jc x<0)) with h3 | h3
     ·rcases ji (decide (jc y<0)) with h4 | h4
      ·rw [h1,h2,h3,h4]
       exact ⟨2000,_,_,jpq y x hb,ja h4 (ja h3 (ja h2 (ja h1 (ja h0 jd))))⟩
      ·rw [h1,h2,h3,h4]
       exact ⟨2000,_,_,jpr y x hb,ja h4 (ja h3 (ja h2 (ja h1 (ja h0 jd))))⟩
     ·rcases ji (decide (jc y<0)) with h4 | h4
      ·rw [h1,h2,h3,h4]
       exact ⟨2000,_,_,jps y x hb,ja h4 (ja h3 (ja h2 (ja h1 (ja h0 jd))))⟩
      ·rw [h1,h2,h3,h4]
       exact ⟨2000,_,_,jpt y x hb,ja h4 (ja h3 (ja h2 (ja h1 (ja h0 jd))))⟩
   ·rcases ji (decide (jO (jc y)>jO (jc x))) with h2 | h2
    ·rcases ji (decide (jc x<0)) with h3 | h3
     ·rcases ji (decide (jc y<0)) with h4 | h4
      ·rw [h1,h2,h3,h4]
       exact ⟨2000,_,_,jpu y x hb,ja h4 (ja h3 (ja h2 (ja h1 (ja h0 jd))))⟩
      ·rw [h1,h2,h3,h4]
       exact ⟨2000,_,_,jpv y x hb,ja h4 (ja h3 (ja h2 (ja h1 (ja h0 jd))))⟩
     ·rcases ji (decide (jc y<0)) with h4 | h4
      ·rw [h1,h2,h3,h4]
       exact ⟨2000,_,_,jpw y x hb,ja h4 (ja h3 (ja h2 (ja h1 (ja h0 jd))))⟩
      ·rw [h1,h2,h3,h4]
       exact ⟨2000,_,_,jpx y x hb,ja h4 (ja h3 (ja h2 (ja h1 (ja h0 jd))))⟩
    ·rcases ji (decide (jc x<0)) with h3 | h3
     ·rcases ji (decide (jc y<0)) with h4 | h4
      ·rw [h1,h2,h3,h4]
       exact ⟨2000,_,_,jpy y x hb,ja h4 (ja h3 (ja h2 (ja h1 (ja h0 jd))))⟩
      ·rw [h1,h2,h3,h4]
       exact ⟨2000,_,_,jpz y x hb,ja h4 (ja h3 (ja h2 (ja h1 (ja h0 jd))))⟩
     ·rcases ji (decide (jc y<0)) with h4 | h4
      ·rw [h1,h2,h3,h4]
       exact ⟨2000,_,_,jpA y x hb,ja h4 (ja h3 (ja h2 (ja h1 (ja h0 jd))))⟩
      ·rw [h1,h2,h3,h4]
       exact ⟨2000,_,_,jpB y x hb,ja h4 (ja h3 (ja h2 (ja h1 (ja h0 jd))))⟩
 ·cases hF
noncomputable def S36:FuncId→Option SumK:=more S35 244 (jv 61 jkZ)
theorem sound36:Sound Tryz.prog S36:=sound35.more jk0
end Go.Proofs.YtnlhpaidmiogbaaGreat

/- The law folder's awake, of chapter 4: its run. -/
namespace Go.Proofs.YtnlhpaidmiogbaaGreat
open Go.Lr
end Go.Proofs.YtnlhpaidmiogbaaGreat

/- What the laws of chapter 4 call: the awake, a number without its sign. -/
namespace Go.Proofs.YtnlhpaidmiogbaaGreat
open Go.Lr
set_option linter.unusedVariables false
end Go.Proofs.YtnlhpaidmiogbaaGreat

/- Sines, and the Xl answer's sines and angles: their runs, against what they compute. -/
namespace Go.Proofs.YtnlhpaidmiogbaaGreat
open Go.Lr
set_option linter.unusedVariables false
set_option linter.unusedSimpArgs false
def sL1:List Int:=[2959,-213044,8947849,-178956971,1073741824]
def sL2:List Int:=[-296,26631,-1491308,44739243,-536870912,1073741824]
def mmV (s:Int):Int:=if (1073741824:Int)<(if (-1073741824:Int)>s then -1073741824 else s) then 1073741824 else (if (-1073741824:Int)>s then -1073741824 else s)
def yb (b1 b2:Bool) (a:Int):Int:=bif b1 then wr IntKind.i64 (3373259426 - kM (jc a)) else bif b2 then wr IntKind.i64 (-3373259426 - kM (jc a)) else kM (jc a)
def jcn (w:Int):Int:=wr IntKind.i64 (1686629713 - jO w)
def jhM (w:Int):Int:=ko w (jkY (ko w w 30) (-27) sL1) 30
def jhN (w:Int) (h:Bool):Bool:=jhL (ko w w 30) (h||Xn w w 30) (-27) sL1||Xn w (jkY (ko w w 30) (-27) sL1) 30
def ja0 (ng:Bool) (x:Int):Int:=bif ng then wr IntKind.i64 (0 - jkY (ko x x 30) 2 sL2) else jkY (ko x x 30) 2 sL2
def ja1 (x:Int) (h:Bool):Bool:=jhL (ko x x 30) (h||Xn x x 30) 2 sL2
theorem jxz (a:Int) (hb:Bool):(jR Tryz.prog S36 Zl 2000 53 [A0,I a] [(0,flag 61 hb)] 1 [some true,some true,none,none,none,none,none,none,none]).map qn=some (I (mmV (jhM (yb true false a))),some (flag 61 (jhN (yb true false a) (hb||jV a))),[(decide (jO (yb true false a)≤843314857),true),(decide (kM (jc a)>1686629713),true)]):=by kernel_rfl
theorem jpE (a:Int) (hb:Bool):(jR Tryz.prog S36 Zl 2000 53 [A0,I a] [(0,flag 61 hb)] 1 [some true,some false,none,none,none,none,none,none,none,some true]).map qn=some (I (mmV (ja0 true (jcn (yb true false a)))),some (flag 61 (ja1 (jcn (yb true false a)) (hb||jV a))),[(decide ((yb true false a)<0),true),(decide (jO (yb true false a)≤843314857),false),(decide (kM (jc a)>1686629713),true)]):=by kernel_rfl
theorem jpF (a:Int) (hb:Bool):(jR Tryz.prog S36 Zl 2000 53 [A0,I a] [(0,flag 61 hb)] 1 [some true,some false,none,none,none,none,none,none,none,some false]).map qn=some (I (mmV (ja0 false (jcn (yb true false a)))),some (flag 61 (ja1 (jcn (yb true false a)) (hb||jV a))),[(decide ((yb true false a)<0),false),(decide (jO (yb true false a)≤843314857),false),(decide (kM (jc a)>1686629713),true)]):=by kernel_rfl
theorem jxA (a:Int) (hb:Bool):(jR Tryz.prog S36 Zl 2000 53 [A0,I a] [(0,flag 61 hb)] 1 [some false,some true,some true,none,none,none,none,none,none,none]).map qn=some (I (mmV (jhM (yb false true a))),some (flag 61 (jhN (yb false true a) (hb||jV a))),[(decide (jO (yb false true a)≤843314857),true),(decide (kM (jc a) < -1686629713),true),(decide (kM (jc a)>1686629713),false)]):=by kernel_rfl
theorem jpG (a:Int) (hb:Bool):(jR Tryz.prog S36 Zl 2000 53 [A0,I a] [(0,flag 61 hb)] 1 [some false,some true,some false,none,none,none,none,none,none,none,some true]).map qn=some (I (mmV (ja0 true (jcn (yb false true a)))),some (flag 61 (ja1 (jcn (yb false true a)) (hb||jV a))),[(decide ((yb false true a)<0),true),(decide (jO (yb false true a)≤843314857),false),(decide (kM (jc a) < -1686629713),true),(decide (kM (jc a)>1686629713),false)]):=by kernel_rfl
theorem jpH (a:Int) (hb:Bool):(jR Tryz.prog S36 Zl 2000 53 [A0,I a] [(0,flag 61 hb)] 1 [some false,some true,some false,none,none,none,none,none,none,none,some false]).map qn=some (I (mmV (ja0 false (jcn (yb false true a)))),some (flag 61 (ja1 (jcn (yb false true a)) (hb||jV a))),[(decide ((yb false true a)<0),false),(decide (jO (yb false true a)≤843314857),false),(decide (kM (jc a) < -1686629713),true),(decide (kM (jc a)>1686629713),false)]):=by kernel_rfl
theorem jxB (a:Int) (hb:Bool):(jR Tryz.prog S36 Zl 2000 53 [A0,I a] [(0,flag 61 hb)] 1 [some false,some false,some true,none,none,none,none,none,none,none]).map qn=some (I (mmV (jhM (yb false false a))),some (flag 61 (jhN (yb false false a) (hb||jV a))),[(decide (jO (yb false false a)≤843314857),true),(decide (kM (jc a) < -1686629713),false),(decide (kM (jc a)>1686629713),false)]):=by kernel_rfl
theorem jpI (a:Int) (hb:Bool):(jR Tryz.prog S36 Zl 2000 53 [A0,I a] [(0,flag 61 hb)] 1 [some false,some false,some false,none,none,none,none,none,none,none,some true]).map qn=some (I (mmV (ja0 true (jcn (yb false false a)))),some (flag 61 (ja1 (jcn (yb false false a)) (hb||jV a))),[(decide ((yb false false a)<0),true),(decide (jO (yb false false a)≤843314857),false),(decide (kM (jc a) < -1686629713),false),(decide (kM (jc a)>1686629713),false)]):=by kernel_rfl
theorem jpJ (a:Int) (hb:Bool):(jR Tryz.prog S36 Zl 2000 53 [A0,I a] [(0,flag 61 hb)] 1 [some false,some false,some false,none,none,none,none,none,none,none,some false]).map qn=some (I (mmV (ja0 false (jcn (yb false false a)))),some (flag 61 (ja1 (jcn (yb false false a)) (hb||jV a))),[(decide ((yb false false a)<0),false),(decide (jO (yb false false a)≤843314857),false),(decide (kM (jc a) < -1686629713),false),(decide (kM (jc a)>1686629713),false)]):=by kernel_rfl
def jk1 (w:Int):Int:=bif decide (jO w≤843314857) then mmV (jhM w) else mmV (ja0 (decide (w<0)) (jcn w))
def ja2 (w:Int) (h:Bool):Bool:=bif decide (jO w≤843314857) then jhN w h else ja1 (jcn w) h
def jeb (a:Int):Int:=jk1 (yb (decide (kM (jc a)>1686629713)) (decide (kM (jc a) < -1686629713)) a)
def jk2 (a:Int) (h:Bool):Bool:=ja2 (yb (decide (kM (jc a)>1686629713)) (decide (kM (jc a) < -1686629713)) a) (h||jV a)
def jxC:List LV→Bool→Option (LV×Bool×List (Bool×Bool))
 | [.v (.one (.int .i64 a))],hb=>some (I (jeb a),jk2 a hb,[])
 | _,_=>none
theorem jpK:SumOK Tryz.prog 53 (jv 61 jxC):=by
 refine jT (z:=Zl) sound36 (jg sound36 Tryz.func53 (by kernel_rfl)) fun args hb v h' cs hF hc=> ?_
 unfold jxC at hF
 split at hF
 ·rename_i a
  cases hF
  refine ⟨rfl, ?_⟩
  unfold jeb jk2
  have eT:∀b:Bool,yb true b a=yb true false a:=fun b=>rfl
  rcases ji (decide (kM (jc a)>1686629713)) with h1 | h1
  ·rw [h1,eT]
   rcases ji (decide (jO (yb true false a)≤843314857)) with h3 | h3
   ·unfold jk1 ja2;rw [jH h3,jH h3];exact ⟨2000,_,_,jxz a hb,ja h3 (ja h1 jd)⟩
   ·unfold jk1 ja2;rw [jB h3,jB h3]
    rcases ji (decide ((yb true false a)<0)) with h4 | h4
    ·rw [h4];exact ⟨2000,_,_,jpE a hb,ja h4 (ja h3 (ja h1 jd))⟩
    ·rw [h4];exact ⟨2000,_,_,jpF a hb,ja h4 (ja h3 (ja h1 jd))⟩
  ·rw [h1]
   rcases ji (decide (kM (jc a) < -1686629713)) with h2 | h2
   ·rw [h2]
    rcases ji (decide (jO (yb false true a)≤843314857)) with h3 | h3
    ·unfold jk1 ja2;rw [jH h3,jH h3];exact ⟨2000,_,_,jxA a hb,ja h3 (ja h2 (ja h1 jd))⟩
    ·unfold jk1 ja2;rw [jB h3,jB h3]
     rcases ji (decide ((yb false true a)<0)) with h4 | h4
     ·rw [h4];exact ⟨2000,_,_,jpG a hb,ja h4 (ja h3 (ja h2 (ja h1 jd)))⟩
     ·rw [h4];exact ⟨2000,_,_,jpH a hb,ja h4 (ja h3 (ja h2 (ja h1 jd)))⟩
   ·rw [h2]
    rcases ji (decide (jO (yb false false a)≤843314857)) with h3 | h3
    ·unfold jk1 ja2;rw [jH h3,jH h3];exact ⟨2000,_,_,jxB a hb,ja h3 (ja h2 (ja h1 jd))⟩
    ·unfold jk1 ja2;rw [jB h3,jB h3]
     rcases ji (decide ((yb false false a)<0)) with h4 | h4
     ·rw [h4];exact ⟨2000,_,_,jpI a hb,ja h4 (ja h3 (ja h2 (ja h1 jd)))⟩
     ·rw [h4];exact ⟨2000,_,_,jpJ a hb,ja h4 (ja h3 (ja h2 (ja h1 jd)))⟩
 ·cases hF
noncomputable def S38:FuncId→Option SumK:=more S36 53 (jv 61 jxC)
theorem sound38:Sound Tryz.prog S38:=sound36.more jpK
def ja3 (a:Int):Int:=jeb (wr IntKind.i64 (1686629713+kM a))
def jnd (a:Int) (h:Bool):Bool:=jk2 (wr IntKind.i64 (1686629713+kM a)) h
def jxD:List LV→Bool→Option (LV×Bool×List (Bool×Bool))
 | [.v (.one (.int .i64 a))],hb=>some (I (ja3 a),jnd a hb,[])
 | _,_=>none
theorem jpL (a:Int) (hb:Bool) (ty:TypeId) (ht:ty=61):(jR Tryz.prog S38 Zl 2000 54 [A0,I a] [(0,flag ty hb)] 1 []).map qn=some (I (ja3 a),some (flag ty (jnd a hb)),[]):=by subst ht;kernel_rfl
theorem jpM:SumOK Tryz.prog 54 (jv 61 jxD):=by
 refine jT (z:=Zl) sound38 (jg sound38 Tryz.func54 (by kernel_rfl)) fun args hb v h' cs hF hc=> ?_
 unfold jxD at hF
 split at hF
 ·rename_i a
  cases hF
  exact ⟨rfl,2000,_,_,jpL a hb _ rfl,jd⟩
 ·cases hF
noncomputable def S39:FuncId→Option SumK:=more S38 54 (jv 61 jxD)
theorem sound39:Sound Tryz.prog S39:=sound38.more jpM
end Go.Proofs.YtnlhpaidmiogbaaGreat

/- Quaternions in both answers: their runs, against what they compute. -/
namespace Go.Proofs.YtnlhpaidmiogbaaGreat
open Go.Lr
set_option linter.unusedVariables false
set_option linter.unusedSimpArgs false
def uE (x a0 a1 a2 a3:Int):Int:=kz (kz x (xk [a0,a1,a2,a3]) 30) (xk [kz a0 (xk [a0,a1,a2,a3]) 30,kz a1 (xk [a0,a1,a2,a3]) 30,kz a2 (xk [a0,a1,a2,a3]) 30,kz a3 (xk [a0,a1,a2,a3]) 30]) 30
def uM (a0 a1 a2 a3:Int):Int:=xk [kz a0 (xk [a0,a1,a2,a3]) 30,kz a1 (xk [a0,a1,a2,a3]) 30,kz a2 (xk [a0,a1,a2,a3]) 30,kz a3 (xk [a0,a1,a2,a3]) 30]
def uH (h:Bool) (a0 a1 a2 a3:Int):Bool:=h||jdc [a0,a1,a2,a3]||xT a0 (xk [a0,a1,a2,a3]) 30||xT a1 (xk [a0,a1,a2,a3]) 30||xT a2 (xk [a0,a1,a2,a3]) 30||xT a3 (xk [a0,a1,a2,a3]) 30||jdc [kz a0 (xk [a0,a1,a2,a3]) 30,kz a1 (xk [a0,a1,a2,a3]) 30,kz a2 (xk [a0,a1,a2,a3]) 30,kz a3 (xk [a0,a1,a2,a3]) 30]||xT (kz a0 (xk [a0,a1,a2,a3]) 30) (uM a0 a1 a2 a3) 30||xT (kz a1 (xk [a0,a1,a2,a3]) 30) (uM a0 a1 a2 a3) 30||xT (kz a2 (xk [a0,a1,a2,a3]) 30) (uM a0 a1 a2 a3) 30||xT (kz a3 (xk [a0,a1,a2,a3]) 30) (uM a0 a1 a2 a3) 30
def uZ (a0 a1 a2 a3:Int):Bool:=jc a0==0&&(jc a1==0&&(jc a2==0&&(jc a3==0&&true)))
def uS (h:Bool) (a0 a1 a2 a3:Int):Bool:=h||jV a0||jV a1||jV a2||jV a3
def ja4:List LV→Bool→Option (LV×Bool×List (Bool×Bool))
 | [.v (.agg [.int .i64 a0,.int .i64 a1,.int .i64 a2,.int .i64 a3])],hb=>some (.v (.agg [.int .i64 (bif uZ a0 a1 a2 a3 then 1073741824 else uE (jc a0) (jc a0) (jc a1) (jc a2) (jc a3)),.int .i64 (bif uZ a0 a1 a2 a3 then 0 else uE (jc a1) (jc a0) (jc a1) (jc a2) (jc a3)),.int .i64 (bif uZ a0 a1 a2 a3 then 0 else uE (jc a2) (jc a0) (jc a1) (jc a2) (jc a3)),.int .i64 (bif uZ a0 a1 a2 a3 then 0 else uE (jc a3) (jc a0) (jc a1) (jc a2) (jc a3))]),
  (bif uZ a0 a1 a2 a3 then uS hb a0 a1 a2 a3 else uH (uS hb a0 a1 a2 a3) (jc a0) (jc a1) (jc a2) (jc a3)),[])
 | _,_=>none
def jBW (a0 a1 a2 a3 b0 b1 b2 b3:Int):LV:= .v (.agg [.int .i64 (qP 30 [jc a0,jc a1,jc a2,jc a3] [jc b0,wr IntKind.i64 (0 - jc b1),wr IntKind.i64 (0 - jc b2),wr IntKind.i64 (0 - jc b3)]),.int .i64 (qP 30 [jc a0,jc a1,jc a2,jc a3] [jc b1,jc b0,jc b3,wr IntKind.i64 (0 - jc b2)]),.int .i64 (qP 30 [jc a0,jc a1,jc a2,jc a3] [jc b2,wr IntKind.i64 (0 - jc b3),jc b0,jc b1]),.int .i64 (qP 30 [jc a0,jc a1,jc a2,jc a3] [jc b3,jc b2,wr IntKind.i64 (0 - jc b1),jc b0])])
def jk3 (h:Bool) (a0 a1 a2 a3 b0 b1 b2 b3:Int):Bool:=h||jV a0||jV a1||jV a2||jV a3||jV b0||jV b1||jV b2||jV b3||yz 30 [jc a0,jc a1,jc a2,jc a3] [jc b0,wr IntKind.i64 (0 - jc b1),wr IntKind.i64 (0 - jc b2),wr IntKind.i64 (0 - jc b3)]||yz 30 [jc a0,jc a1,jc a2,jc a3] [jc b1,jc b0,jc b3,wr IntKind.i64 (0 - jc b2)]||yz 30 [jc a0,jc a1,jc a2,jc a3] [jc b2,wr IntKind.i64 (0 - jc b3),jc b0,jc b1]||yz 30 [jc a0,jc a1,jc a2,jc a3] [jc b3,jc b2,wr IntKind.i64 (0 - jc b1),jc b0]
def jpN:List LV→Bool→Option (LV×Bool×List (Bool×Bool))
 | [.v (.agg [.int .i64 a0,.int .i64 a1,.int .i64 a2,.int .i64 a3]),.v (.agg [.int .i64 b0,.int .i64 b1,.int .i64 b2,.int .i64 b3])],hb=>some (jBW a0 a1 a2 a3 b0 b1 b2 b3,jk3 hb a0 a1 a2 a3 b0 b1 b2 b3,[])
 | _,_=>none
theorem puZ (a0 a1 a2 a3:Int) (hb:Bool):(jR Tryz.prog S34 Zl 2000 85 [A0,.v (.agg [.int .i64 a0,.int .i64 a1,.int .i64 a2,.int .i64 a3])] [(0,flag 61 hb)] 1 [some true]).map qn=some (.v (.agg [.int .i64 1073741824,.int .i64 0,.int .i64 0,.int .i64 0]),some (flag 61 (uS hb a0 a1 a2 a3)),[(uZ a0 a1 a2 a3,true)]):=by kernel_rfl
theorem puN (a0 a1 a2 a3:Int) (hb:Bool):(jR Tryz.prog S34 Zl 2000 85 [A0,.v (.agg [.int .i64 a0,.int .i64 a1,.int .i64 a2,.int .i64 a3])] [(0,flag 61 hb)] 1 [some false,none,none,none,none,none,none,none,none,none,none,none,none,none,none,none]).map qn=some (.v (.agg [.int .i64 (uE (jc a0) (jc a0) (jc a1) (jc a2) (jc a3)),.int .i64 (uE (jc a1) (jc a0) (jc a1) (jc a2) (jc a3)),.int .i64 (uE (jc a2) (jc a0) (jc a1) (jc a2) (jc a3)),.int .i64 (uE (jc a3) (jc a0) (jc a1) (jc a2) (jc a3))]),some (flag 61 (uH (uS hb a0 a1 a2 a3) (jc a0) (jc a1) (jc a2) (jc a3))),[(uZ a0 a1 a2 a3,false)]):=by kernel_rfl
theorem sumpu:SumOK Tryz.prog 85 (jv 61 ja4):=by
 refine jT (z:=Zl) sound34 (jg sound34 Tryz.func85 (by kernel_rfl)) fun args hb v h' cs hF hc=> ?_
 unfold ja4 at hF
 split at hF
 ·rename_i a0 a1 a2 a3
  cases hF
  refine ⟨rfl, ?_⟩
  rcases ji (uZ a0 a1 a2 a3) with h | h
  ·rw [h];exact ⟨2000,_,_,puZ a0 a1 a2 a3 hb,ja h jd⟩
  ·rw [h];exact ⟨2000,_,_,puN a0 a1 a2 a3 hb,ja h jd⟩
 ·cases hF
theorem pmR (a0 a1 a2 a3 b0 b1 b2 b3:Int) (hb:Bool):(jR Tryz.prog S34 Zl 2000 150 [A0,.v (.agg [.int .i64 a0,.int .i64 a1,.int .i64 a2,.int .i64 a3]),.v (.agg [.int .i64 b0,.int .i64 b1,.int .i64 b2,.int .i64 b3])] [(0,flag 61 hb)] 1 []).map qn=some (jBW a0 a1 a2 a3 b0 b1 b2 b3,some (flag 61 (jk3 hb a0 a1 a2 a3 b0 b1 b2 b3)),[]):=by kernel_rfl
theorem sumpm:SumOK Tryz.prog 150 (jv 61 jpN):=by
 refine jT (z:=Zl) sound34 (jg sound34 Tryz.func150 (by kernel_rfl)) fun args hb v h' cs hF hc=> ?_
 unfold jpN at hF
 split at hF
 ·rename_i a0 a1 a2 a3 b0 b1 b2 b3
  cases hF
  exact ⟨rfl,2000,_,_,pmR a0 a1 a2 a3 b0 b1 b2 b3 hb,jd⟩
 ·cases hF
end Go.Proofs.YtnlhpaidmiogbaaGreat

/- Rotations' matrices in both answers: the Xl answer's Of, Apply, Back in the program's words. -/
namespace Go.Proofs.YtnlhpaidmiogbaaGreat
open Go.Lr
set_option linter.unusedVariables false
set_option linter.unusedSimpArgs false
def inS (a:Int):Prop:= -1152921504606846976≤a∧a≤1152921504606846976
end Go.Proofs.YtnlhpaidmiogbaaGreat

/- The Xl answer's matrix of a quaternion: its run (printed), in the program's words. -/
namespace Go.Proofs.YtnlhpaidmiogbaaGreat
open Go.Lr
set_option linter.unusedVariables false
set_option linter.unusedSimpArgs false
end Go.Proofs.YtnlhpaidmiogbaaGreat

/- Headings in both answers: their runs, against what they compute. -/
namespace Go.Proofs.YtnlhpaidmiogbaaGreat
open Go.Lr
set_option linter.unusedVariables false
set_option linter.unusedSimpArgs false
noncomputable def S42:FuncId→Option SumK:=more S39 85 (jv 61 ja4)
theorem sound42:Sound Tryz.prog S42:=sound39.more sumpu
def jhO (ty:TypeId) (r:Option (LV×Bool×List (Bool×Bool))):Option (LV×Option Blk×List (Bool×Bool)):=r.map fun q=>(q.1,some (flag ty q.2.1),q.2.2)
def fyS:List LV→Bool→Option (LV×Bool×List (Bool×Bool))
 | [.v (.one (.int .i64 a))],hb=>ja4 [.v (.agg [.int .i64 (ja3 (ko (kM a) 536870912 30)),.int .i64 0,.int .i64 0,.int .i64 (jeb (ko (kM a) 536870912 30))])] (jk2 (ko (kM a) 536870912 30) (jnd (ko (kM a) 536870912 30) (hb||Xn (kM a) 536870912 30)))
 | _,_=>none
theorem jDI (a:Int) (hb:Bool):(jR Tryz.prog S42 Zl 2000 39 [A0,I a] [(0,flag 61 hb)] 1 []).map qn=jhO 61 (fyS [I a] hb):=by kernel_rfl
end Go.Proofs.YtnlhpaidmiogbaaGreat

/- Exponentials in both answers: their runs, against what they compute. -/
namespace Go.Proofs.YtnlhpaidmiogbaaGreat
open Go.Lr
set_option linter.unusedVariables false
set_option linter.unusedSimpArgs false
def exN (v0 v1 v2:Int):Int:=xk [jc v0,jc v1,jc v2]
def jhP (h:Bool) (v0 v1 v2:Int):Bool:=h||jV v0||jV v1||jV v2||jdc [jc v0,jc v1,jc v2]
def exA (v0 v1 v2:Int):Int:=ko (exN v0 v1 v2) 536870912 30
def exS (v0 v1 v2:Int):Int:=kz (jeb (exA v0 v1 v2)) (exN v0 v1 v2) 30
def jBX (h:Bool) (v0 v1 v2:Int):Bool:=jnd (exA v0 v1 v2) (jk2 (exA v0 v1 v2) (jhP h v0 v1 v2||Xn (exN v0 v1 v2) 536870912 30)||xT (jeb (exA v0 v1 v2)) (exN v0 v1 v2) 30)||Xn (jc v0) (exS v0 v1 v2) 30||Xn (jc v1) (exS v0 v1 v2) 30||Xn (jc v2) (exS v0 v1 v2) 30
def exB (v0 v1 v2:Int) (hb:Bool):Option (LV×Bool×List (Bool×Bool)):=ja4 [.v (.agg [.int .i64 (ja3 (exA v0 v1 v2)),.int .i64 (ko (jc v0) (exS v0 v1 v2) 30),.int .i64 (ko (jc v1) (exS v0 v1 v2) 30),.int .i64 (ko (jc v2) (exS v0 v1 v2) 30)])] (jBX hb v0 v1 v2)
def jk4 (c:Bool×Bool) (r:Option (LV×Option Blk×List (Bool×Bool))):Option (LV×Option Blk×List (Bool×Bool)):=r.map fun q=>(q.1,q.2.1,c::q.2.2)
theorem jDJ (v0 v1 v2:Int) (hb:Bool):(jR Tryz.prog S42 Zl 2000 194 [A0,.v (.agg [.int .i64 v0,.int .i64 v1,.int .i64 v2])] [(0,flag 61 hb)] 1 [some true]).map qn=some (.v (.agg [.int .i64 1073741824,.int .i64 0,.int .i64 0,.int .i64 0]),some (flag 61 (jhP hb v0 v1 v2)),[(exN v0 v1 v2==0,true)]):=by kernel_rfl
theorem jDK (v0 v1 v2:Int) (hb:Bool):(jR Tryz.prog S42 Zl 2000 194 [A0,.v (.agg [.int .i64 v0,.int .i64 v1,.int .i64 v2])] [(0,flag 61 hb)] 1 [some false]).map qn=jk4 (exN v0 v1 v2==0,false) (jhO 61 (exB v0 v1 v2 hb)):=by kernel_rfl
end Go.Proofs.YtnlhpaidmiogbaaGreat

/- Headings and exponentials in both answers: their summaries; turning vectors. -/
namespace Go.Proofs.YtnlhpaidmiogbaaGreat
open Go.Lr
set_option linter.unusedVariables false
set_option linter.unusedSimpArgs false
theorem QJ {a0 a1 a2 a3:Int} {hb:Bool}:∃v h,ja4 [.v (.agg [.int .i64 a0,.int .i64 a1,.int .i64 a2,.int .i64 a3])] hb=some (v,h,[])∧v.ok noP=true:=⟨_,_,rfl,rfl⟩
theorem Kg {ty:TypeId} {r:Option (LV×Bool×List (Bool×Bool))} {v:LV} {h:Bool} {cs:List (Bool×Bool)} (e:r=some (v,h,cs)):jhO ty r=some (v,some (flag ty h),cs):=by subst e;rfl
theorem sumPfy:SumOK Tryz.prog 39 (jv 61 fyS):=by
 refine jT (z:=Zl) sound42 (jg sound42 Tryz.func39 (by kernel_rfl)) fun args hb v h' cs hF hc=> ?_
 have hF0:=hF
 unfold fyS at hF
 split at hF
 ·rename_i a
  obtain ⟨v1,h1,e,ok⟩:=QJ (a0:=ja3 (ko (kM a) 536870912 30)) (a1:=0) (a2:=0) (a3:=jeb (ko (kM a) 536870912 30)) (hb:=jk2 (ko (kM a) 536870912 30) (jnd (ko (kM a) 536870912 30) (hb||Xn (kM a) 536870912 30)))
  have hF1:=hF
  rw [e] at hF1
  cases hF1
  exact ⟨ok,2000,[],_,(jDI a hb).trans (Kg hF0),jd⟩
 ·cases hF
end Go.Proofs.YtnlhpaidmiogbaaGreat

/- Exponentials in both answers: their summaries; the Xl answer's turning of vectors. -/
namespace Go.Proofs.YtnlhpaidmiogbaaGreat
open Go.Lr
set_option linter.unusedVariables false
set_option linter.unusedSimpArgs false
def jvk:List LV→Bool→Option (LV×Bool×List (Bool×Bool))
 | [.v (.agg [.int .i64 v0,.int .i64 v1,.int .i64 v2])],hb=>bif exN v0 v1 v2==0 then some (.v (.agg [.int .i64 1073741824,.int .i64 0,.int .i64 0,.int .i64 0]),jhP hb v0 v1 v2,[]) else exB v0 v1 v2 hb
 | _,_=>none
theorem jkS (v0 v1 v2:Int) (hb:Bool):∃v h,exB v0 v1 v2 hb=some (v,h,[])∧v.ok noP=true:=QJ
theorem jkT:SumOK Tryz.prog 194 (jv 61 jvk):=by
 refine jT (z:=Zl) sound42 (jg sound42 Tryz.func194 (by kernel_rfl)) fun args hb v h' cs hF hc=> ?_
 unfold jvk at hF
 split at hF
 ·rename_i v0 v1 v2
  rcases ji (exN v0 v1 v2==0) with h | h
  ·rw [jH h] at hF
   cases hF
   exact ⟨rfl,2000,_,_,jDJ v0 v1 v2 hb,ja h jd⟩
  ·rw [jB h] at hF
   obtain ⟨v1',h1,e,ok⟩:=jkS v0 v1 v2 hb
   have hF1:=hF
   rw [e] at hF1
   cases hF1
   have hr:=jDK v0 v1 v2 hb
   rw [Kg hF] at hr
   exact ⟨ok,2000,_,_,hr,ja h jd⟩
 ·cases hF
end Go.Proofs.YtnlhpaidmiogbaaGreat

/- Tilts in both answers: the plain facts. -/
namespace Go.Proofs.YtnlhpaidmiogbaaGreat
open Go.Lr
set_option linter.unusedVariables false
set_option linter.unusedSimpArgs false
theorem sqN (a:Int):0≤a*a:=by
 have h:0≤a∨a≤0:=by omega
 rcases h with h | h
 ·exact Int.mul_nonneg h h
 ·exact Int.mul_nonneg_of_nonpos_of_nonpos h h
theorem jhG (a:Int):jh a*jh a=a*a:=by rw [←YH,yG (sqN a)]
theorem jDE (x y z:Int):sqS (List.take 64 [x,y,z])=jc x*jc x+(jc y*jc y+jc z*jc z):=by
 show jc x*jc x+(jc y*jc y+(jc z*jc z+0))=_
 omega
theorem sqb {s:Int} (h0: -1152921504606846976≤s) (h1:s≤1152921504606846976):0≤s*s∧s*s≤1329227995784915872903807060280344576:=by
 refine ⟨sqN s, ?_⟩
 have:=yH (a:=s) (b:=s) (k:=1152921504606846976) (l:=1152921504606846976) (by unfold jh;split <;> omega) (by unfold jh;split <;> omega)
 omega
theorem xK {s N:Int} (h1:s*s≤N) (hN:N<340282366920938463463374607431768211456):s≤kp N∧ -s≤kp N:=by
 have h0:=sqN s
 constructor
 ·refine jeN (by omega) hN ?_
  by_cases h:s≤0
  ·exact .inl h
  ·exact .inr (by omega)
 ·refine jeN (by omega) hN ?_
  by_cases h: -s≤0
  ·exact .inl h
  ·right
   have e: -s * -s=s*s:=by grind
   omega
theorem Yz (v0 v1 v2:Int):(jc v0≤exN v0 v1 v2∧ -jc v0≤exN v0 v1 v2)∧(jc v1≤exN v0 v1 v2∧ -jc v1≤exN v0 v1 v2)∧(jc v2≤exN v0 v1 v2∧ -jc v2≤exN v0 v1 v2)∧0≤exN v0 v1 v2∧exN v0 v1 v2≤1152921504606846976:=by
 unfold exN xk
 rw [jDE,jaX,jaX,jaX]
 have b0:=yT v0
 have b1:=yT v1
 have b2:=yT v2
 generalize jc v0=a at *
 generalize jc v1=b at *
 generalize jc v2=c at *
 have q0:=sqb b0.1 b0.2
 have q1:=sqb b1.1 b1.2
 have q2:=sqb b2.1 b2.2
 have hN:a*a+(b*b+c*c)<340282366920938463463374607431768211456:=by omega
 have s0:=xK (s:=a) (N:=a*a+(b*b+c*c)) (by omega) hN
 have s1:=xK (s:=b) (N:=a*a+(b*b+c*c)) (by omega) hN
 have s2:=xK (s:=c) (N:=a*a+(b*b+c*c)) (by omega) hN
 generalize kp (a*a+(b*b+c*c))=r at *
 have hr:=yT r
 have:jc r=r∨1152921504606846976≤jc r:=by
  unfold jc jw at *
  clear hr
  (repeat' split) <;> omega
 omega
theorem jcm {v0 v1 v2:Int} (h0:jc v0=0) (h1:jc v1=0) (h2:jc v2=0):exN v0 v1 v2=0∧jdc [jc v0,jc v1,jc v2]=false:=by
 unfold exN
 rw [h0,h1,h2]
 exact ⟨by kernel_rfl,by kernel_rfl⟩
def tlZ (v0 v1 v2:Int):Bool:=jc v0==0&&(jc v1==0&&(jc v2==0&&true))
theorem jph (v0 v1 v2:Int):tlZ v0 v1 v2=(exN v0 v1 v2==0):=by
 have hs:=Yz v0 v1 v2
 unfold tlZ
 by_cases h:exN v0 v1 v2=0
 ·have e0:jc v0=0:=by omega
  have e1:jc v1=0:=by omega
  have e2:jc v2=0:=by omega
  rw [e0,e1,e2,h]
  rfl
 ·have e:(exN v0 v1 v2==0)=false:=by simpa using h
  rw [e]
  by_cases e0:jc v0=0
  ·by_cases e1:jc v1=0
   ·by_cases e2:jc v2=0
    ·exact absurd (jcm e0 e1 e2).1 h
    ·simp [e2]
   ·simp [e1]
  ·simp [e0]
theorem jDF {v0 v1 v2:Int} (h:(exN v0 v1 v2==0)=true) (hb:Bool):jhP hb v0 v1 v2=(hb||jV v0||jV v1||jV v2):=by
 have hs:=Yz v0 v1 v2
 have h:exN v0 v1 v2=0:=by simpa using h
 unfold jhP
 rw [(jcm (v0:=v0) (v1:=v1) (v2:=v2) (by omega) (by omega) (by omega)).2,Bool.or_false]
theorem Kh {v u:Int} (h0:v≤u) (h1: -v≤u) (h2:1≤u) (h3:u≤1152921504606846976):
  (-u≤2*(kz v u 30*u - v*1073741824)∧2*(kz v u 30*u - v*1073741824)≤u)∧(-1073741824≤kz v u 30∧kz v u 30≤1073741824)∧xT v u 30=false:=by
 have key:∀w:Int,0≤w→w≤u→ -u≤2*(xU (w*1073741824) u*u - w*1073741824)∧2*(xU (w*1073741824) u*u - w*1073741824)≤u:=by
  intro w w0 w1
  rw [jeM (a:=w*1073741824) (b:=u) (by omega) (by omega)]
  exact jeL (by omega) (by omega)
 have odd:∀w:Int,xU (-w) u = -xU w u:=by
  intro w
  unfold xU
  rw [jbe]
  have hu:decide (u<0)=false:=by simp;omega
  rw [hu]
  by_cases g0:w=0
  ·subst g0
   have:jcA (jh 0) (jh u)=0:=by
    rw [show jh 0=0 from rfl]
    exact jfo (by unfold jh;split <;> omega)
   rw [this];rfl
  ·by_cases g1:w<0
   ·have e1:decide (w<0)=true:=by simpa using g1
    have e2:decide (-w<0)=false:=by simp;omega
    rw [e1,e2];unfold sgn;simp
   ·have e1:decide (w<0)=false:=by simp;omega
    have e2:decide (-w<0)=true:=by simp;omega
    rw [e1,e2];unfold sgn;simp
 have hd: -u≤2*(xU (v*1073741824) u*u - v*1073741824)∧2*(xU (v*1073741824) u*u - v*1073741824)≤u:=by
  by_cases h:0≤v
  ·exact key v h h0
  ·have k:=key (-v) (by omega) h1
   rw [show -v*1073741824 = -(v*1073741824) by omega,odd,Int.neg_mul] at k
   omega
 have e:jj (Int.toNat 30)=1073741824:=rfl
 have hb: -1073741824≤xU (v*1073741824) u∧xU (v*1073741824) u≤1073741824:=by
  generalize xU (v*1073741824) u=t at *
  constructor
  ·rcases Int.lt_or_le t (-1073741824) with h | h
   ·exfalso
    have:t*u≤ -1073741825*u:=Int.mul_le_mul_of_nonneg_right (by omega) (by omega)
    omega
   ·exact h
  ·rcases Int.lt_or_le 1073741824 t with h | h
   ·exfalso
    have:1073741825*u≤t*u:=Int.mul_le_mul_of_nonneg_right (by omega) (by omega)
    omega
   ·exact h
 have hs: -1152921504606846976≤v∧v≤1152921504606846976:=by omega
 have ev:kz v u 30=xU (v*1073741824) u:=by
  unfold kz byV
  rw [if_neg (by decide),if_neg (by decide),e,jL (a:=v) hs.1 hs.2,jL (a:=u) (by omega) h3,if_neg (by omega),jL (by omega) (by omega)]
 refine ⟨by rw [ev];exact hd,by rw [ev];exact hb, ?_⟩
 unfold xT byH
 rw [e,jL (a:=v) hs.1 hs.2,jL (a:=u) (by omega) h3,xm (a:=v) hs.1 hs.2,xm (a:=u) (by omega) h3,xm (a:=xU (v*1073741824) u) (by omega) (by omega)]
 have:(u==0)=false:=by simp;omega
 rw [this];rfl
theorem jkU {u:Int} (h0: -1073741824≤u) (h1:u≤1073741824):xW 1073741824 u=wr .i64 (1073741824 - u)∧jha 1073741824 u=false:=by
 unfold xW jha
 rw [jL (a:=u) (by omega) (by omega),jL (a:=1073741824) (by omega) (by omega),xm (a:=u) (by omega) (by omega),xm (a:=1073741824) (by omega) (by omega),xm (a:=1073741824 - u) (by omega) (by omega),jL (a:=1073741824 - u) (by omega) (by omega),jlc,xu (by omega) (by omega)]
 exact ⟨rfl,rfl⟩
def uV0 (a0 a1 a2 a3:Int):Int:=bif uZ a0 a1 a2 a3 then 1073741824 else uE (jc a0) (jc a0) (jc a1) (jc a2) (jc a3)
def uV1 (a0 a1 a2 a3:Int):Int:=bif uZ a0 a1 a2 a3 then 0 else uE (jc a1) (jc a0) (jc a1) (jc a2) (jc a3)
def uV2 (a0 a1 a2 a3:Int):Int:=bif uZ a0 a1 a2 a3 then 0 else uE (jc a2) (jc a0) (jc a1) (jc a2) (jc a3)
def uV3 (a0 a1 a2 a3:Int):Int:=bif uZ a0 a1 a2 a3 then 0 else uE (jc a3) (jc a0) (jc a1) (jc a2) (jc a3)
def uFl (h:Bool) (a0 a1 a2 a3:Int):Bool:=bif uZ a0 a1 a2 a3 then uS h a0 a1 a2 a3 else uH (uS h a0 a1 a2 a3) (jc a0) (jc a1) (jc a2) (jc a3)
def tU (v v0 v1 v2:Int):Int:=kz (jc v) (exN v0 v1 v2) 30
theorem jpi {v0 v1 v2:Int} (h:(exN v0 v1 v2==0)=false):xW 1073741824 (tU v2 v0 v1 v2)=wr .i64 (1073741824 - tU v2 v0 v1 v2)∧jha 1073741824 (tU v2 v0 v1 v2)=false:=by
 have h:exN v0 v1 v2≠0:=by simpa using h
 have hs:=Yz v0 v1 v2
 unfold tU
 have:=(Kh (v:=jc v2) (u:=exN v0 v1 v2) (by omega) (by omega) (by omega) (by omega)).2.1
 exact jkU this.1 this.2
end Go.Proofs.YtnlhpaidmiogbaaGreat

/- Tilts in both answers: their runs, their summaries. -/
namespace Go.Proofs.YtnlhpaidmiogbaaGreat
open Go.Lr
set_option linter.unusedVariables false
set_option linter.unusedSimpArgs false
def tlH (h:Bool) (v0 v1 v2:Int):Bool:=jhP h v0 v1 v2||xT (jc v0) (exN v0 v1 v2) 30||xT (jc v1) (exN v0 v1 v2) 30||xT (jc v2) (exN v0 v1 v2) 30
def tlB (w v0 v1 v2:Int) (h:Bool):Option (LV×Bool×List (Bool×Bool)):=ja4 [.v (.agg [.int .i64 w,.int .i64 (wr IntKind.i64 (0 - tU v1 v0 v1 v2)),.int .i64 (tU v0 v0 v1 v2),.int .i64 0])] h
def jhH:List LV→Bool→Option (LV×Bool×List (Bool×Bool))
 | [.v (.agg [.int .i64 v0,.int .i64 v1,.int .i64 v2])],hb=>bif exN v0 v1 v2==0 then some (.v (.agg [.int .i64 1073741824,.int .i64 0,.int .i64 0,.int .i64 0]),jhP hb v0 v1 v2,[]) else
  bif decide (wr IntKind.i64 (1073741824 - tU v2 v0 v1 v2)≤16) then some (.v (.agg [.int .i64 0,.int .i64 1073741824,.int .i64 0,.int .i64 0]),tlH hb v0 v1 v2,[]) else tlB (wr IntKind.i64 (1073741824 - tU v2 v0 v1 v2)) v0 v1 v2 (tlH hb v0 v1 v2)
 | _,_=>none
theorem jkV (w v0 v1 v2:Int) (hb:Bool):∃v h,tlB w v0 v1 v2 hb=some (v,h,[])∧v.ok noP=true:=QJ
def jxy (c d:Bool×Bool) (r:Option (LV×Option Blk×List (Bool×Bool))):Option (LV×Option Blk×List (Bool×Bool)):=r.map fun q=>(q.1,q.2.1,d::c::q.2.2)
theorem ptZ (v0 v1 v2:Int) (hb:Bool):(jR Tryz.prog S42 Zl 2000 155 [A0,.v (.agg [.int .i64 v0,.int .i64 v1,.int .i64 v2])] [(0,flag 61 hb)] 1 [some true]).map qn=some (.v (.agg [.int .i64 1073741824,.int .i64 0,.int .i64 0,.int .i64 0]),some (flag 61 (hb||jV v0||jV v1||jV v2)),[(tlZ v0 v1 v2,true)]):=by kernel_rfl
theorem ptL (v0 v1 v2:Int) (hb:Bool):(jR Tryz.prog S42 Zl 2000 155 [A0,.v (.agg [.int .i64 v0,.int .i64 v1,.int .i64 v2])] [(0,flag 61 hb)] 1 [some false,none,none,none,none,some true]).map qn=some (.v (.agg [.int .i64 0,.int .i64 1073741824,.int .i64 0,.int .i64 0]),some (flag 61 (tlH hb v0 v1 v2||jha 1073741824 (tU v2 v0 v1 v2))),[(decide (xW 1073741824 (tU v2 v0 v1 v2)≤16),true),(tlZ v0 v1 v2,false)]):=by kernel_rfl
theorem ptN (v0 v1 v2:Int) (hb:Bool):(jR Tryz.prog S42 Zl 2000 155 [A0,.v (.agg [.int .i64 v0,.int .i64 v1,.int .i64 v2])] [(0,flag 61 hb)] 1 [some false,none,none,none,none,some false]).map qn=jxy (tlZ v0 v1 v2,false) (decide (xW 1073741824 (tU v2 v0 v1 v2)≤16),false) (jhO 61 (tlB (xW 1073741824 (tU v2 v0 v1 v2)) v0 v1 v2 (tlH hb v0 v1 v2||jha 1073741824 (tU v2 v0 v1 v2)))):=by kernel_rfl
theorem jhI:SumOK Tryz.prog 155 (jv 61 jhH):=by
 refine jT (z:=Zl) sound42 (jg sound42 Tryz.func155 (by kernel_rfl)) fun args hb v h' cs hF hc=> ?_
 unfold jhH at hF
 split at hF
 ·rename_i v0 v1 v2
  have hz:=jph v0 v1 v2
  rcases ji (exN v0 v1 v2==0) with h | h
  ·rw [jH h] at hF
   cases hF
   have hr:=ptZ v0 v1 v2 hb
   rw [←jDF h] at hr
   exact ⟨rfl,2000,_,_,hr,ja (hz.trans h) jd⟩
  ·rw [jB h] at hF
   obtain ⟨es,eh⟩:=jpi h
   rcases ji (decide (wr IntKind.i64 (1073741824 - tU v2 v0 v1 v2)≤16)) with g | g
   ·rw [jH g] at hF
    cases hF
    have hr:=ptL v0 v1 v2 hb
    rw [es,eh,Bool.or_false] at hr
    exact ⟨rfl,2000,_,_,hr,ja g (ja (hz.trans h) jd)⟩
   ·rw [jB g] at hF
    obtain ⟨v1',h1,e,ok⟩:=jkV (wr IntKind.i64 (1073741824 - tU v2 v0 v1 v2)) v0 v1 v2 (tlH hb v0 v1 v2)
    have hF1:=hF
    rw [e] at hF1
    cases hF1
    have hr:=ptN v0 v1 v2 hb
    rw [es,eh,Bool.or_false,Kg hF] at hr
    exact ⟨ok,2000,_,_,hr,ja g (ja (hz.trans h) jd)⟩
 ·cases hF
end Go.Proofs.YtnlhpaidmiogbaaGreat

/- Turned vectors in both answers; every function of rotations summed up. -/
namespace Go.Proofs.YtnlhpaidmiogbaaGreat
open Go.Lr
set_option linter.unusedVariables false
set_option linter.unusedSimpArgs false
def apS:List LV→Bool→Option (LV×Bool×List (Bool×Bool))
 | [.v (.agg [.int .i64 m0,.int .i64 m1,.int .i64 m2,.int .i64 m3,.int .i64 m4,.int .i64 m5,.int .i64 m6,.int .i64 m7,.int .i64 m8]),.v (.agg [.int .i64 v0,.int .i64 v1,.int .i64 v2])],hb=>some (.v (.agg [.int .i64 (qP 30 [m0,m1,m2] [v0,v1,v2]),.int .i64 (qP 30 [m3,m4,m5] [v0,v1,v2]),.int .i64 (qP 30 [m6,m7,m8] [v0,v1,v2])]),(hb||yz 30 [m0,m1,m2] [v0,v1,v2]||yz 30 [m3,m4,m5] [v0,v1,v2]||yz 30 [m6,m7,m8] [v0,v1,v2]),[])
 | _,_=>none
theorem jDG (m0 m1 m2 m3 m4 m5 m6 m7 m8 v0 v1 v2:Int) (hb:Bool):(jR Tryz.prog S42 Zl 2000 40 [A0,.v (.agg [.int .i64 m0,.int .i64 m1,.int .i64 m2,.int .i64 m3,.int .i64 m4,.int .i64 m5,.int .i64 m6,.int .i64 m7,.int .i64 m8]),.v (.agg [.int .i64 v0,.int .i64 v1,.int .i64 v2])] [(0,flag 61 hb)] 1 []).map qn=some (.v (.agg [.int .i64 (qP 30 [m0,m1,m2] [v0,v1,v2]),.int .i64 (qP 30 [m3,m4,m5] [v0,v1,v2]),.int .i64 (qP 30 [m6,m7,m8] [v0,v1,v2])]),some (flag 61 (hb||yz 30 [m0,m1,m2] [v0,v1,v2]||yz 30 [m3,m4,m5] [v0,v1,v2]||yz 30 [m6,m7,m8] [v0,v1,v2])),[]):=by kernel_rfl
theorem jpj:SumOK Tryz.prog 40 (jv 61 apS):=by
 refine jT (z:=Zl) sound42 (jg sound42 Tryz.func40 (by kernel_rfl)) fun args hb v h' cs hF hc=> ?_
 unfold apS at hF
 split at hF
 ·cases hF
  exact ⟨rfl,2000,[],_,jDG _ _ _ _ _ _ _ _ _ _ _ _ hb,jd⟩
 ·cases hF
def bkS:List LV→Bool→Option (LV×Bool×List (Bool×Bool))
 | [.v (.agg [.int .i64 m0,.int .i64 m1,.int .i64 m2,.int .i64 m3,.int .i64 m4,.int .i64 m5,.int .i64 m6,.int .i64 m7,.int .i64 m8]),.v (.agg [.int .i64 v0,.int .i64 v1,.int .i64 v2])],hb=>some (.v (.agg [.int .i64 (qP 30 [m0,m3,m6] [v0,v1,v2]),.int .i64 (qP 30 [m1,m4,m7] [v0,v1,v2]),.int .i64 (qP 30 [m2,m5,m8] [v0,v1,v2])]),(hb||yz 30 [m0,m3,m6] [v0,v1,v2]||yz 30 [m1,m4,m7] [v0,v1,v2]||yz 30 [m2,m5,m8] [v0,v1,v2]),[])
 | _,_=>none
theorem jDH (m0 m1 m2 m3 m4 m5 m6 m7 m8 v0 v1 v2:Int) (hb:Bool):(jR Tryz.prog S42 Zl 2000 37 [A0,.v (.agg [.int .i64 m0,.int .i64 m1,.int .i64 m2,.int .i64 m3,.int .i64 m4,.int .i64 m5,.int .i64 m6,.int .i64 m7,.int .i64 m8]),.v (.agg [.int .i64 v0,.int .i64 v1,.int .i64 v2])] [(0,flag 61 hb)] 1 []).map qn=some (.v (.agg [.int .i64 (qP 30 [m0,m3,m6] [v0,v1,v2]),.int .i64 (qP 30 [m1,m4,m7] [v0,v1,v2]),.int .i64 (qP 30 [m2,m5,m8] [v0,v1,v2])]),some (flag 61 (hb||yz 30 [m0,m3,m6] [v0,v1,v2]||yz 30 [m1,m4,m7] [v0,v1,v2]||yz 30 [m2,m5,m8] [v0,v1,v2])),[]):=by kernel_rfl
theorem jpk:SumOK Tryz.prog 37 (jv 61 bkS):=by
 refine jT (z:=Zl) sound42 (jg sound42 Tryz.func37 (by kernel_rfl)) fun args hb v h' cs hF hc=> ?_
 unfold bkS at hF
 split at hF
 ·cases hF
  exact ⟨rfl,2000,[],_,jDH _ _ _ _ _ _ _ _ _ _ _ _ hb,jd⟩
 ·cases hF
def eV0 (v0 v1 v2:Int):Int:=bif exN v0 v1 v2==0 then 1073741824 else uV0 (ja3 (exA v0 v1 v2)) (ko (jc v0) (exS v0 v1 v2) 30) (ko (jc v1) (exS v0 v1 v2) 30) (ko (jc v2) (exS v0 v1 v2) 30)
def eV1 (v0 v1 v2:Int):Int:=bif exN v0 v1 v2==0 then 0 else uV1 (ja3 (exA v0 v1 v2)) (ko (jc v0) (exS v0 v1 v2) 30) (ko (jc v1) (exS v0 v1 v2) 30) (ko (jc v2) (exS v0 v1 v2) 30)
def eV2 (v0 v1 v2:Int):Int:=bif exN v0 v1 v2==0 then 0 else uV2 (ja3 (exA v0 v1 v2)) (ko (jc v0) (exS v0 v1 v2) 30) (ko (jc v1) (exS v0 v1 v2) 30) (ko (jc v2) (exS v0 v1 v2) 30)
def eV3 (v0 v1 v2:Int):Int:=bif exN v0 v1 v2==0 then 0 else uV3 (ja3 (exA v0 v1 v2)) (ko (jc v0) (exS v0 v1 v2) 30) (ko (jc v1) (exS v0 v1 v2) 30) (ko (jc v2) (exS v0 v1 v2) 30)
def eFl (h:Bool) (v0 v1 v2:Int):Bool:=bif exN v0 v1 v2==0 then jhP h v0 v1 v2 else uFl (jBX h v0 v1 v2) (ja3 (exA v0 v1 v2)) (ko (jc v0) (exS v0 v1 v2) 30) (ko (jc v1) (exS v0 v1 v2) 30) (ko (jc v2) (exS v0 v1 v2) 30)
def tV0 (v0 v1 v2:Int):Int:=bif exN v0 v1 v2==0 then 1073741824 else bif decide (wr IntKind.i64 (1073741824 - tU v2 v0 v1 v2)≤16) then 0 else uV0 (wr IntKind.i64 (1073741824 - tU v2 v0 v1 v2)) (wr IntKind.i64 (0 - tU v1 v0 v1 v2)) (tU v0 v0 v1 v2) 0
def tV1 (v0 v1 v2:Int):Int:=bif exN v0 v1 v2==0 then 0 else bif decide (wr IntKind.i64 (1073741824 - tU v2 v0 v1 v2)≤16) then 1073741824 else uV1 (wr IntKind.i64 (1073741824 - tU v2 v0 v1 v2)) (wr IntKind.i64 (0 - tU v1 v0 v1 v2)) (tU v0 v0 v1 v2) 0
def tV2 (v0 v1 v2:Int):Int:=bif exN v0 v1 v2==0 then 0 else bif decide (wr IntKind.i64 (1073741824 - tU v2 v0 v1 v2)≤16) then 0 else uV2 (wr IntKind.i64 (1073741824 - tU v2 v0 v1 v2)) (wr IntKind.i64 (0 - tU v1 v0 v1 v2)) (tU v0 v0 v1 v2) 0
def tV3 (v0 v1 v2:Int):Int:=bif exN v0 v1 v2==0 then 0 else bif decide (wr IntKind.i64 (1073741824 - tU v2 v0 v1 v2)≤16) then 0 else uV3 (wr IntKind.i64 (1073741824 - tU v2 v0 v1 v2)) (wr IntKind.i64 (0 - tU v1 v0 v1 v2)) (tU v0 v0 v1 v2) 0
def tFl (h:Bool) (v0 v1 v2:Int):Bool:=bif exN v0 v1 v2==0 then jhP h v0 v1 v2 else bif decide (wr IntKind.i64 (1073741824 - tU v2 v0 v1 v2)≤16) then tlH h v0 v1 v2 else uFl (tlH h v0 v1 v2) (wr IntKind.i64 (1073741824 - tU v2 v0 v1 v2)) (wr IntKind.i64 (0 - tU v1 v0 v1 v2)) (tU v0 v0 v1 v2) 0
def jpl:List LV→Bool→Option (LV×Bool×List (Bool×Bool))
 | [.v (.agg [.int .i64 v0,.int .i64 v1,.int .i64 v2])],hb=>some (.v (.agg [.int .i64 (eV0 v0 v1 v2),.int .i64 (eV1 v0 v1 v2),.int .i64 (eV2 v0 v1 v2),.int .i64 (eV3 v0 v1 v2)]),eFl hb v0 v1 v2,[])
 | _,_=>none
theorem jkW (v0 v1 v2:Int) (hb:Bool):jvk [.v (.agg [.int .i64 v0,.int .i64 v1,.int .i64 v2])] hb=jpl [.v (.agg [.int .i64 v0,.int .i64 v1,.int .i64 v2])] hb:=by
 unfold jvk jpl eV0 eV1 eV2 eV3 eFl
 rcases ji (exN v0 v1 v2==0) with h | h
 ·simp only [h,cond_true]
 ·simp only [h,cond_false];rfl
theorem jhJ:SumOK Tryz.prog 194 (jv 61 jpl):=by
 refine (jkT).acc_re fun args hb v h' cs hF _=> ?_
 have hF0:=hF
 unfold jpl at hF
 split at hF
 ·cases hF
  exact ⟨[],(jkW _ _ _ hb).trans hF0,jd⟩
 ·cases hF
def je2:List LV→Bool→Option (LV×Bool×List (Bool×Bool))
 | [.v (.agg [.int .i64 v0,.int .i64 v1,.int .i64 v2])],hb=>some (.v (.agg [.int .i64 (tV0 v0 v1 v2),.int .i64 (tV1 v0 v1 v2),.int .i64 (tV2 v0 v1 v2),.int .i64 (tV3 v0 v1 v2)]),tFl hb v0 v1 v2,[])
 | _,_=>none
theorem jhK (v0 v1 v2:Int) (hb:Bool):jhH [.v (.agg [.int .i64 v0,.int .i64 v1,.int .i64 v2])] hb=je2 [.v (.agg [.int .i64 v0,.int .i64 v1,.int .i64 v2])] hb:=by
 unfold jhH je2 tV0 tV1 tV2 tV3 tFl
 rcases ji (exN v0 v1 v2==0) with h | h
 ·simp only [h,cond_true]
 ·rcases ji (decide (wr IntKind.i64 (1073741824 - tU v2 v0 v1 v2)≤16)) with g | g
  ·simp only [h,g,cond_true,cond_false]
  ·simp only [h,g,cond_false];rfl
theorem je3:SumOK Tryz.prog 155 (jv 61 je2):=by
 refine (jhI).acc_re fun args hb v h' cs hF _=> ?_
 have hF0:=hF
 unfold je2 at hF
 split at hF
 ·cases hF
  exact ⟨[],(jhK _ _ _ hb).trans hF0,jd⟩
 ·cases hF
noncomputable def S43:FuncId→Option SumK:=more (more (more (more (more S42 39 (jv 61 fyS)) 194 (jv 61 jpl)) 155 (jv 61 je2)) 40 (jv 61 apS)) 37 (jv 61 bkS)
theorem jkX:Sound Tryz.prog S43:=((((sound42.more sumPfy).more jhJ).more je3).more jpj).more jpk
end Go.Proofs.YtnlhpaidmiogbaaGreat

/- The awake of chapter 7's law folder: its run; all summaries for its laws. -/
namespace Go.Proofs.YtnlhpaidmiogbaaGreat
open Go.Lr
set_option linter.unusedVariables false
set_option linter.unusedSimpArgs false
noncomputable def S44:FuncId→Option SumK:=S43
theorem sound44:Sound Tryz.prog S44:=jkX
end Go.Proofs.YtnlhpaidmiogbaaGreat

/- Units: plain bounds of what Unit makes. -/
namespace Go.Proofs.YtnlhpaidmiogbaaGreat
open Go.Lr
set_option linter.unusedVariables false
set_option linter.unusedSimpArgs false
theorem jCa (x y z w:Int):sqS (List.take 64 [x,y,z,w])=jc x*jc x+(jc y*jc y+(jc z*jc z+jc w*jc w)):=by
 show jc x*jc x+(jc y*jc y+(jc z*jc z+(jc w*jc w+0)))=_
 omega
def n4 (a b c d:Int):Int:=a*a+(b*b+(c*c+d*d))
theorem jEy {a b c d:Int} (ha:inS a) (hb:inS b) (hc:inS c) (hd:inS d) (h:1≤n4 a b c d):
  (1≤xk [a,b,c,d]∧xk [a,b,c,d]≤1152921504606846976)∧(a≤xk [a,b,c,d]∧ -a≤xk [a,b,c,d])∧(b≤xk [a,b,c,d]∧ -b≤xk [a,b,c,d])∧(c≤xk [a,b,c,d]∧ -c≤xk [a,b,c,d])∧(d≤xk [a,b,c,d]∧ -d≤xk [a,b,c,d])∧
  xk [a,b,c,d]*xk [a,b,c,d] - xk [a,b,c,d]+1≤n4 a b c d∧(n4 a b c d≤1329227995784915872903807060280344576→n4 a b c d≤xk [a,b,c,d]*xk [a,b,c,d]+xk [a,b,c,d]∧jdc [a,b,c,d]=false):=by
 have eH:jdc [a,b,c,d]=jV (kp (n4 a b c d)):=by
  unfold jdc
  rw [jCa,jL ha.1 ha.2,jL hb.1 hb.2,jL hc.1 hc.2,jL hd.1 hd.2]
  show ((jV a||(jV b||(jV c||(jV d||false))))||_)=_
  rw [xm ha.1 ha.2,xm hb.1 hb.2,xm hc.1 hc.2,xm hd.1 hd.2]
  rfl
 have eV:xk [a,b,c,d]=jc (kp (n4 a b c d)):=by
  unfold xk
  rw [jCa,jL ha.1 ha.2,jL hb.1 hb.2,jL hc.1 hc.2,jL hd.1 hd.2]
  rfl
 rw [eV,eH]
 have q0:=sqb ha.1 ha.2
 have q1:=sqb hb.1 hb.2
 have q2:=sqb hc.1 hc.2
 have q3:=sqb hd.1 hd.2
 have hN:n4 a b c d<340282366920938463463374607431768211456:=by unfold n4;omega
 have s0:=xK (s:=a) (N:=n4 a b c d) (by unfold n4;omega) hN
 have s1:=xK (s:=b) (N:=n4 a b c d) (by unfold n4;omega) hN
 have s2:=xK (s:=c) (N:=n4 a b c d) (by unfold n4;omega) hN
 have s3:=xK (s:=d) (N:=n4 a b c d) (by unfold n4;omega) hN
 obtain ⟨r0,r1,r2⟩:=Kk (N:=n4 a b c d) (by omega) hN
 generalize kp (n4 a b c d)=r at *
 generalize n4 a b c d=N at *
 unfold inS at ha hb hc hd
 have hr1:1≤r:=by
  rcases Int.lt_or_le r 1 with h' | h'
  ·have:r=0:=by omega
   subst this
   omega
  ·exact h'
 have r2':r*r - r+1≤N:=by
  rcases r2 with h' | h'
  ·omega
  ·exact h'
 by_cases hle:r≤1152921504606846976
 ·rw [jL (by omega) hle,xm (by omega) hle]
  exact ⟨by omega,by omega,by omega,by omega,by omega,by omega,fun _=>⟨by omega,rfl⟩⟩
 ·have hs:jc r=1152921504606846976:=by
   unfold jc jw
   (repeat' split) <;> omega
  have hrr:1152921504606846977*1152921504606846976≤r*(r - 1):=Int.mul_le_mul (by omega) (by omega) (by omega) (by omega)
  have e:r*(r - 1)=r*r - r:=by grind
  rw [hs]
  exact ⟨by omega,by omega,by omega,by omega,by omega,by omega,fun h=>absurd h (by omega)⟩
theorem cs4 {a b c d m:Int} (hm:0≤m) (h:n4 a b c d≤m*m+m):jh a+jh b+jh c+jh d≤2*m:=by
 unfold n4 at h
 rw [←jhG a,←jhG b,←jhG c,←jhG d] at h
 have a0:=qC a
 have b0:=qC b
 have c0:=qC c
 have d0:=qC d
 generalize jh a=x at *
 generalize jh b=y at *
 generalize jh c=z at *
 generalize jh d=w at *
 rcases Int.lt_or_le (2*m) (x+y+z+w) with hl | hl
 ·exfalso
  have q:(2*m+1)*(2*m+1)≤(x+y+z+w)*(x+y+z+w):=Int.mul_le_mul (by omega) (by omega) (by omega) (by omega)
  have e1:(2*m+1)*(2*m+1)=4*(m*m)+4*m+1:=by grind
  have q1:=sqN (x - y)
  have q2:=sqN (x - z)
  have q3:=sqN (x - w)
  have q4:=sqN (y - z)
  have q5:=sqN (y - w)
  have q6:=sqN (z - w)
  have e2:(x+y+z+w)*(x+y+z+w)=4*(x*x+(y*y+(z*z+w*w))) - (x - y)*(x - y) - (x - z)*(x - z) - (x - w)*(x - w) - (y - z)*(y - z) - (y - w)*(y - w) - (z - w)*(z - w):=by grind
  omega
 ·exact hl
theorem Zf {u t m:Int} (e0: -m≤2*(u*m - t*1073741824)) (e1:2*(u*m - t*1073741824)≤m):
  -(4294967296*(jh t*m))≤4*(u*u*(m*m)) - 4611686018427387904*(t*t)∧4*(u*u*(m*m)) - 4611686018427387904*(t*t)≤4294967296*(jh t*m)+m*m:=by
 have p:=yH (a:=t) (b:=2*(u*m - t*1073741824)) (k:=jh t) (l:=m) (Int.le_refl _) (by unfold jh;split <;> omega)
 have q:=yH (a:=2*(u*m - t*1073741824)) (b:=2*(u*m - t*1073741824)) (k:=m) (l:=m) (by unfold jh;split <;> omega) (by unfold jh;split <;> omega)
 have q0:=sqN (2*(u*m - t*1073741824))
 have g1:t*(2*(u*m - t*1073741824))=2*(t*u*m) - 2147483648*(t*t):=by grind
 have g2:2*(u*m - t*1073741824)*(2*(u*m - t*1073741824))=4*(u*u*(m*m)) - 8589934592*(t*u*m)+4611686018427387904*(t*t):=by grind
 omega
def nearU (N:Int):Prop:= -7516192768≤2*(N - 1152921504606846976)∧2*(N - 1152921504606846976)≤7516192768
theorem jzd {a b c d m:Int} (hm:3221225472≤4*m) (hm1:m≤1152921504606846976) (ha:a≤m∧ -a≤m) (hb:b≤m∧ -b≤m) (hc:c≤m∧ -c≤m) (hd:d≤m∧ -d≤m) (hN:m*m - m+1≤n4 a b c d) (hN1:n4 a b c d≤m*m+m):
  nearU (n4 (kz a m 30) (kz b m 30) (kz c m 30) (kz d m 30)):=by
 have hn:1≤m:=by omega
 have a1:=Zf (Kh ha.1 ha.2 hn hm1).1.1 (Kh ha.1 ha.2 hn hm1).1.2
 have b1:=Zf (Kh hb.1 hb.2 hn hm1).1.1 (Kh hb.1 hb.2 hn hm1).1.2
 have c1:=Zf (Kh hc.1 hc.2 hn hm1).1.1 (Kh hc.1 hc.2 hn hm1).1.2
 have d1:=Zf (Kh hd.1 hd.2 hn hm1).1.1 (Kh hd.1 hd.2 hn hm1).1.2
 have cs:=cs4 (by omega) hN1
 generalize kz a m 30=a' at *
 generalize kz b m 30=b' at *
 generalize kz c m 30=c' at *
 generalize kz d m 30=d' at *
 have hp:0<m*m:=Int.mul_pos (by omega) (by omega)
 have hs:(jh a+jh b+jh c+jh d)*m≤2*m*m:=Int.mul_le_mul_of_nonneg_right cs (by omega)
 have es:(jh a+jh b+jh c+jh d)*m=jh a*m+jh b*m+jh c*m+jh d*m:=by grind
 have e2:2*m*m=2*(m*m):=by grind
 have h4:3221225472*m≤4*m*m:=Int.mul_le_mul_of_nonneg_right hm (by omega)
 have e4:4*m*m=4*(m*m):=by grind
 unfold nearU
 unfold n4 at *
 have e:(a'*a'+(b'*b'+(c'*c'+d'*d')))*(m*m)=a'*a'*(m*m)+(b'*b'*(m*m)+(c'*c'*(m*m)+d'*d'*(m*m))):=by grind
 generalize a'*a'+(b'*b'+(c'*c'+d'*d'))=U at *
 constructor
 ·refine Int.le_of_mul_le_mul_right (a:=m*m) ?_ hp
  have e5:2*(U - 1152921504606846976)*(m*m)=2*(U*(m*m)) - 2305843009213693952*(m*m):=by grind
  rw [e5]
  omega
 ·refine Int.le_of_mul_le_mul_right (a:=m*m) ?_ hp
  have e5:2*(U - 1152921504606846976)*(m*m)=2*(U*(m*m)) - 2305843009213693952*(m*m):=by grind
  rw [e5]
  omega
end Go.Proofs.YtnlhpaidmiogbaaGreat

/- Units: what Unit makes of any numbers is near a Unit; again it is near itself. -/
namespace Go.Proofs.YtnlhpaidmiogbaaGreat
open Go.Lr
set_option linter.unusedVariables false
set_option linter.unusedSimpArgs false
structure UnitQ (a b c d:Int):Prop where
 ha: -1073741824≤a∧a≤1073741824
 hb: -1073741824≤b∧b≤1073741824
 hc: -1073741824≤c∧c≤1073741824
 hd: -1073741824≤d∧d≤1073741824
 hn:nearU (n4 a b c d)
theorem jc1 {a:Int} (h: -1073741824≤a∧a≤1073741824):inS a:=by unfold inS;omega
theorem jl5 {m N:Int} (h0:0≤m) (h1:N≤m*m+m) (h2:3458764496640671744≤4*N):3221225472≤4*m:=by
 rcases Int.lt_or_le (4*m) 3221225472 with h | h
 ·exfalso
  have:m*m≤805306367*805306367:=Int.mul_le_mul (by omega) (by omega) (by omega) (by omega)
  omega
 ·exact h
theorem jze {a b c d:Int} (ha: -1073741824≤a∧a≤1073741824) (hb: -1073741824≤b∧b≤1073741824) (hc: -1073741824≤c∧c≤1073741824) (hd: -1073741824≤d∧d≤1073741824):n4 a b c d≤4611686018427387904:=by
 have sq:∀x:Int,-1073741824≤x∧x≤1073741824→x*x≤1152921504606846976:=by
  intro x hx
  exact (yH (a:=x) (b:=x) (k:=1073741824) (l:=1073741824) (by unfold jh;split <;> omega) (by unfold jh;split <;> omega)).2
 have p0:=sq a ha
 have p1:=sq b hb
 have p2:=sq c hc
 have p3:=sq d hd
 unfold n4
 omega
theorem Xl {a b c d:Int} (ha: -1073741824≤a∧a≤1073741824) (hb: -1073741824≤b∧b≤1073741824) (hc: -1073741824≤c∧c≤1073741824) (hd: -1073741824≤d∧d≤1073741824) (h:3458764496640671744≤4*n4 a b c d):
  UnitQ (kz a (xk [a,b,c,d]) 30) (kz b (xk [a,b,c,d]) 30) (kz c (xk [a,b,c,d]) 30) (kz d (xk [a,b,c,d]) 30):=by
 obtain ⟨m0,mA,mB,mC,mD,m1,m2⟩:=jEy (jc1 ha) (jc1 hb) (jc1 hc) (jc1 hd) (by omega)
 have le:=jze ha hb hc hd
 obtain ⟨m3,-⟩:=m2 (by omega)
 have big:=jl5 (by omega) m3 h
 exact ⟨(Kh mA.1 mA.2 m0.1 m0.2).2.1,(Kh mB.1 mB.2 m0.1 m0.2).2.1,(Kh mC.1 mC.2 m0.1 m0.2).2.1,(Kh mD.1 mD.2 m0.1 m0.2).2.1,jzd big m0.2 mA mB mC mD m1 m3⟩
end Go.Proofs.YtnlhpaidmiogbaaGreat

/- Products of Units: plain bounds. -/
namespace Go.Proofs.YtnlhpaidmiogbaaGreat
open Go.Lr
set_option linter.unusedVariables false
set_option linter.unusedSimpArgs false
def q0 (a0 a1 a2 a3 b0 b1 b2 b3:Int):Int:=a0*b0 - a1*b1 - a2*b2 - a3*b3
def q1 (a0 a1 a2 a3 b0 b1 b2 b3:Int):Int:=a0*b1+a1*b0+a2*b3 - a3*b2
def q2 (a0 a1 a2 a3 b0 b1 b2 b3:Int):Int:=a0*b2 - a1*b3+a2*b0+a3*b1
def q3 (a0 a1 a2 a3 b0 b1 b2 b3:Int):Int:=a0*b3+a1*b2 - a2*b1+a3*b0
def sm (x:Int):Prop:= -8589934592≤x∧x≤8589934592
def one (x:Int):Prop:= -1073741824≤x∧x≤1073741824
theorem one.sm {x:Int} (h:one x):sm x:=by unfold one Go.Proofs.YtnlhpaidmiogbaaGreat.sm at *;omega
theorem sm.inS {x:Int} (h:sm x):Go.Proofs.YtnlhpaidmiogbaaGreat.inS x:=by unfold sm Go.Proofs.YtnlhpaidmiogbaaGreat.inS at *;omega
theorem sm.neg {x:Int} (h:sm x):sm (-x):=by unfold sm at *;omega
theorem one.neg {x:Int} (h:one x):one (-x):=by unfold one at *;omega
theorem sm.mul {x y:Int} (h:sm x) (g:sm y): -73786976294838206464≤x*y∧x*y≤73786976294838206464:=by
 unfold sm at *
 exact yH (a:=x) (b:=y) (k:=8589934592) (l:=8589934592) (by unfold jh;split <;> omega) (by unfold jh;split <;> omega)
theorem one.mul {x y:Int} (h:one x) (g:one y): -1152921504606846976≤x*y∧x*y≤1152921504606846976:=by
 unfold one at *
 exact yH (a:=x) (b:=y) (k:=1073741824) (l:=1073741824) (by unfold jh;split <;> omega) (by unfold jh;split <;> omega)
def mq0 (a0 a1 a2 a3 b0 b1 b2 b3:Int):Int:=qP 30 [jc a0,jc a1,jc a2,jc a3] [jc b0,wr IntKind.i64 (0 - jc b1),wr IntKind.i64 (0 - jc b2),wr IntKind.i64 (0 - jc b3)]
def mq1 (a0 a1 a2 a3 b0 b1 b2 b3:Int):Int:=qP 30 [jc a0,jc a1,jc a2,jc a3] [jc b1,jc b0,jc b3,wr IntKind.i64 (0 - jc b2)]
def mq2 (a0 a1 a2 a3 b0 b1 b2 b3:Int):Int:=qP 30 [jc a0,jc a1,jc a2,jc a3] [jc b2,wr IntKind.i64 (0 - jc b3),jc b0,jc b1]
def mq3 (a0 a1 a2 a3 b0 b1 b2 b3:Int):Int:=qP 30 [jc a0,jc a1,jc a2,jc a3] [jc b3,jc b2,wr IntKind.i64 (0 - jc b1),jc b0]
theorem sm.sat {x:Int} (h:sm x):jc x=x∧jV x=false:=⟨jL h.inS.1 h.inS.2,xm h.inS.1 h.inS.2⟩
end Go.Proofs.YtnlhpaidmiogbaaGreat

/- Near of both answers' Units: its summary; the laws of chapter 6 see Units and products by name. -/
namespace Go.Proofs.YtnlhpaidmiogbaaGreat
open Go.Lr
set_option linter.unusedVariables false
set_option linter.unusedSimpArgs false
def nk (a:Int):Int:=wr IntKind.i64 ((wr IntKind.i64 (a*a)).tdiv 4)
def nj (a:Int):Int:=(wr IntKind.i64 (a*a)).tmod 4
def nh1 (a0:Int):Int:=wr IntKind.i64 (0+nk a0)
def nh2 (a0 a1:Int):Int:=wr IntKind.i64 (nh1 a0+nk a1)
def nh3 (a0 a1 a2:Int):Int:=wr IntKind.i64 (nh2 a0 a1+nk a2)
def nh4 (a0 a1 a2 a3:Int):Int:=wr IntKind.i64 (nh3 a0 a1 a2+nk a3)
def nr4 (a0 a1 a2 a3:Int):Int:=wr IntKind.i64 (wr IntKind.i64 (wr IntKind.i64 (wr IntKind.i64 (0+nj a0)+nj a1)+nj a2)+nj a3)
def nd (a0 a1 a2 a3:Int):Int:=wr IntKind.i64 (wr IntKind.i64 (4*wr IntKind.i64 (nh4 a0 a1 a2 a3 - 288230376151711744))+nr4 a0 a1 a2 a3)
def jl6:List LV→Bool→Option (LV×Bool×List (Bool×Bool))
 | [.v (.agg [.int .i64 a0,.int .i64 a1,.int .i64 a2,.int .i64 a3])],hb=>some (.v (.agg [.int .i64 (uV0 a0 a1 a2 a3),.int .i64 (uV1 a0 a1 a2 a3),.int .i64 (uV2 a0 a1 a2 a3),.int .i64 (uV3 a0 a1 a2 a3)]),uFl hb a0 a1 a2 a3,[])
 | _,_=>none
theorem jiG:SumOK Tryz.prog 85 (jv 61 jl6):=by
 refine sumpu.acc_re fun args hb v h' cs hF _=> ?_
 unfold jl6 at hF
 split at hF
 ·cases hF;exact ⟨[],rfl,jd⟩
 ·cases hF
def jzf:List LV→Bool→Option (LV×Bool×List (Bool×Bool))
 | [.v (.agg [.int .i64 a0,.int .i64 a1,.int .i64 a2,.int .i64 a3]),.v (.agg [.int .i64 b0,.int .i64 b1,.int .i64 b2,.int .i64 b3])],hb=>some (.v (.agg [.int .i64 (mq0 a0 a1 a2 a3 b0 b1 b2 b3),.int .i64 (mq1 a0 a1 a2 a3 b0 b1 b2 b3),.int .i64 (mq2 a0 a1 a2 a3 b0 b1 b2 b3),.int .i64 (mq3 a0 a1 a2 a3 b0 b1 b2 b3)]),jk3 hb a0 a1 a2 a3 b0 b1 b2 b3,[])
 | _,_=>none
theorem jl7:SumOK Tryz.prog 150 (jv 61 jzf):=by
 refine sumpm.acc_re fun args hb v h' cs hF _=> ?_
 unfold jzf at hF
 split at hF
 ·cases hF;exact ⟨[],rfl,jd⟩
 ·cases hF
end Go.Proofs.YtnlhpaidmiogbaaGreat

/- All summaries for the laws of chapter 7 about Units. -/
namespace Go.Proofs.YtnlhpaidmiogbaaGreat
open Go.Lr
noncomputable def S46:FuncId→Option SumK:=more (more S44 85 (jv 61 jl6)) 150 (jv 61 jzf)
theorem sound46:Sound Tryz.prog S46:=(sound44.more jiG).more jl7
end Go.Proofs.YtnlhpaidmiogbaaGreat

/- The matrices of Units: their entries. -/
namespace Go.Proofs.YtnlhpaidmiogbaaGreat
open Go.Lr
set_option linter.unusedVariables false
set_option linter.unusedSimpArgs false
def rm0 (s0 s1 s2 s3:Int):Int:=s1V 1 1 (-1) (-1) s0 s1 s2 s3
def rm1 (s0 s1 s2 s3:Int):Int:=t1V s1 s2 (wr IntKind.i64 (0 - s0)) s3
def rm2 (s0 s1 s2 s3:Int):Int:=t1V s1 s3 s0 s2
def rm3 (s0 s1 s2 s3:Int):Int:=t1V s1 s2 s0 s3
def rm4 (s0 s1 s2 s3:Int):Int:=s1V 1 (-1) 1 (-1) s0 s1 s2 s3
def rm5 (s0 s1 s2 s3:Int):Int:=t1V s2 s3 (wr IntKind.i64 (0 - s0)) s1
def rm6 (s0 s1 s2 s3:Int):Int:=t1V s1 s3 (wr IntKind.i64 (0 - s0)) s2
def rm7 (s0 s1 s2 s3:Int):Int:=t1V s2 s3 s0 s1
def rm8 (s0 s1 s2 s3:Int):Int:=s1V 1 (-1) (-1) 1 s0 s1 s2 s3
def rmF (h:Bool) (s0 s1 s2 s3:Int):Bool:=h||s1H 1 1 (-1) (-1) s0 s1 s2 s3||t1H s1 s2 (wr IntKind.i64 (0 - s0)) s3||t1H s1 s3 s0 s2||t1H s1 s2 s0 s3||s1H 1 (-1) 1 (-1) s0 s1 s2 s3||t1H s2 s3 (wr IntKind.i64 (0 - s0)) s1||t1H s1 s3 (wr IntKind.i64 (0 - s0)) s2||t1H s2 s3 s0 s1||s1H 1 (-1) (-1) 1 s0 s1 s2 s3
end Go.Proofs.YtnlhpaidmiogbaaGreat

/- All summaries for the laws about levels: headings of the Xl answer by name. -/
namespace Go.Proofs.YtnlhpaidmiogbaaGreat
open Go.Lr
set_option linter.unusedVariables false
def fyA (a:Int):Int:=ko (kM a) 536870912 30
def fy0 (a:Int):Int:=uV0 (ja3 (fyA a)) 0 0 (jeb (fyA a))
def fy1 (a:Int):Int:=uV1 (ja3 (fyA a)) 0 0 (jeb (fyA a))
def fy2 (a:Int):Int:=uV2 (ja3 (fyA a)) 0 0 (jeb (fyA a))
def fy3 (a:Int):Int:=uV3 (ja3 (fyA a)) 0 0 (jeb (fyA a))
def jDT (hb:Bool) (a:Int):Bool:=uFl (jk2 (fyA a) (jnd (fyA a) (hb||Xn (kM a) 536870912 30))) (ja3 (fyA a)) 0 0 (jeb (fyA a))
def fyN:List LV→Bool→Option (LV×Bool×List (Bool×Bool))
 | [.v (.one (.int .i64 a))],hb=>some (.v (.agg [.int .i64 (fy0 a),.int .i64 (fy1 a),.int .i64 (fy2 a),.int .i64 (fy3 a)]),jDT hb a,[])
 | _,_=>none
theorem jlo:SumOK Tryz.prog 39 (jv 61 fyN):=by
 refine sumPfy.acc_re fun args hb v h' cs hF _=> ?_
 unfold fyN at hF
 split at hF
 ·cases hF;exact ⟨[],rfl,jd⟩
 ·cases hF
def ofN:List LV→Bool→Option (LV×Bool×List (Bool×Bool))
 | [.v (.agg [.int .i64 a0,.int .i64 a1,.int .i64 a2,.int .i64 a3])],hb=>some (.v (.agg [.int .i64 (rm0 (jc a0) (jc a1) (jc a2) (jc a3)),.int .i64 (rm1 (jc a0) (jc a1) (jc a2) (jc a3)),.int .i64 (rm2 (jc a0) (jc a1) (jc a2) (jc a3)),.int .i64 (rm3 (jc a0) (jc a1) (jc a2) (jc a3)),.int .i64 (rm4 (jc a0) (jc a1) (jc a2) (jc a3)),.int .i64 (rm5 (jc a0) (jc a1) (jc a2) (jc a3)),.int .i64 (rm6 (jc a0) (jc a1) (jc a2) (jc a3)),.int .i64 (rm7 (jc a0) (jc a1) (jc a2) (jc a3)),.int .i64 (rm8 (jc a0) (jc a1) (jc a2) (jc a3))]),rmF (hb||jV a0||jV a1||jV a2||jV a3) (jc a0) (jc a1) (jc a2) (jc a3),[])
 | _,_=>none
theorem jqk:SumOK Tryz.prog 38 (jv 61 ofN):=by
 refine sumrof.acc_re fun args hb v h' cs hF _=> ?_
 unfold ofN at hF
 split at hF
 ·cases hF;exact ⟨[],rfl,jd⟩
 ·cases hF
noncomputable def S47:FuncId→Option SumK:=more (more S46 38 (jv 61 ofN)) 39 (jv 61 fyN)
theorem sound47:Sound Tryz.prog S47:=(sound46.more jqk).more jlo
end Go.Proofs.YtnlhpaidmiogbaaGreat

/- The local evaluator: summaries of methods on a flag, made by running them; the flag may lie anywhere. -/
set_option linter.unusedVariables false
namespace Go.Lr
open Go.RowKit
def Jd (P:Program) (S:FuncId→Option SumK) (z:Md) (n:Nat) (f:FuncId) (ty:TypeId):List LV→Bool→Option (LV×Bool×List (Bool×Bool)):=fun rest h=>
 match jR P S z n f (.v (.one (.ptr 0 0))::rest) [(0,flag ty h)] 1 [] with
 | some (v,m',_,cs)=>match getM m' 0,v.ok noP with
  | some ⟨t,(0,0),0,[.bool h']⟩,true=>match Nat.beq t ty with
   | true=>some (v,h',cs)
   | false=>none
  | _,_=>none
 | none=>none
section
variable {P:Program} {S:FuncId→Option SumK} {z:Md}
theorem kU (hs:Sound P S) {n:Nat} {f:FuncId} {ty:TypeId} (ho:Own P f):SumOK P f (jv ty (Jd P S z n f ty)):=by
 refine JZ fun args hb v h' cs hF hc hp w L hL=> ?_
 unfold Jd at hF
 split at hF
 ·rename_i v' m' nb' cs' hrun
  split at hF
  ·rename_i t hh hm hv
   split at hF
   ·rename_i ht
    cases hF
    rw [xi] at ht
    have ht':t=ty:=of_decide_eq_true ht
    subst ht'
    exact qb ho (X6 hs hrun hm hc hp hv w L hL)
   ·cases hF
  ·cases hF
 ·cases hF
end
end Go.Lr

/- A summary less: the function is walked into again. -/
namespace Go.Lr
def ZF (S:FuncId→Option SumK) (f:FuncId):FuncId→Option SumK:=fun g=>
 match Nat.beq g f with
 | true=>none
 | false=>S g
theorem Sound.drop {P:Program} {S:FuncId→Option SumK} (h:Sound P S) (f:FuncId):Sound P (ZF S f):=by
 refine ⟨fun g t hg=> ?_,h.mix,h.ng⟩
 unfold ZF at hg
 split at hg
 ·cases hg
 ·exact h.sums g t hg
def nn:Nat→List (Option Bool)→List (Option Bool)
 | 0,l=>l
 | n+1,l=>none::nn n l
def tt:Nat→List (Option Bool)→List (Option Bool)
 | 0,l=>l
 | n+1,l=>some true::tt n l
def ff:Nat→List (Option Bool)→List (Option Bool)
 | 0,l=>l
 | n+1,l=>some false::ff n l
def ra:Nat→Bool×Bool→List (Bool×Bool)→List (Bool×Bool)
 | 0,_,l=>l
 | n+1,c,l=>c::ra n c l
theorem jC {c:Bool×Bool} {l:List (Bool×Bool)} (h:c.1=c.2) (hl:∀d∈l,d.1=d.2):∀(n:Nat),∀d∈ra n c l,d.1=d.2
 | 0=>hl
 | n+1=>by
  intro d hd
  simp only [ra,List.mem_cons] at hd
  rcases hd with rfl | hd
  ·exact h
  ·exact jC h hl n d hd
end Go.Lr

/- Loops over blocks of numbers whose values do not matter: what stays is that they are numbers. -/
set_option linter.unusedVariables false
namespace Go.Lr
open Go.RowKit
structure AllI (l:List At) (n:Nat):Prop where
 len:l.length=n
 ats:∀o,o<n→isIntAt .i64 l o=true
theorem isIntAt_iff {l:List At} {o:Nat}:isIntAt .i64 l o=true↔∃x,l[o]? = some (.int .i64 x):=by
 unfold isIntAt
 rw [KX]
 constructor
 ·intro h
  split at h
  ·rename_i k' n hn
   have:=Jx h
   subst this
   exact ⟨n,hn⟩
  ·cases h
 ·rintro ⟨x,h⟩
  rw [h];rfl
theorem AllI.set {l:List At} {n:Nat} (h:AllI l n) (o:Nat) (x:Int):AllI (l.set o (.int .i64 x)) n:=by
 refine ⟨by rw [List.length_set];exact h.len,fun q hq=> ?_⟩
 rw [isIntAt_iff,List.getElem?_set]
 by_cases e:o=q
 ·subst e
  rw [if_pos rfl,if_pos (by rw [h.len];exact hq)]
  exact ⟨x,rfl⟩
 ·rw [if_neg e]
  exact isIntAt_iff.1 (h.ats q hq)
theorem AllI.isI {l:List At} {n:Nat} (h:AllI l n):qJ l=true:=by
 refine List.all_eq_true.2 fun a ha=> ?_
 obtain ⟨o,ho,rfl⟩:=List.getElem_of_mem ha
 obtain ⟨x,hx⟩:=isIntAt_iff.1 (h.ats o (by rw [←h.len];exact ho))
 rw [List.getElem?_eq_getElem ho] at hx
 rw [Option.some.inj hx];rfl
theorem jfc {l:List At} (h:qJ l=true):okL noP l=true:=by
 refine okL_iff.2 fun a ha=> ?_
 have:=List.all_eq_true.1 h a ha
 unfold jiw at this
 split at this
 ·rfl
 ·cases this
theorem AllI.ok {l:List At} {n:Nat} (h:AllI l n):okL noP l=true:=jfc h.isI
theorem AllI.okb {l:List At} {n:Nat} (h:AllI l n) (nb:Nat):okL (below nb) l=true:=jn jm h.ok
theorem jdi {l m:List At} (h:qJ l=true) (hm:∀a∈m,a∈l):qJ m=true:=List.all_eq_true.2 fun a ha=>List.all_eq_true.1 h a (hm a ha)
theorem AllI.part {l:List At} {n:Nat} (h:AllI l n) (o m:Nat):qJ ((l.drop o).take m)=true:=
 jdi h.isI fun a ha=>List.mem_of_mem_drop (List.mem_of_mem_take ha)
theorem AllI.areI {l:List At} {n:Nat} (h:AllI l n):∀(m o:Nat),o+m≤n→qT l o m=true
 | 0,_,_=>rfl
 | m+1,o,hle=>by
  simp only [qT,Bool.and_eq_true]
  exact ⟨h.ats o (by omega),h.areI m (o+1) (by omega)⟩
theorem XO (l:List At):∀(n o:Nat),(jq l o n).length=n
 | 0,_=>rfl
 | n+1,o=>by simp [jq,XO l n]
theorem XP (l:List At):∀(n o:Nat),qJ (jq l o n)=true
 | 0,_=>rfl
 | n+1,o=>by show (true&&qJ (jq l (o+1) n))=true;rw [XP l n];rfl
theorem AllI.of {l:List At} {n:Nat} (h1:qJ l=true) (h2:l.length=n):AllI l n:=by
 refine ⟨h2,fun o ho=> ?_⟩
 have hlt:o<l.length:=by omega
 rw [isIntAt_iff,List.getElem?_eq_getElem hlt]
 have:=List.all_eq_true.1 h1 l[o] (List.getElem_mem hlt)
 generalize l[o]=a at this
 unfold jiw at this
 split at this
 ·exact ⟨_,rfl⟩
 ·cases this
theorem AllI.ints (l:List At) (o n:Nat):AllI (jq l o n) n:= .of (XP l n o) (XO l n o)
theorem AllI.eq {l:List At} {n:Nat} (h:AllI l n):l=jq l 0 n:=by
 have key:∀(m o:Nat),o+m=n→l.drop o=jq l o m:=by
  intro m
  induction m with
  | zero=>intro o ho;simp only [jq];rw [List.drop_of_length_le (by rw [h.len];omega)]
  | succ m ih=>
   intro o ho
   simp only [jq]
   obtain ⟨x,hx⟩:=isIntAt_iff.1 (h.ats o (by omega))
   have hlt:o<l.length:=by rw [h.len];omega
   rw [List.drop_eq_getElem_cons hlt,ih (o+1) (by omega)]
   congr 1
   rw [List.getElem?_eq_getElem hlt] at hx
   rw [Option.some.inj hx]
   unfold jo
   rw [KX,List.getElem?_eq_getElem hlt,Option.some.inj hx]
 have:=key n 0 (by omega)
 rwa [List.drop_zero] at this
def qM:List At→Nat→Bool
 | [],0=>true
 | .int .i64 _::l,n+1=>qM l n
 | _,_=>false
theorem j6:∀{l:List At} {n:Nat},qM l n=true→AllI l n
 | [],0,_=>⟨rfl,fun o ho=>by omega⟩
 | [],n+1,h=>by simp [qM] at h
 | a::l,n,h=>by
  unfold qM at h
  split at h
  ·rename_i e;cases e
  ·rename_i x l' n' e
   cases e
   have:=j6 h
   exact .of (by show (true&&qJ l)=true;rw [this.isI];rfl) (by simp [this.len])
  ·cases h
def mkI (f:Nat→Int):Nat→Nat→List At
 | _,0=>[]
 | o,n+1=> .int .i64 (f o)::mkI f (o+1) n
theorem kl (l:List At):∀(n o:Nat),mkI (jo l) o n=jq l o n
 | 0,_=>rfl
 | n+1,o=>by simp only [mkI,jq,kl l n]
theorem AllI.mkF (f:Nat→Int):∀(n o:Nat),AllI (mkI f o n) n
 | 0,o=>⟨rfl,fun q hq=>by omega⟩
 | n+1,o=> .of (by show (true&&qJ (mkI f (o+1) n))=true;rw [(AllI.mkF f n (o+1)).isI];rfl) (by simp [mkI,(AllI.mkF f n (o+1)).len])
section
variable {P:Program} {sz:Nat}
theorem KR.same {E:Env} {A B:Kst} {a:Act} {w:World} (h:KR E sz A a w) (hB:KstOK B) (hl:∀q∈B.live,∃v,(q.1,v)∈A.live∧∀E:Env,v.den E=q.2.den E) (hm:B.mem=A.mem):KR E sz B a w:=by
 refine ⟨hB,h.size,h.le,h.defers,fun q hq=> ?_,by rw [hm];exact h.rel⟩
 obtain ⟨v,hv,he⟩:=hl q hq
 rw [h.tm _ hv,he E]
theorem To.pre {c:Code} {A B C:Kst} {e:Ex} (h:To P sz c B e C) (hB:KstOK B) (hl:∀q∈B.live,∃v,(q.1,v)∈A.live∧∀E:Env,v.den E=q.2.den E) (hm:B.mem=A.mem) (hn:B.nb=A.nb):To P sz c A e C:=by
 intro E a w hr Q hQ
 have e1:A.ms=B.ms:=by unfold Kst.ms;rw [hm,hn]
 exact h E a w (hr.same hB hl hm) Q fun E' a' w' hr' hx'=>hQ E' a' w' hr' (by rw [e1];exact hx')
theorem To.post {c:Code} {A B C:Kst} {e:Ex} (h:To P sz c A e B) (hC:KstOK C) (hl:∀q∈C.live,∃v,(q.1,v)∈B.live∧∀E:Env,v.den E=q.2.den E) (hm:C.mem=B.mem) (hn:C.nb=B.nb):To P sz c A e C:=by
 intro E a w hr Q hQ
 have e1:C.ms=B.ms:=by unfold Kst.ms;rw [hm,hn]
 exact h E a w hr Q fun E' a' w' hr' hx'=>hQ E' a' w' (hr'.same hC hl hm) (by rw [e1];exact hx')
theorem jfd {σ:Type} {c:Code} {id:Nat} {A:Nat→σ→Kst} {B:σ→Kst} {ok:σ→Prop} {N:Nat} (hc:Kb (c1 c)=true) (hb:Zd c=some id)
  (round:∀k s,k<N→ok s→∃s',ok s'∧To P sz (c1 (c1 c)) (A k s) .normal (A (k+1) s')) (last:∀s,ok s→To P sz (c1 (c1 c)) (A N s) (.exit id) (B s)):
  ∀s,ok s→∃s',ok s'∧To P sz c (A 0 s) .normal (B s'):=by
 have key:∀m k,k+m=N→∀s,ok s→∃s',ok s'∧Rd P sz (c1 (c1 c)) (m+1) (A k s) (.exit id) (B s'):=by
  intro m
  induction m with
  | zero=>
   intro k hk s hs
   have:k=N:=by omega
   subst this
   exact ⟨s,hs,Rd.last (by simp) (last s hs)⟩
  | succ m ih=>
   intro k hk s hs
   obtain ⟨s1,h1,h2⟩:=round k s (by omega) hs
   obtain ⟨s2,h3,h4⟩:=ih (k+1) (by omega) s1 h1
   exact ⟨s2,h3,Rd.next h2 h4⟩
 intro s hs
 obtain ⟨s',h1,h2⟩:=key N 0 (by omega) s hs
 exact ⟨s',h1,To.block hb (To.loop hc h2) (.inl rfl)⟩
end
theorem jU {nb:Nat}:ku nb []=true:=rfl
theorem je {nb i:Nat} {b:Blk} {m:Mem} (h1:i<nb) (h2:okL (below nb) b.cells=true) (h3:getM m i=none) (h:ku nb m=true):ku nb ((i,b)::m)=true:=by
 unfold ku
 have:Nat.blt i nb=true:=by rw [Ko];simpa using h1
 simp only [this,h2,h3]
 exact h
theorem jr {live:List (Nat×LV)} {m:Mem} {nb:Nat} (h1:KC nb live=true) (h2:ku nb m=true):KstOK ⟨live,m,nb⟩:=jy (by unfold jlR;simp only [h1,h2])
end Go.Lr
namespace Go.Lr
open Go.RowKit
section
variable {P:Program} {S:FuncId→Option SumK} {z:Md}
def ExA (P:Program) (f:FuncId) (ty:TypeId) (args:List LV) (hb:Bool) (v:LV) (h':Bool):Prop:=
 ∀(w:World) (L:Loc),w.heap[L.blk]? = some (JY L ty hb)→Calls P f (L.ptr::args.map (LV.den E0)).toArray w fun e w'=>e = .returned (v.den E0)∧Turned L.blk (JY L ty h') w w'
theorem ZJ {f:FuncId} {fn:Func} {c:Code} {args:List LV} {B:Kst} {e:Ex} {v:LV} {ty:TypeId} {h h':Bool} (hf:P.funcs[f]? = some fn) (hb:fn.body=some c)
  (hle:fn.ntmps≤60000) (hargs:(A0::args).length≤fn.ntmps) (ha:ke args=true)
  (hT:To P fn.ntmps c ⟨kC 0 (A0::args),[(0,flag ty h)],1⟩ e B) (he:e = .normal∨e = .ret)
  (hres:∀dead,kx P fn.results.toList (getT (B.tm dead)) B.mem=some v) (hv:v.ok noP=true) (hm:getM B.mem 0=some (flag ty h')):ExA P f ty args h v h':=by
 intro w L hL
 have ha':=plainVs_iff.1 ha
 have hget:∀i c,getM [(0,flag ty h)] i=some c→i=0∧c=flag ty h:=by
  intro i c hc
  rw [jz] at hc
  by_cases hi:i=0
  ·rw [if_pos hi] at hc;cases hc;exact ⟨hi,rfl⟩
  ·rw [if_neg hi] at hc;simp [getM] at hc
 have hrel:Rel (fun _=>L) (getM [(0,flag ty h)]) w:=by
  refine ⟨fun i c hc=> ?_,fun i j hi hj _=> ?_⟩
  ·obtain ⟨rfl,rfl⟩:=hget i c hc
   exact ⟨[],hL,fun _=>rfl,fun hne=>absurd rfl hne⟩
  ·obtain ⟨c,hc⟩:=Option.isSome_iff_exists.1 hi
   obtain ⟨d,hd⟩:=Option.isSome_iff_exists.1 hj
   rw [(hget i c hc).1,(hget j d hd).1]
 have hargs':(A0::args).map (LV.den fun _=>L)=L.ptr::args.map (LV.den E0):=by
  rw [List.map_cons,j9 ha']
  simp [A0,LV.den,V1.den,At.den]
 have:=yN (m:=[(0,flag ty h)]) (nb:=1) hf hb hle hargs (fun u hu=>by
  rcases List.mem_cons.1 hu with rfl | hu
  ·rfl
  ·exact LV.ok_mono jm (ha' u hu)) (fun i c hc=>by
  obtain ⟨rfl,rfl⟩:=hget i c hc
  exact ⟨Nat.zero_lt_one,rfl⟩) ⟨rfl,trivial⟩ hT he hres (fun _=>L) w hrel
 rw [hargs'] at this
 refine this.mono fun e w' he=> ?_
 obtain ⟨E',rfl,hmr',hx⟩:=he
 refine ⟨by rw [km hv],hx.os,hx.tape,hx.output,hx.size, ?_,fun k hk hne=>hx.frame k hk fun i hi he=> ?_⟩
 ·obtain ⟨r,g1,g2,_⟩:=hmr'.rel.blk 0 (flag ty h') hm
  rw [hx.agree 0 (by show 0<1;omega)] at g1
  rw [g1,g2 rfl]
  rfl
 ·exact hne he.symm
noncomputable def exQ (P:Program) (f:FuncId) (ty:TypeId) (n:Nat) (args:List LV) (hb:Bool):List At×Bool:=
 @Classical.epsilon (List At×Bool) ⟨([],false)⟩ fun q=>AllI q.1 n∧ExA P f ty args hb (.v (.agg q.1)) q.2
noncomputable def exN (P:Program) (f:FuncId) (ty:TypeId) (n:Nat) (args:List LV) (hb:Bool) (i:Nat):Int:=jo (exQ P f ty n args hb).1 i
noncomputable def exH (P:Program) (f:FuncId) (ty:TypeId) (n:Nat) (args:List LV) (hb:Bool):Bool:=(exQ P f ty n args hb).2
noncomputable def exF (P:Program) (f:FuncId) (ty:TypeId) (okA:List LV→Bool) (n:Nat):List LV→Bool→Option (LV×Bool×List (Bool×Bool)):=fun args hb=>
 match okA args with
 | true=>some (.v (.agg (mkI (exN P f ty n args hb) 0 n)),exH P f ty n args hb,[])
 | false=>none
theorem jfe {f:FuncId} {ty:TypeId} {okA:List LV→Bool} {n:Nat} (ho:Own P f)
  (h:∀args hb,okA args=true→ke args=true→∃l h',AllI l n∧ExA P f ty args hb (.v (.agg l)) h'):SumOK P f (jv ty (exF P f ty okA n)):=by
 refine JZ fun args hb v h' cs hF hc hp w L hL=> ?_
 unfold exF at hF
 split at hF
 ·rename_i hok
  cases hF
  obtain ⟨l,h',h1,h2⟩:=h args hb hok hp
  have hq:=@Classical.epsilon_spec_aux (List At×Bool) ⟨([],false)⟩ (fun q=>AllI q.1 n∧ExA P f ty args hb (.v (.agg q.1)) q.2) ⟨(l,h'),h1,h2⟩
  have e1:mkI (exN P f ty n args hb) 0 n=(exQ P f ty n args hb).1:=by
   have:exN P f ty n args hb=jo (exQ P f ty n args hb).1:=rfl
   rw [this,kl]
   exact hq.1.eq.symm
  rw [e1]
  exact qb ho (hq.2 w L hL)
 ·cases hF
theorem XQ {f:FuncId} {fn:Func} {c:Code} {args:List LV} {B:Kst} {e:Ex} {v:LV} (ho:Own P f) (hf:P.funcs[f]? = some fn) (hb:fn.body=some c)
  (hle:fn.ntmps≤60000) (hargs:args.length≤fn.ntmps) (ha:ke args=true) (h:To P fn.ntmps c ⟨kC 0 args,[],0⟩ e B) (he:e = .normal∨e = .ret)
  (hres:∀dead,kx P fn.results.toList (getT (B.tm dead)) B.mem=some v) (hv:v.ok noP=true) (w:World):CallOK P f (args.map (LV.den E0)).toArray w fun u w'=>u=v.den E0∧Below w.heap.size w w':=
 qb ho (yy hf hb hle hargs ha h he hres hv w)
end
end Go.Lr
namespace Go.Lr
open Go.RowKit
section
variable {P:Program} {sz:Nat}
theorem xc {σ:Type} {c:Code} {id:Nat} {A:Nat→σ→Kst} {B:σ→Kst} {ok:σ→Prop} {N:Nat} (hc:Kb (c1 c)=true) (hb:Zd c=some id)
  (round:∀k s,k<N→ok s→∃s',ok s'∧To P sz (c1 (c1 c)) (A k s) .normal (A (k+1) s')) (last:∀s,ok s→∃s',ok s'∧To P sz (c1 (c1 c)) (A N s) (.exit id) (B s')):
  ∀s,ok s→∃s',ok s'∧To P sz c (A 0 s) .normal (B s'):=by
 have key:∀m k,k+m=N→∀s,ok s→∃s',ok s'∧Rd P sz (c1 (c1 c)) (m+1) (A k s) (.exit id) (B s'):=by
  intro m
  induction m with
  | zero=>
   intro k hk s hs
   have:k=N:=by omega
   subst this
   obtain ⟨s',h1,h2⟩:=last s hs
   exact ⟨s',h1,Rd.last (by simp) h2⟩
  | succ m ih=>
   intro k hk s hs
   obtain ⟨s1,h1,h2⟩:=round k s (by omega) hs
   obtain ⟨s2,h3,h4⟩:=ih (k+1) (by omega) s1 h1
   exact ⟨s2,h3,Rd.next h2 h4⟩
 intro s hs
 obtain ⟨s',h1,h2⟩:=key N 0 (by omega) s hs
 exact ⟨s',h1,To.block hb (To.loop hc h2) (.inl rfl)⟩
theorem To.lower {c:Code} {A:Kst} {e:Ex} {live:List (Nat×LV)} {mem:Mem} {n n':Nat} (h:To P sz c A e ⟨live,mem,n⟩) (hn:A.nb≤n') (hB:KstOK ⟨live,mem,n'⟩):To P sz c A e ⟨live,mem,n'⟩:=by
 intro E a w hr Q hQ
 refine h E a w hr Q fun E' a' w' hr' hx'=>hQ E' a' w' ⟨hB,hr'.size,hr'.le,hr'.defers,hr'.tm,hr'.rel⟩ ?_
 exact ⟨hn,hx'.agree,hx'.os,hx'.tape,hx'.output,hx'.size,hx'.frame,hx'.src⟩
end
end Go.Lr
namespace Go.Lr
def QL:List (Bool×Bool)→Bool
 | []=>true
 | (true,true)::l=>QL l
 | (false,false)::l=>QL l
 | (true,false)::_=>false
 | (false,true)::_=>false
theorem yj:∀{l:List (Bool×Bool)},QL l=true→∀c∈l,c.1=c.2
 | [],_,c,hc=>by cases hc
 | (true,true)::l,h,c,hc=>by
  rcases List.mem_cons.1 hc with rfl | hc
  ·rfl
  ·exact yj (l:=l) h c hc
 | (false,false)::l,h,c,hc=>by
  rcases List.mem_cons.1 hc with rfl | hc
  ·rfl
  ·exact yj (l:=l) h c hc
 | (true,false)::_,h,_,_=>by cases h
 | (false,true)::_,h,_,_=>by cases h
def jx8 (r:Option (LV×Mem×Nat×List (Bool×Bool))):Option (LV×Bool):=
 match r with
 | some (v,_,_,cs)=>some (v,QL cs)
 | none=>none
theorem jlb {r:Option (LV×Mem×Nat×List (Bool×Bool))} {v:LV} (h:jx8 r=some (v,true)):∃cs,r.map (fun r=>(r.1,r.2.2.2))=some (v,cs)∧∀c∈cs,c.1=c.2:=by
 unfold jx8 at h
 split at h
 ·rename_i v' m nb cs
  simp only [Option.some.injEq,Prod.mk.injEq] at h
  obtain ⟨rfl,h⟩:=h
  exact ⟨cs,rfl,yj h⟩
 ·cases h
end Go.Lr

/- Words for tri and thornton. -/
namespace Go.Proofs.YtnlhpaidmiogbaaGreat
open Go.Lr
def PX (b:Nat):LV:= .v (.one (.ptx b 0))
def PP (b:Nat):LV:= .v (.one (.ptr b 0))
def IK (k:Nat):LV:= .v (.one (.int .i64 (k:Int)))
noncomputable def zc (t:TypeId):List At:=(Qz Tryz.prog t).getD []
theorem jdU:AllI (zc 47) 24:=j6 (by kernel_rfl)
theorem Ze:AllI (zc 308) 48:=j6 (by kernel_rfl)
theorem jiA:AllI (zc 351) 1152:=j6 (by kernel_rfl)
end Go.Proofs.YtnlhpaidmiogbaaGreat

/- tri: a covariance's numbers, brought within their bounds, whatever they are. -/
namespace Go.Proofs.YtnlhpaidmiogbaaGreat
open Go.Lr
set_option linter.unusedVariables false
set_option linter.unusedSimpArgs false
set_option maxRecDepth 20000
abbrev Qd (h:Bool) (x0 x1:List At):Mem:=[(0,flag 61 h),(1,⟨56,(0,0),0,x0⟩),(2,⟨56,(0,0),0,x1⟩)]
abbrev jbU (h:Bool) (x0 x1:List At):List Blk:=[flag 61 h,⟨56,(0,0),0,x0⟩,⟨56,(0,0),0,x1⟩]
abbrev jiB (h:Bool) (x0 x1:List At):List (Option Blk):=[some ⟨61,(0,0),0,[At.bool h]⟩,some ⟨56,(0,0),0,x0⟩,some ⟨56,(0,0),0,x1⟩]
theorem jyZ (dead:Nat→Value) (h:Bool) (l z:List At) (k:Nat):jI [0,3,4,7] [0,1,2] (exec Tryz.prog S23 Zl 400 (.code (c1 (c1 (c2 (c1 (c2 (jk Tryz.prog 201))))))) (Kst.st ⟨[(0,A0),(3,PX 1),(4,PP 2),(7,IK k)],(Qd h l z),3⟩ 34 dead [some true]))=some (Ex.normal,[LV.v (V1.one (At.ptr 0 0)),LV.v (V1.one (At.ptx 1 0)),LV.v (V1.one (At.ptr 2 0)),LV.v (V1.one (At.int IntKind.i64 (wr IntKind.i64 ((k:Int)+1))))],(jiB (h||jF (jo l (0+276+(k:Int).toNat*1)) 1 72057594037927936) ((List.set l) (0+276+(k:Int).toNat*1) (At.int IntKind.i64 (jw (jo l (0+276+(k:Int).toNat*1)) 1 72057594037927936))) z),[(decide (0+276+(k:Int).toNat*1<l.length),true),(decide (0≤(k:Int))&&decide ((k:Int)<24),true),(isIntAt IntKind.i64 l (0+276+(k:Int).toNat*1),true),(decide (0≤(k:Int))&&decide ((k:Int)<24),true),(decide ((k:Int)<24),true)]):=by kernel_rfl
theorem jy0 (dead:Nat→Value) (h:Bool) (l z:List At):jI [0,3,4] [0,1,2] (exec Tryz.prog S23 Zl 400 (.code (c1 (c1 (c2 (c1 (c2 (jk Tryz.prog 201))))))) (Kst.st ⟨[(0,A0),(3,PX 1),(4,PP 2),(7,IK 24)],(Qd h l z),3⟩ 34 dead [none]))=some (Ex.exit 0,[LV.v (V1.one (At.ptr 0 0)),LV.v (V1.one (At.ptx 1 0)),LV.v (V1.one (At.ptr 2 0))],(jiB h l z),[]):=by kernel_rfl
theorem jy1 (dead:Nat→Value) (h:Bool) (l z:List At) (k:Nat):jI [0,3,4,20] [0,1,2] (exec Tryz.prog S23 Zl 400 (.code (c1 (c1 (c2 (c1 (c2 (c2 (jk Tryz.prog 201)))))))) (Kst.st ⟨[(0,A0),(3,PX 1),(4,PP 2),(20,IK k)],(Qd h l z),3⟩ 34 dead [some true]))=some (Ex.normal,[LV.v (V1.one (At.ptr 0 0)),LV.v (V1.one (At.ptx 1 0)),LV.v (V1.one (At.ptr 2 0)),LV.v (V1.one (At.int IntKind.i64 (wr IntKind.i64 ((k:Int)+1))))],(jiB (h||jF (jo l (0+0+(k:Int).toNat*1)) (-1152921504606846976) 1152921504606846976) ((List.set l) (0+0+(k:Int).toNat*1) (At.int IntKind.i64 (jw (jo l (0+0+(k:Int).toNat*1)) (-1152921504606846976) 1152921504606846976))) z),[(decide (0+0+(k:Int).toNat*1<l.length),true),(decide (0≤(k:Int))&&decide ((k:Int)<276),true),(isIntAt IntKind.i64 l (0+0+(k:Int).toNat*1),true),(decide (0≤(k:Int))&&decide ((k:Int)<276),true),(decide ((k:Int)<276),true)]):=by kernel_rfl
theorem jy2 (dead:Nat→Value) (h:Bool) (l z:List At):jI [0,3,4] [0,1,2] (exec Tryz.prog S23 Zl 400 (.code (c1 (c1 (c2 (c1 (c2 (c2 (jk Tryz.prog 201)))))))) (Kst.st ⟨[(0,A0),(3,PX 1),(4,PP 2),(20,IK 276)],(Qd h l z),3⟩ 34 dead [none]))=some (Ex.exit 2,[LV.v (V1.one (At.ptr 0 0)),LV.v (V1.one (At.ptx 1 0)),LV.v (V1.one (At.ptr 2 0))],(jiB h l z),[]):=by kernel_rfl
theorem wk (k:Nat) (h:k<1000000):wr .i64 ((k:Int)+1)=((k+1:Nat):Int):=by
 show w64 ((k:Int)+1)=_
 rw [xu (by omega) (by omega)];omega
def jjP (s:Bool×List At×List At):Kst:=⟨[(0,A0),(3,PX 1),(4,PP 2)],(Qd (s.1) (s.2.1) (s.2.2)),3⟩
def jiC (k:Nat) (s:Bool×List At×List At):Kst:=⟨[(0,A0),(3,PX 1),(4,PP 2),(7,IK k)],(Qd (s.1) (s.2.1) (s.2.2)),3⟩
theorem jiD (h:Bool) (l z:List At) (hl:AllI l 300) (hz:AllI z 300):∃h' l',AllI l' 300∧To Tryz.prog 34 (c2 (c1 (c2 (jk Tryz.prog 201)))) (jiC 0 (h,l,z)) .normal (jjP (h',l',z)):=by
 have round:∀(k:Nat) (s:Bool×List At×List At),k<24→(AllI s.2.1 300∧s.2.2=z)→∃s',(AllI s'.2.1 300∧s'.2.2=z)∧To Tryz.prog 34 (c1 (c1 (c2 (c1 (c2 (jk Tryz.prog 201)))))) (jiC k s) .normal (jiC (k+1) s'):=by
  rintro k ⟨h,l,z'⟩ hk ⟨hl,rfl⟩
  have hl:AllI l 300:=hl
  refine ⟨((h||jF (jo l (0+276+(k:Int).toNat*1)) 1 72057594037927936),(List.set l) (0+276+(k:Int).toNat*1) (At.int IntKind.i64 (jw (jo l (0+276+(k:Int).toNat*1)) 1 72057594037927936)),z'),⟨hl.set _ _,rfl⟩,To.run (z:=Zl) sound23 (slots:=[0,3,4,7]) (blks:=[0,1,2]) (vs:=[A0,PX 1,PP 2,IK (k+1)]) (bs:=(jbU ((h||jF (jo l (0+276+(k:Int).toNat*1)) 1 72057594037927936)) ((List.set l) (0+276+(k:Int).toNat*1) (At.int IntKind.i64 (jw (jo l (0+276+(k:Int).toNat*1)) 1 72057594037927936))) z')) (nbB:=3) (fun dead=>jyZ dead h l z' k) rfl (by rw [wk k (by omega)];rfl) rfl ?_ (jr rfl (je (Nat.lt_of_sub_eq_succ rfl) rfl rfl (je (Nat.lt_of_sub_eq_succ rfl) ((hl.set _ _).okb _) rfl (je (Nat.lt_of_sub_eq_succ rfl) (hz.okb _) rfl jU)))) (Nat.le_refl _)⟩
  have hll:=hl.len
  repeat' first | exact jd | apply ja
  all_goals first
   | exact decide_eq_true (by simp only [Int.toNat_natCast];omega)
   | exact hl.ats _ (by simp only [Int.toNat_natCast];omega)
   | (simp only [Bool.and_eq_true,decide_eq_true_eq];omega)
 have last:∀(s:Bool×List At×List At),(AllI s.2.1 300∧s.2.2=z)→To Tryz.prog 34 (c1 (c1 (c2 (c1 (c2 (jk Tryz.prog 201)))))) (jiC 24 s) (.exit 0) (jjP s):=by
  rintro ⟨h,l,z'⟩ ⟨hl,rfl⟩
  exact To.exec (z:=Zl) sound23 (slots:=[0,3,4]) (blks:=[0,1,2]) (vs:=[A0,PX 1,PP 2]) (bs:=(jbU h l z')) (nbB:=3) (fun dead=>jy0 dead h l z') jd (jr rfl (je (Nat.lt_of_sub_eq_succ rfl) rfl rfl (je (Nat.lt_of_sub_eq_succ rfl) (hl.okb _) rfl (je (Nat.lt_of_sub_eq_succ rfl) (hz.okb _) rfl jU)))) (Nat.le_refl _)
 obtain ⟨⟨h',l',z'⟩,⟨h1,h2⟩,h3⟩:=jfd (id:=0) (B:=jjP) (by kernel_rfl) (by kernel_rfl) round last (h,l,z) ⟨hl,rfl⟩
 simp only at h1 h2
 subst h2
 exact ⟨h',l',h1,h3⟩
def jiE (k:Nat) (s:Bool×List At×List At):Kst:=⟨[(0,A0),(3,PX 1),(4,PP 2),(20,IK k)],(Qd (s.1) (s.2.1) (s.2.2)),3⟩
theorem jiF (h:Bool) (l z:List At) (hl:AllI l 300) (hz:AllI z 300):∃h' l',AllI l' 300∧To Tryz.prog 34 (c2 (c1 (c2 (c2 (jk Tryz.prog 201))))) (jiE 0 (h,l,z)) .normal (jjP (h',l',z)):=by
 have round:∀(k:Nat) (s:Bool×List At×List At),k<276→(AllI s.2.1 300∧s.2.2=z)→∃s',(AllI s'.2.1 300∧s'.2.2=z)∧To Tryz.prog 34 (c1 (c1 (c2 (c1 (c2 (c2 (jk Tryz.prog 201))))))) (jiE k s) .normal (jiE (k+1) s'):=by
  rintro k ⟨h,l,z'⟩ hk ⟨hl,rfl⟩
  have hl:AllI l 300:=hl
  refine ⟨((h||jF (jo l (0+0+(k:Int).toNat*1)) (-1152921504606846976) 1152921504606846976),(List.set l) (0+0+(k:Int).toNat*1) (At.int IntKind.i64 (jw (jo l (0+0+(k:Int).toNat*1)) (-1152921504606846976) 1152921504606846976)),z'),⟨hl.set _ _,rfl⟩,To.run (z:=Zl) sound23 (slots:=[0,3,4,20]) (blks:=[0,1,2]) (vs:=[A0,PX 1,PP 2,IK (k+1)]) (bs:=(jbU ((h||jF (jo l (0+0+(k:Int).toNat*1)) (-1152921504606846976) 1152921504606846976)) ((List.set l) (0+0+(k:Int).toNat*1) (At.int IntKind.i64 (jw (jo l (0+0+(k:Int).toNat*1)) (-1152921504606846976) 1152921504606846976))) z')) (nbB:=3) (fun dead=>jy1 dead h l z' k) rfl (by rw [wk k (by omega)];rfl) rfl ?_ (jr rfl (je (Nat.lt_of_sub_eq_succ rfl) rfl rfl (je (Nat.lt_of_sub_eq_succ rfl) ((hl.set _ _).okb _) rfl (je (Nat.lt_of_sub_eq_succ rfl) (hz.okb _) rfl jU)))) (Nat.le_refl _)⟩
  have hll:=hl.len
  repeat' first | exact jd | apply ja
  all_goals first
   | exact decide_eq_true (by simp only [Int.toNat_natCast];omega)
   | exact hl.ats _ (by simp only [Int.toNat_natCast];omega)
   | (simp only [Bool.and_eq_true,decide_eq_true_eq];omega)
 have last:∀(s:Bool×List At×List At),(AllI s.2.1 300∧s.2.2=z)→To Tryz.prog 34 (c1 (c1 (c2 (c1 (c2 (c2 (jk Tryz.prog 201))))))) (jiE 276 s) (.exit 2) (jjP s):=by
  rintro ⟨h,l,z'⟩ ⟨hl,rfl⟩
  exact To.exec (z:=Zl) sound23 (slots:=[0,3,4]) (blks:=[0,1,2]) (vs:=[A0,PX 1,PP 2]) (bs:=(jbU h l z')) (nbB:=3) (fun dead=>jy2 dead h l z') jd (jr rfl (je (Nat.lt_of_sub_eq_succ rfl) rfl rfl (je (Nat.lt_of_sub_eq_succ rfl) (hl.okb _) rfl (je (Nat.lt_of_sub_eq_succ rfl) (hz.okb _) rfl jU)))) (Nat.le_refl _)
 obtain ⟨⟨h',l',z'⟩,⟨h1,h2⟩,h3⟩:=jfd (id:=2) (B:=jjP) (by kernel_rfl) (by kernel_rfl) round last (h,l,z) ⟨hl,rfl⟩
 simp only at h1 h2
 subst h2
 exact ⟨h',l',h1,h3⟩
theorem jEw (dead:Nat→Value) (h:Bool) (p:List At):jI [0,3,4] [0,1,2] (xA Tryz.prog S23 Zl 400 (kV 1 (jk Tryz.prog 201)) (Kst.st ⟨kC 0 [A0,.v (.agg (jq p 0 300))],[(0,flag 61 h)],1⟩ 34 dead []))=some (.normal,[A0,PP 1,PP 2],[some (flag 61 h),some ⟨56,(0,0),0,jq p 0 300⟩,some ⟨56,(0,0),0,zc 56⟩],[]):=by kernel_rfl
theorem yZ:AllI (zc 56) 300:=j6 (by kernel_rfl)
theorem jy3 (dead:Nat→Value) (h:Bool) (l z:List At):jI [0,3,4,7] [0,1,2] (exec Tryz.prog S23 Zl 400 (.code (c1 (c1 (c2 (jk Tryz.prog 201))))) (Kst.st ⟨[(0,A0),(3,PX 1),(4,PP 2)],(Qd h l z),3⟩ 34 dead []))=some (.normal,[A0,PX 1,PP 2,IK 0],[some (flag 61 h),some ⟨56,(0,0),0,l⟩,some ⟨56,(0,0),0,z⟩],[]):=by kernel_rfl
theorem jy4 (dead:Nat→Value) (h:Bool) (l z:List At):jI [0,3,4,20] [0,1,2] (exec Tryz.prog S23 Zl 400 (.code (c1 (c1 (c2 (c2 (jk Tryz.prog 201)))))) (Kst.st ⟨[(0,A0),(3,PX 1),(4,PP 2)],(Qd h l z),3⟩ 34 dead []))=some (.normal,[A0,PX 1,PP 2,IK 0],[some (flag 61 h),some ⟨56,(0,0),0,l⟩,some ⟨56,(0,0),0,z⟩],[]):=by kernel_rfl
theorem jEx (dead:Nat→Value) (h:Bool) (l:List At):jI [4] [0,2] (exec Tryz.prog S23 Zl 400 (.code (c2 (c2 (c2 (jk Tryz.prog 201))))) (Kst.st ⟨[(0,A0),(3,PX 1),(4,PP 2)],(Qd h l (zc 56)),3⟩ 34 dead []))=some (.ret,[PP 2],[some (flag 61 h),some ⟨56,(0,0),0,jq l 0 300⟩],[(qT l 0 300&&decide (300≠0),true)]):=by kernel_rfl
theorem jvD (h:Bool) {l z:List At} (hl:AllI l 300) (hz:AllI z 300):ku 3 (Qd h l z)=true:=
 je (Nat.lt_of_sub_eq_succ rfl) rfl rfl (je (Nat.lt_of_sub_eq_succ rfl) (hl.okb _) rfl (je (Nat.lt_of_sub_eq_succ rfl) (hz.okb _) rfl jU))
theorem jqu (h:Bool) (p:List At) (hp:AllI p 300):∃l h',AllI l 300∧ExA Tryz.prog 201 61 [.v (.agg p)] h (.v (.agg l)) h':=by
 rw [hp.eq]
 have hp0:=AllI.ints p 0 300
 obtain ⟨h1,l1,hl1,t1⟩:=jiD h (jq p 0 300) (zc 56) hp0 yZ
 obtain ⟨h2,l2,hl2,t2⟩:=jiF h1 l1 (zc 56) hl1 yZ
 refine ⟨jq l2 0 300,h2,AllI.ints _ _ _,ZJ (B:=⟨[4].zip [PP 2],[0,2].zip [flag 61 h2,⟨56,(0,0),0,jq l2 0 300⟩],3⟩) (e:= .ret) (c:=jk Tryz.prog 201) Tryz.func201 (by kernel_rfl) (Nat.le_of_ble_eq_true (by kernel_rfl)) (Nat.le_of_ble_eq_true (by kernel_rfl)) (plainVs_iff.2 fun v hv=> ?_) ?_ (.inr rfl) (fun dead=>by kernel_rfl) ((AllI.ints l2 0 300).ok) rfl⟩
 ·rw [List.mem_singleton] at hv;subst hv;exact hp0.ok
 ·refine To.spine (z:=Zl) sound23 (k:=1) (slots:=[0,3,4]) (blks:=[0,1,2]) (vs:=[A0,PP 1,PP 2]) (bs:=(jbU h (jq p 0 300) (zc 56))) (nbB:=3) (by kernel_rfl) (fun dead=>jEw dead h p) jd (jr rfl (jvD h hp0 yZ)) (Nat.lt_of_sub_eq_succ rfl) ?_
  refine To.pre (B:=⟨[(0,A0),(3,PX 1),(4,PP 2)],(Qd h (jq p 0 300) (zc 56)),3⟩) ?_ (jr rfl (jvD h hp0 yZ)) (fun q hq=> ?_) rfl rfl
  ·refine To.seq (B:=jjP (h1,l1,zc 56)) (by kernel_rfl) (To.seq (by kernel_rfl) (To.exec (z:=Zl) sound23 (slots:=[0,3,4,7]) (blks:=[0,1,2]) (vs:=[A0,PX 1,PP 2,IK 0]) (bs:=(jbU h (jq p 0 300) (zc 56))) (nbB:=3) (fun dead=>jy3 dead h _ _) jd (jr rfl (jvD h hp0 yZ)) (Nat.le_refl _)) t1) ?_
   refine To.seq (B:=jjP (h2,l2,zc 56)) (by kernel_rfl) (To.seq (by kernel_rfl) (To.exec (z:=Zl) sound23 (slots:=[0,3,4,20]) (blks:=[0,1,2]) (vs:=[A0,PX 1,PP 2,IK 0]) (bs:=(jbU h1 l1 (zc 56))) (nbB:=3) (fun dead=>jy4 dead h1 _ _) jd (jr rfl (jvD h1 hl1 yZ)) (Nat.le_refl _)) t2) ?_
   exact To.exec (z:=Zl) sound23 (slots:=[4]) (blks:=[0,2]) (vs:=[PP 2]) (bs:=[flag 61 h2,⟨56,(0,0),0,jq l2 0 300⟩]) (nbB:=3) (fun dead=>jEx dead h2 l2) (ja (by rw [hl2.areI 300 0 (Nat.le_refl _)];rfl) jd) (jr rfl (je (Nat.lt_of_sub_eq_succ rfl) rfl rfl (je (Nat.lt_of_sub_eq_succ rfl) ((AllI.ints l2 0 300).okb _) rfl jU))) (Nat.le_refl _)
  ·simp only [List.mem_cons,List.not_mem_nil,or_false] at hq
   rcases hq with rfl | rfl | rfl
   ·exact ⟨A0,by simp,fun _=>rfl⟩
   ·exact ⟨PP 1,by simp,fun _=>rfl⟩
   ·exact ⟨PP 2,by simp,fun _=>rfl⟩
def jlS:LV→Bool
 | .v (.agg l)=>qM l 300
 | _=>false
noncomputable def jqv:List LV→Bool→Option (LV×Bool×List (Bool×Bool)):=exF Tryz.prog 201 61 (fun args=>match args with | [p]=>jlS p | _=>false) 300
theorem jdV {v:LV} (h:jlS v=true):∃l,v = .v (.agg l)∧AllI l 300:=by
 unfold jlS at h
 split at h
 ·exact ⟨_,rfl,j6 h⟩
 ·cases h
theorem jlT:SumOK Tryz.prog 201 (jv 61 jqv):=by
 refine jfe (jg sound23 Tryz.func201 (by kernel_rfl)) fun args hb hok _=> ?_
 split at hok
 ·obtain ⟨l,rfl,hl⟩:=jdV hok
  exact jqu hb l hl
 ·cases hok
end Go.Proofs.YtnlhpaidmiogbaaGreat

/- tri.place: its summary. -/
namespace Go.Proofs.YtnlhpaidmiogbaaGreat
open Go.Lr
set_option linter.unusedVariables false
set_option linter.unusedSimpArgs false
set_option maxRecDepth 20000
def plV (i j:Int):Int:=wr .i64 (wr .i64 ((wr .i64 (j*wr .i64 (j - 1))).tdiv 2)+i)
def jy5:List LV→Option (LV×List (Bool×Bool))
 | [.v (.one (.int .i64 i)),.v (.one (.int .i64 j))]=>some (.tup [.one (.int .i64 (plV i j)),.one (.bool true)],[(decide (0≤i),true),(decide (i<j),true),(decide (j<24),true)])
 | _=>none
theorem plcR (i j:Int):(jR Tryz.prog S23 Za 400 234 [.v (.one (.int .i64 i)),.v (.one (.int .i64 j))] [] 0 []).map (fun r=>(r.1,r.2.2.2))=some (LV.tup [V1.one (At.int IntKind.i64 (plV i j)),V1.one (At.bool (decide (j<24)))],[(decide (i<j),true),(decide (i<j),true),(decide (i<j),true),(decide (i≥0),true),(decide (i≥0),true),(decide (i≥0),true),(decide (i≥0),true)]):=by kernel_rfl
theorem jqw:SumOK Tryz.prog 234 (jp jy5):=by
 refine jM (z:=Za) sound23 (jg sound23 Tryz.func234 (by kernel_rfl)) fun args v cs hF hc=> ?_
 unfold jy5 at hF
 split at hF
 ·rename_i i j
  cases hF
  have h1:=jx hc
  have h2:=jx (jf hc)
  have h3:=jx (jf (jf hc))
  have hr:=plcR i j
  rw [h3] at hr
  exact ⟨400,[],_,hr,ja h2 (ja h2 (ja h2 (ja h1 (ja h1 (ja h1 (ja h1 jd))))))⟩
 ·cases hF
noncomputable def KA0:FuncId→Option SumK:=more (more S23 201 (jv 61 jqv)) 234 (jp jy5)
theorem soundKA0:Sound Tryz.prog KA0:=(sound23.more jlT).more jqw
def plT (i j:Nat):Nat:=j*(j - 1)/2+i
theorem jlU (i j:Nat) (h1:i<j) (h2:j<24):plV i j=(plT i j:Int)∧plT i j<276:=by
 have h:∀j:Fin 24,∀i:Fin 24,i.val<j.val→plV (i.val:Int) (j.val:Int)=(plT i.val j.val:Int)∧plT i.val j.val<276:=by decide +kernel
 exact h ⟨j,h2⟩ ⟨i,by omega⟩ h1
end Go.Proofs.YtnlhpaidmiogbaaGreat

/- tri.U, tri.Set: their summaries. -/
namespace Go.Proofs.YtnlhpaidmiogbaaGreat
open Go.Lr
set_option linter.unusedVariables false
set_option linter.unusedSimpArgs false
set_option maxRecDepth 20000
theorem jgk {i j:Int} (h0:0≤i) (h1:i<j) (h2:j<24):0≤plV i j∧plV i j<276:=by
 obtain ⟨a,rfl⟩:=Int.eq_ofNat_of_zero_le h0
 obtain ⟨b,rfl⟩:=Int.eq_ofNat_of_zero_le (show 0≤j by omega)
 obtain ⟨e1,e2⟩:=jlU a b (by omega) (by omega)
 show 0≤plV (a:Int) (b:Int)∧plV (a:Int) (b:Int)<276
 rw [e1];omega
theorem jy6 (dead:Nat→Value) (l:List At) (i j:Int):jI [1,2,3] [0] (xA Tryz.prog KA0 Zl 400 (kV 1 (jk Tryz.prog 233)) (Kst.st ⟨kC 0 [.v (.agg (jq l 0 300)),I i,I j],[],0⟩ 32 dead []))=some (.normal,[I i,I j,PP 0],[some ⟨56,(0,0),0,jq l 0 300⟩],[]):=by kernel_rfl
theorem jy7 (dead:Nat→Value) (l:List At) (i j:Int):jI [6] [0] (exec Tryz.prog KA0 Za 400 (.code (c2 (jk Tryz.prog 233))) (Kst.st ⟨[(1,I i),(2,I j),(3,PX 0)],[(0,⟨56,(0,0),0,l⟩)],1⟩ 32 dead [some true]))=some (Ex.ret,[I 1073741824],[some ⟨56,(0,0),0,l⟩],[(decide (i<24),true),(decide (i≥0),true),(decide (i≥0),true),(decide (i≥0),true),(i==j,true),(i==j,true),(i==j,true)]):=by kernel_rfl
theorem jy8 (dead:Nat→Value) (l:List At) (i j:Int):jI [6] [0] (exec Tryz.prog KA0 Zl 400 (.code (c2 (jk Tryz.prog 233))) (Kst.st ⟨[(1,I i),(2,I j),(3,PX 0)],[(0,⟨56,(0,0),0,l⟩)],1⟩ 32 dead [some false,some false,some false]))=some (Ex.ret,[I (jo l (0+0+(plV i j).toNat*1))],[some ⟨56,(0,0),0,l⟩],[(isIntAt IntKind.i64 l (0+0+(plV i j).toNat*1),true),(decide (0≤plV i j)&&decide (plV i j<276),true),(decide (0≤i),true),(decide (i<j),true),(decide (j<24),true),(i==j,false),(i==j,false),(i==j,false)]):=by kernel_rfl
def jlV:List LV→Option (LV×List (Bool×Bool))
 | [.v (.agg l),.v (.one (.int .i64 i)),.v (.one (.int .i64 j))]=>match qM l 300 with
  | true=>some (I (bif i==j then 1073741824 else jo l (0+0+(plV i j).toNat*1)),[(decide (0≤i),true),(decide (i≤j),true),(decide (j<24),true)])
  | false=>none
 | _=>none
theorem jvE {l:List At} (hl:AllI l 300):ku 1 [(0,⟨56,(0,0),0,l⟩)]=true:=je (Nat.lt_of_sub_eq_succ rfl) (hl.okb _) rfl jU
theorem jlW:SumOK Tryz.prog 233 (jp jlV):=by
 refine xN fun args v cs hF hc hp hv w=> ?_
 unfold jlV at hF
 split at hF
 ·rename_i l i j
  split at hF
  ·rename_i hl
   have hl:=j6 hl
   cases hF
   have h1:0≤i:=of_decide_eq_true (jx hc)
   have h2:i≤j:=of_decide_eq_true (jx (jf hc))
   have h3:j<24:=of_decide_eq_true (jx (jf (jf hc)))
   have hp0:=AllI.ints l 0 300
   have e0:jo l=jo (jq l 0 300):=by rw [←hl.eq]
   have key:∃e,(e=Ex.ret)∧To Tryz.prog 32 (jk Tryz.prog 233) ⟨kC 0 [.v (.agg (jq l 0 300)),I i,I j],[],0⟩ e ⟨[6].zip [I (bif i==j then 1073741824 else jo (jq l 0 300) (0+0+(plV i j).toNat*1))],[0].zip [⟨56,(0,0),0,jq l 0 300⟩],1⟩:=by
    refine ⟨_,rfl,To.spine (z:=Zl) soundKA0 (k:=1) (slots:=[1,2,3]) (blks:=[0]) (vs:=[I i,I j,PP 0]) (bs:=[⟨56,(0,0),0,jq l 0 300⟩]) (nbB:=1) (by kernel_rfl) (fun dead=>jy6 dead l i j) jd (jr rfl (jvE hp0)) (Nat.zero_le _) ?_⟩
    refine To.pre (B:=⟨[(1,I i),(2,I j),(3,PX 0)],[(0,⟨56,(0,0),0,jq l 0 300⟩)],1⟩) ?_ (jr rfl (jvE hp0)) (fun q hq=> ?_) rfl rfl
    ·rcases ji (i==j) with he | he
     ·rw [he]
      have hij:i=j:=by simpa using he
      exact To.exec (z:=Za) soundKA0 (slots:=[6]) (blks:=[0]) (vs:=[I 1073741824]) (bs:=[⟨56,(0,0),0,jq l 0 300⟩]) (nbB:=1) (fun dead=>jy7 dead _ i j) (by
       have a1:decide (i<24)=true:=decide_eq_true (by omega)
       have a2:decide (i≥0)=true:=decide_eq_true h1
       exact ja a1 (ja a2 (ja a2 (ja a2 (ja he (ja he (ja he jd))))))) (jr rfl (jvE hp0)) (Nat.le_refl _)
     ·rw [he]
      have hij:i≠j:=by simpa using he
      obtain ⟨b1,b2⟩:=jgk h1 (show i<j by omega) h3
      exact To.exec (z:=Zl) soundKA0 (slots:=[6]) (blks:=[0]) (vs:=[I (jo (jq l 0 300) (0+0+(plV i j).toNat*1))]) (bs:=[⟨56,(0,0),0,jq l 0 300⟩]) (nbB:=1) (fun dead=>jy8 dead _ i j) (by
       refine ja (hp0.ats _ (by omega)) (ja (by simp only [Bool.and_eq_true,decide_eq_true_eq];omega) (ja (decide_eq_true h1) (ja (decide_eq_true (by omega)) (ja (decide_eq_true h3) (ja he (ja he (ja he jd)))))))) (jr rfl (jvE hp0)) (Nat.le_refl _)
    ·simp only [List.zip_cons_cons,List.zip_nil_right,List.mem_cons,List.not_mem_nil,or_false] at hq
     rcases hq with rfl | rfl | rfl
     ·exact ⟨I i,by simp,fun _=>rfl⟩
     ·exact ⟨I j,by simp,fun _=>rfl⟩
     ·exact ⟨PP 0,by simp,fun _=>rfl⟩
   obtain ⟨e,he,hT⟩:=key
   rw [e0]
   have:=XQ (jg soundKA0 Tryz.func233 (by kernel_rfl)) Tryz.func233 (c:=jk Tryz.prog 233) (by kernel_rfl) (Nat.le_of_ble_eq_true (by kernel_rfl)) (Nat.le_of_ble_eq_true (by kernel_rfl)) (plainVs_iff.2 fun u hu=>by
    simp only [List.mem_cons,List.not_mem_nil,or_false] at hu
    rcases hu with rfl | rfl | rfl
    ·exact hp0.ok
    ·rfl
    ·rfl) hT (.inr he) (v:=I (bif i==j then 1073741824 else jo (jq l 0 300) (0+0+(plV i j).toNat*1))) (fun dead=>by kernel_rfl) rfl w
   have hle:([LV.v (V1.agg l),LV.v (V1.one (At.int .i64 i)),LV.v (V1.one (At.int .i64 j))]:List LV)=[.v (.agg (jq l 0 300)),I i,I j]:=by rw [←hl.eq];rfl
   rw [hle]
   exact this
  ·cases hF
 ·cases hF
theorem jy9 (dead:Nat→Value) (l:List At) (i j v:Int):jI [1,2,3,4,8] [0,1] (xA Tryz.prog KA0 Zl 400 (kV 1 (jk Tryz.prog 203)) (Kst.st ⟨kC 0 [.v (.agg (jq l 0 300)),I i,I j,I v],[],0⟩ 23 dead []))=some (.normal,[I i,I j,I v,PP 0,PP 1],[some ⟨56,(0,0),0,jq l 0 300⟩,some ⟨56,(0,0),0,zc 56⟩],[]):=by kernel_rfl
theorem jza (dead:Nat→Value) (l:List At) (i j v:Int):jI [4,8] [0,1] (exec Tryz.prog KA0 Zl 400 (.code (c1 (c2 (jk Tryz.prog 203)))) (Kst.st ⟨[(1,I i),(2,I j),(3,I v),(4,PX 0),(8,PP 1)],[(0,⟨56,(0,0),0,l⟩),(1,⟨56,(0,0),0,zc 56⟩)],2⟩ 23 dead []))=some (Ex.normal,[PX 0,PP 1],[some ⟨56,(0,0),0,l.set (0+0+(plV i j).toNat*1) (.int .i64 v)⟩,some ⟨56,(0,0),0,zc 56⟩],[(decide (0+0+(plV i j).toNat*1<l.length),true),(decide (0≤plV i j)&&decide (plV i j<276),true),(decide (0≤i),true),(decide (i<j),true),(decide (j<24),true)]):=by kernel_rfl
theorem jzb (dead:Nat→Value) (l:List At):jI [8] [1] (exec Tryz.prog KA0 Zl 400 (.code (c2 (c2 (jk Tryz.prog 203)))) (Kst.st ⟨[(4,PX 0),(8,PP 1)],[(0,⟨56,(0,0),0,l⟩),(1,⟨56,(0,0),0,zc 56⟩)],2⟩ 23 dead []))=some (Ex.ret,[PP 1],[some ⟨56,(0,0),0,jq l 0 300⟩],[(qT l 0 300&&decide (300≠0),true)]):=by kernel_rfl
def jlX:List LV→Option (LV×List (Bool×Bool))
 | [.v (.agg l),.v (.one (.int .i64 i)),.v (.one (.int .i64 j)),.v (.one (.int .i64 v))]=>match qM l 300 with
  | true=>some (.v (.agg (jq (l.set (0+0+(plV i j).toNat*1) (.int .i64 v)) 0 300)),[(decide (0≤i),true),(decide (i<j),true),(decide (j<24),true)])
  | false=>none
 | _=>none
theorem jzc {l z:List At} (hl:AllI l 300) (hz:AllI z 300):ku 2 [(0,⟨56,(0,0),0,l⟩),(1,⟨56,(0,0),0,z⟩)]=true:=je (Nat.lt_of_sub_eq_succ rfl) (hl.okb _) rfl (je (Nat.lt_of_sub_eq_succ rfl) (hz.okb _) rfl jU)
theorem jlY:SumOK Tryz.prog 203 (jp jlX):=by
 refine xN fun args v cs hF hc hp hv w=> ?_
 unfold jlX at hF
 split at hF
 ·rename_i l i j x
  split at hF
  ·rename_i hl
   have hl:=j6 hl
   cases hF
   have h1:0≤i:=of_decide_eq_true (jx hc)
   have h2:i<j:=of_decide_eq_true (jx (jf hc))
   have h3:j<24:=of_decide_eq_true (jx (jf (jf hc)))
   have hp0:=AllI.ints l 0 300
   have hp1:=hp0.set (0+0+(plV i j).toNat*1) x
   have e0:l.set (0+0+(plV i j).toNat*1) (.int .i64 x)=(jq l 0 300).set (0+0+(plV i j).toNat*1) (.int .i64 x):=by rw [←hl.eq]
   obtain ⟨b1,b2⟩:=jgk h1 h2 h3
   have hlen:=hp0.len
   have hT:To Tryz.prog 23 (jk Tryz.prog 203) ⟨kC 0 [.v (.agg (jq l 0 300)),I i,I j,I x],[],0⟩ .ret ⟨[8].zip [PP 1],[1].zip [⟨56,(0,0),0,jq ((jq l 0 300).set (0+0+(plV i j).toNat*1) (.int .i64 x)) 0 300⟩],2⟩:=by
    refine To.spine (z:=Zl) soundKA0 (k:=1) (slots:=[1,2,3,4,8]) (blks:=[0,1]) (vs:=[I i,I j,I x,PP 0,PP 1]) (bs:=[⟨56,(0,0),0,jq l 0 300⟩,⟨56,(0,0),0,zc 56⟩]) (nbB:=2) (by kernel_rfl) (fun dead=>jy9 dead l i j x) jd (jr rfl (jzc hp0 yZ)) (Nat.zero_le _) ?_
    refine To.pre (B:=⟨[(1,I i),(2,I j),(3,I x),(4,PX 0),(8,PP 1)],[(0,⟨56,(0,0),0,jq l 0 300⟩),(1,⟨56,(0,0),0,zc 56⟩)],2⟩) ?_ (jr rfl (jzc hp0 yZ)) (fun q hq=> ?_) rfl rfl
    ·refine To.seq (by kernel_rfl) (To.exec (z:=Zl) soundKA0 (slots:=[4,8]) (blks:=[0,1]) (vs:=[PX 0,PP 1]) (bs:=[⟨56,(0,0),0,(jq l 0 300).set (0+0+(plV i j).toNat*1) (.int .i64 x)⟩,⟨56,(0,0),0,zc 56⟩]) (nbB:=2) (fun dead=>jza dead _ i j x) (by
      refine ja (decide_eq_true (by omega)) (ja (by simp only [Bool.and_eq_true,decide_eq_true_eq];omega) (ja (decide_eq_true h1) (ja (decide_eq_true h2) (ja (decide_eq_true h3) jd))))) (jr rfl (jzc hp1 yZ)) (Nat.le_refl _)) ?_
     exact To.exec (z:=Zl) soundKA0 (slots:=[8]) (blks:=[1]) (vs:=[PP 1]) (bs:=[⟨56,(0,0),0,jq ((jq l 0 300).set (0+0+(plV i j).toNat*1) (.int .i64 x)) 0 300⟩]) (nbB:=2) (fun dead=>jzb dead _) (ja (by rw [hp1.areI 300 0 (Nat.le_refl _)];rfl) jd) (jr rfl (je (Nat.lt_of_sub_eq_succ rfl) ((AllI.ints _ 0 300).okb _) rfl jU)) (Nat.le_refl _)
    ·simp only [List.zip_cons_cons,List.zip_nil_right,List.mem_cons,List.not_mem_nil,or_false] at hq
     rcases hq with rfl | rfl | rfl | rfl | rfl
     ·exact ⟨I i,by simp,fun _=>rfl⟩
     ·exact ⟨I j,by simp,fun _=>rfl⟩
     ·exact ⟨I x,by simp,fun _=>rfl⟩
     ·exact ⟨PP 0,by simp,fun _=>rfl⟩
     ·exact ⟨PP 1,by simp,fun _=>rfl⟩
   rw [e0]
   generalize (jq l 0 300).set (0+0+(plV i j).toNat*1) (At.int .i64 x)=L at hT hp1 ⊢
   have:=XQ (jg soundKA0 Tryz.func203 (by kernel_rfl)) Tryz.func203 (c:=jk Tryz.prog 203) (by kernel_rfl) (Nat.le_of_ble_eq_true (by kernel_rfl)) (Nat.le_of_ble_eq_true (by kernel_rfl)) (plainVs_iff.2 fun u hu=>by
    simp only [List.mem_cons,List.not_mem_nil,or_false] at hu
    rcases hu with rfl | rfl | rfl | rfl
    ·exact hp0.ok
    ·rfl
    ·rfl
    ·rfl) hT (.inr rfl) (v:= .v (.agg (jq L 0 300))) (fun dead=>by kernel_rfl) (AllI.ints L 0 300).ok w
   have hle:([LV.v (V1.agg l),LV.v (V1.one (At.int .i64 i)),LV.v (V1.one (At.int .i64 j)),LV.v (V1.one (At.int .i64 x))]:List LV)=[.v (.agg (jq l 0 300)),I i,I j,I x]:=by rw [←hl.eq];rfl
   rw [hle]
   exact this
  ·cases hF
 ·cases hF
noncomputable def KA1:FuncId→Option SumK:=more (more KA0 233 (jp jlV)) 203 (jp jlX)
theorem soundKA1:Sound Tryz.prog KA1:=(soundKA0.more jlW).more jlY
end Go.Proofs.YtnlhpaidmiogbaaGreat
