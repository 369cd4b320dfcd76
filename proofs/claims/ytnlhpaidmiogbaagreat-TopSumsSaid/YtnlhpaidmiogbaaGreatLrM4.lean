/- Joined texts. What each part proves stands ahead of it; no condition. -/
import Derived.Test.YtnlhpaidmiogbaaGreatLrM3
import Derived.Test.YtnlhpaidmiogbaaGreatLrM2

/- fx.Add: its walk, round by round. -/
namespace Go.Proofs.YtnlhpaidmiogbaaGreat
open Go.Lr
set_option linter.unusedVariables false
set_option linter.unusedSimpArgs false
theorem fa (dead:Nat→Value) (hb:Bool) (o n c:Nat) (ty:TypeId) (fr:Nat×Nat) (es:Nat) (l:List At):projS [0,1,4,5] [0,1,2] (execL Tryz.prog S15 Zl 400 (spineL 2 (bodyF Tryz.prog 181)) (Kst.st ⟨argsL 0 [A0,.v (.one (.slx 1 o n c))],[(0,flag 61 hb),(1,⟨ty,fr,es,l⟩)],2⟩ 39 dead []))=some (Ex.normal,[LV.v (V1.one (At.ptr 0 0)),LV.v (V1.one (At.slx 1 o n c)),LV.v (V1.one (At.int IntKind.i64 0)),LV.v (V1.one (At.ptr 2 0))],[some { ty:=61,fr:=(0,0),es:=0,cells:=[At.bool hb] },some { ty:=ty,fr:=fr,es:=es,cells:=l },some { ty:=110,fr:=(0,0),es:=0,cells:=[At.int IntKind.i64 0,At.int IntKind.u64 0] }],[]):=by kernel_rfl
theorem fb (dead:Nat→Value) (hb:Bool) (o n c:Nat) (ty:TypeId) (fr:Nat×Nat) (es:Nat) (l:List At) (x y:Int):projS [0,5,10,11,12] [0,1,2] (exec Tryz.prog S15 Zl 400 (.code (c1 (c1 (c2 (c2 (bodyF Tryz.prog 181)))))) (Kst.st ⟨[(0,A0),(1,.v (.one (.slx 1 o n c))),(4,.v (.one (.int .i64 0))),(5,.v (.one (.ptr 2 0)))],[(0,flag 61 hb),(1,⟨ty,fr,es,l⟩),(2,⟨110,(0,0),0,[.int .i64 x,.int .u64 y]⟩)],3⟩ 39 dead []))=some (Ex.normal,[LV.v (V1.one (At.ptr 0 0)),LV.v (V1.one (At.ptr 2 0)),LV.v (V1.one (At.slx 1 o n c)),LV.v (V1.one (At.int IntKind.i64 ↑n)),LV.v (V1.one (At.int IntKind.i64 0))],[some { ty:=61,fr:=(0,0),es:=0,cells:=[At.bool hb] },some { ty:=ty,fr:=fr,es:=es,cells:=l },some { ty:=110,fr:=(0,0),es:=0,cells:=[At.int IntKind.i64 x,At.int IntKind.u64 y] }],[]):=by kernel_rfl
theorem fc (dead:Nat→Value) (hb:Bool) (o n c:Nat) (ty:TypeId) (fr:Nat×Nat) (es:Nat) (l:List At) (x y i:Int):projS [0,5,10,11,12] [0,1,2] (exec Tryz.prog S15 Zl 400 (.code (c1 (c1 (c2 (c1 (c2 (c2 (bodyF Tryz.prog 181)))))))) (Kst.st ⟨[(0,A0),(5,.v (.one (.ptr 2 0))),(10,.v (.one (.slx 1 o n c))),(11,.v (.one (.int .i64 n))),(12,.v (.one (.int .i64 i)))],[(0,flag 61 hb),(1,⟨ty,fr,es,l⟩),(2,⟨110,(0,0),0,[.int .i64 x,.int .u64 y]⟩)],3⟩ 39 dead [some true]))=some (Ex.normal,[LV.v (V1.one (At.ptr 0 0)),LV.v (V1.one (At.ptr 2 0)),LV.v (V1.one (At.slx 1 o n c)),LV.v (V1.one (At.int IntKind.i64 ↑n)),LV.v (V1.one (At.int IntKind.i64 (wr IntKind.i64 (i+1))))],[some { ty:=61,fr:=(0,0),es:=0,cells:=[At.bool (hb||satH (intAt l (o+i.toNat*1)))] },some { ty:=ty,fr:=fr,es:=es,cells:=l },some { ty:=110,fr:=(0,0),es:=0,cells:=[At.int IntKind.i64 (wHi (wVal x y+wVal (wHi (satV (intAt l (o+i.toNat*1)))) (wLo (satV (intAt l (o+i.toNat*1)))))),At.int IntKind.u64 (wLo (wVal x y+wVal (wHi (satV (intAt l (o+i.toNat*1)))) (wLo (satV (intAt l (o+i.toNat*1))))))] }],[(isI x,true),(isU y,true),(isI (wHi (satV (intAt l (o+i.toNat*1)))),true),(isU (wLo (satV (intAt l (o+i.toNat*1)))),true),(isW (wVal x y+wVal (wHi (satV (intAt l (o+i.toNat*1)))) (wLo (satV (intAt l (o+i.toNat*1))))),true),(isI (satV (intAt l (o+i.toNat*1))),true),(isIntAt IntKind.i64 l (o+i.toNat*1),true),(decide (0≤i)&&decide (i < ↑n),true),(decide (i < ↑n),true)]):=by kernel_rfl
theorem fd (dead:Nat→Value) (hb:Bool) (o n c:Nat) (ty:TypeId) (fr:Nat×Nat) (es:Nat) (l:List At) (x y i:Int):projS [0,5] [0,1,2] (exec Tryz.prog S15 Zl 400 (.code (c1 (c1 (c2 (c1 (c2 (c2 (bodyF Tryz.prog 181)))))))) (Kst.st ⟨[(0,A0),(5,.v (.one (.ptr 2 0))),(10,.v (.one (.slx 1 o n c))),(11,.v (.one (.int .i64 n))),(12,.v (.one (.int .i64 i)))],[(0,flag 61 hb),(1,⟨ty,fr,es,l⟩),(2,⟨110,(0,0),0,[.int .i64 x,.int .u64 y]⟩)],3⟩ 39 dead [some false]))=some (Ex.exit 0,[LV.v (V1.one (At.ptr 0 0)),LV.v (V1.one (At.ptr 2 0))],[some { ty:=61,fr:=(0,0),es:=0,cells:=[At.bool hb] },some { ty:=ty,fr:=fr,es:=es,cells:=l },some { ty:=110,fr:=(0,0),es:=0,cells:=[At.int IntKind.i64 x,At.int IntKind.u64 y] }],[(decide (i < ↑n),false)]):=by kernel_rfl
theorem fe (dead:Nat→Value) (hb:Bool) (ty:TypeId) (fr:Nat×Nat) (es:Nat) (l:List At) (x y:Int):projS [4] [0,1] (exec Tryz.prog S15 Zl 400 (.code (c2 (c2 (c2 (bodyF Tryz.prog 181))))) (Kst.st ⟨[(0,A0),(5,.v (.one (.ptr 2 0)))],[(0,flag 61 hb),(1,⟨ty,fr,es,l⟩),(2,⟨110,(0,0),0,[.int .i64 x,.int .u64 y]⟩)],3⟩ 39 dead []))=some (Ex.ret,[LV.v (V1.one (At.int IntKind.i64 (endV (if isI (rndV (wVal x y) (Int.toNat 0))=true then rndV (wVal x y) (Int.toNat 0) else 0) (isI (rndV (wVal x y) (Int.toNat 0))) (decide (x<0)))))],[some { ty:=61,fr:=(0,0),es:=0,cells:=[At.bool (hb||endH (if isI (rndV (wVal x y) (Int.toNat 0))=true then rndV (wVal x y) (Int.toNat 0) else 0) (isI (rndV (wVal x y) (Int.toNat 0))))] },some { ty:=ty,fr:=fr,es:=es,cells:=l }],[(isI x,true),(isU y,true),(decide (0≤0)&&decide (0≤126),true)]):=by kernel_rfl
theorem memOK3 {nb:Nat} {b0 b1 b2:Blk} (hnb:3≤nb) (h0:okL (below nb) b0.cells=true) (h1:okL (below nb) b1.cells=true) (h2:okL (below nb) b2.cells=true):memOKb nb [(0,b0),(1,b1),(2,b2)]=true:=by
 have e0:Nat.blt 0 nb=true:=by rw [nblt];simp;omega
 have e1:Nat.blt 1 nb=true:=by rw [nblt];simp;omega
 have e2:Nat.blt 2 nb=true:=by rw [nblt];simp;omega
 simp only [memOKb,e0,e1,e2,h0,h1,h2]
 rfl
theorem memOK2 {nb:Nat} {b0 b1:Blk} (hnb:2≤nb) (h0:okL (below nb) b0.cells=true) (h1:okL (below nb) b1.cells=true):memOKb nb [(0,b0),(1,b1)]=true:=by
 have e0:Nat.blt 0 nb=true:=by rw [nblt];simp;omega
 have e1:Nat.blt 1 nb=true:=by rw [nblt];simp;omega
 simp only [memOKb,e0,e1,h0,h1]
 rfl
theorem kst_ok {A:Kst} (h1:liveOKb A.nb A.live=true) (h2:memOKb A.nb A.mem=true):KstOK A:=by
 obtain ⟨a,b,c⟩:=liveOKb_ok h1
 obtain ⟨d,e⟩:=memOKb_ok h2
 exact ⟨a,b,c,d,e⟩
def sumS:List Int→Int
 | []=>0
 | a::l=>satV a+sumS l
def anyH:List Int→Bool
 | []=>false
 | a::l=>satH a||anyH l
theorem sumS_app (l m:List Int):sumS (l++m)=sumS l+sumS m:=by
 induction l with
 | nil=>simp [sumS]
 | cons a l ih=>simp only [List.cons_append,sumS,ih];omega
theorem anyH_app (l m:List Int):anyH (l++m)=(anyH l||anyH m):=by
 induction l with
 | nil=>simp [anyH]
 | cons a l ih=>simp only [List.cons_append,anyH,ih,Bool.or_assoc]
theorem sumS_bd (l:List Int): -(l.length*1152921504606846976:Int)≤sumS l∧sumS l≤l.length*1152921504606846976:=by
 induction l with
 | nil=>simp [sumS]
 | cons a l ih=>
  have:=sat_bd a
  simp only [sumS,List.length_cons]
  push_cast
  omega
theorem take_snoc {α:Type} (l:List α) (i:Nat) (h:i<l.length):l.take (i+1)=l.take i++[l[i]]:=by rw [List.take_succ_eq_append_getElem h]
def wB (v:Int):Blk:=⟨110,(0,0),0,[.int .i64 (wHi v),.int .u64 (wLo v)]⟩
noncomputable def addBd:Code:=c1 (c2 (c2 (bodyF Tryz.prog 181)))
def adA (k:Blk) (o n c:Nat) (h:Bool) (v:Int) (i:Int):Kst:=⟨[(0,A0),(5,P2),(10,.v (.one (.slx 1 o n c))),(11,.v (.one (.int .i64 n))),(12,.v (.one (.int .i64 i)))],[(0,flag 61 h),(1,k),(2,wB v)],3⟩
def adB (k:Blk) (h:Bool) (v:Int):Kst:=⟨[(0,A0),(5,P2)],[(0,flag 61 h),(1,k),(2,wB v)],3⟩
theorem addStep (k:Blk) (o n c:Nat) (xs:List Int) (hk:SlAt 1 k o n xs) (hn:n<1152921504606846976) (hb:Bool) (i:Nat) (hi:i<n):
  To Tryz.prog 39 (c1 (c1 (c2 addBd))) (adA k o n c (hb||anyH (xs.take i)) (sumS (xs.take i)) i) .normal (adA k o n c (hb||anyH (xs.take (i+1))) (sumS (xs.take (i+1))) ((i:Int)+1)):=by
 obtain ⟨hlen,hat,hok⟩:=hk
 have hi':i<xs.length:=by omega
 have hx:=intAt_of (hat i hi')
 have hs:=take_snoc xs i hi'
 have b0:=sumS_bd (xs.take i)
 rw [List.length_take] at b0
 have b1:=sat_bd xs[i]
 have hm:((min i xs.length:Nat):Int)=i:=by omega
 rw [hm] at b0
 have e1:sumS (xs.take (i+1))=sumS (xs.take i)+satV xs[i]:=by rw [hs,sumS_app];simp [sumS]
 have e2:(hb||anyH (xs.take (i+1)))=((hb||anyH (xs.take i))||satH xs[i]):=by rw [hs,anyH_app];simp [anyH,Bool.or_assoc]
 have e3:((i:Int)).toNat*1=i:=by simp
 have e4:wr .i64 ((i:Int)+1)=(i:Int)+1:=w64_in (by omega) (by omega)
 obtain ⟨ty,fr,es,l⟩:=k
 rw [e1,e2]
 generalize sumS (xs.take i)=S at *
 have hi2:=wHi_inI S (by omega) (by omega)
 have hl2:=wLo_in S
 have hi3:=wHi_inI (satV xs[i]) (by omega) (by omega)
 have hl3:=wLo_in (satV xs[i])
 refine To.run (z:=Zl) sound15 (slots:=[0,5,10,11,12]) (blks:=[0,1,2]) (vs:=[A0,P2,.v (.one (.slx 1 o n c)),.v (.one (.int .i64 n)),.v (.one (.int .i64 ((i:Int)+1)))])
  (bs:=[flag 61 ((hb||anyH (xs.take i))||satH xs[i]),⟨ty,fr,es,l⟩,wB (S+satV xs[i])]) (nbB:=3)
  (fun dead=>fc dead (hb||anyH (xs.take i)) o n c ty fr es l (wHi S) (wLo S) i) rfl (by rw [e4];rfl) (by rw [e3,hx.1];simp only [wVal_mk];rfl) ?_ (kst_ok rfl (memOK3 (Nat.le_refl _) rfl (okL_mono noP_below hok) rfl)) (Nat.le_refl _)
 rw [e3,hx.1,hx.2]
 simp only [wVal_mk,all_tt,isI_iff,isU_iff,isW_iff,Bool.and_eq_true,decide_eq_true_eq]
 repeat' apply And.intro
 all_goals first | exact ae_nil | exact True.intro | omega
theorem addEnd (k:Blk) (o n c:Nat) (hok:okL noP k.cells=true) (h:Bool) (v:Int):To Tryz.prog 39 (c1 (c1 (c2 addBd))) (adA k o n c h v n) (.exit 0) (adB k h v):=by
 obtain ⟨ty,fr,es,l⟩:=k
 refine To.exec (z:=Zl) sound15 (slots:=[0,5]) (blks:=[0,1,2]) (vs:=[A0,P2]) (bs:=[flag 61 h,⟨ty,fr,es,l⟩,wB v]) (nbB:=3) (fun dead=>fd dead h o n c ty fr es l (wHi v) (wLo v) n) ?_ (kst_ok rfl (memOK3 (Nat.le_refl _) rfl (okL_mono noP_below hok) rfl)) (Nat.le_refl _)
 simp
theorem addRd (k:Blk) (o n c:Nat) (xs:List Int) (hk:SlAt 1 k o n xs) (hn:n<1152921504606846976) (hb:Bool):∀(m i:Nat),i+m=n→
  Rd Tryz.prog 39 (c1 (c1 (c2 addBd))) (m+1) (adA k o n c (hb||anyH (xs.take i)) (sumS (xs.take i)) i) (.exit 0) (adB k (hb||anyH xs) (sumS xs))
 | 0,i,h=>by
  have hi:i=n:=by omega
  have hl:xs.length=n:=by have:=hk.1;omega
  subst hi
  rw [←hl,List.take_length,hl]
  exact Rd.last (by simp) (addEnd k o i c hk.2.2 _ _)
 | m+1,i,h=>by
  have hs:=addStep k o n c xs hk hn hb i (by omega)
  refine Rd.next hs ?_
  exact addRd k o n c xs hk hn hb m (i+1) (by omega)
def faddV (xs:List Int):Int:=satV (sumS xs)
def faddH (xs:List Int):Bool:=anyH xs||satH (sumS xs)
def faddS:List AV→Bool→Option (LV×Bool×List (Bool×Bool))
 | [.ints xs],hb=>some (I (faddV xs),hb||faddH xs,[(decide (xs.length<1152921504606846976),true)])
 | _,_=>none
theorem fnil (hb:Bool):(runF Tryz.prog S15 Zl 2000 181 [A0,.v (.one .nilsl)] [(0,flag 61 hb)] 1 []).map (fun r=>(r.1,getM r.2.1 0,r.2.2.2))=some (I 0,some (flag 61 (hb||false)),[(true,true),(true,true),(true,true)]):=by kernel_rfl
theorem rnd0 (v:Int):rndV v (Int.toNat 0)=v:=by
 have h:rndV v 0=sgn (decide (v<0)) ((absV v+0)/1):=rfl
 show rndV v 0=v
 rw [h,Int.add_zero,Int.ediv_one,sgn_abs]
theorem sumFadd:SumOK Tryz.prog 181 (acSum 61 1 faddS):=by
 refine acSum1_ok (own_of sound15 Tryz.func181 (by kernel_rfl)) (fun avs hb r h=> ?_) fun pre xs hb v h' cs hF hc hp hv=> ?_
 ·unfold faddS at h
  split at h
  ·exact ⟨[],_,rfl⟩
  ·cases h
 ·have hpre:pre=[]:=by
   cases pre with
   | nil=>rfl
   | cons p pre=>
    simp only [List.map_cons,List.cons_append] at hF
    unfold faddS at hF
    split at hF
    ·rename_i he;simp at he
    ·cases hF
  subst hpre
  have hF':some (I (faddV xs),hb||faddH xs,[(decide (xs.length<1152921504606846976),true)])=some (v,h',cs):=hF
  cases hF'
  simp only [all_tt,decide_eq_true_eq] at hc
  obtain ⟨hn,-⟩:=hc
  refine ⟨fun k o n c hk _ E w hrel=> ?_,fun hx E w hrel=> ?_⟩
  ·have hlen:xs.length=n:=by have:=hk.1;omega
   rw [hlen] at hn
   have hok:=hk.2.2
   have hR:=addRd k o n c xs hk hn hb n 0 (by omega)
   have b0:=sumS_bd xs
   rw [hlen] at b0
   have hi2:=wHi_inI (sumS xs) (by omega) (by omega)
   have hl2:=wLo_in (sumS xs)
   have hend:endV (if isI (sumS xs)=true then sumS xs else 0) (isI (sumS xs)) (decide (wHi (sumS xs)<0))=faddV xs:=by
    have:=end_rnd (sumS xs) 0 (decide (wHi (sumS xs)<0)) (by rw [wVal_neg hl2.1 hl2.2,wVal_mk])
    have e:=rnd0 (sumS xs)
    rw [show Int.toNat 0=0 from rfl] at e
    rw [e] at this
    exact this
   obtain ⟨ty,fr,es,l⟩:=k
   refine lcl_of_To (c:=bodyF Tryz.prog 181) (e:= .ret) (nb:=2) (B:=⟨[(4,.v (.one (.int .i64 (faddV xs))))],[(0,flag 61 (hb||faddH xs)),(1,⟨ty,fr,es,l⟩)],3⟩) Tryz.func181 (by kernel_rfl) (Nat.le_of_ble_eq_true (by kernel_rfl)) (Nat.le_of_ble_eq_true (by kernel_rfl))
    (fun u hu=> ?_) (memOK2 (Nat.le_refl _) rfl (okL_mono noP_below hok)) ?_ (.inr rfl) (fun dead=>by kernel_rfl) rfl (fun i b hib=> ?_) E w hrel
   ·simp only [List.nil_append,List.mem_cons,List.not_mem_nil,or_false] at hu
    rcases hu with rfl | rfl <;> rfl
   ·refine To.spineR (z:=Zl) sound15 (k:=2) (slots:=[0,1,4,5]) (blks:=[0,1,2]) (vs:=[A0,.v (.one (.slx 1 o n c)),.v (.one (.int .i64 0)),P2]) (bs:=[flag 61 hb,⟨ty,fr,es,l⟩,wB 0]) (nbB:=3) (by kernel_rfl) (fun dead=>fa dead hb o n c ty fr es l) rfl rfl rfl (by simp) (kst_ok rfl (memOK3 (Nat.le_refl _) rfl (okL_mono noP_below hok) rfl)) (Nat.le_succ 2) ?_
    refine To.seq (by kernel_rfl) (To.seq (by kernel_rfl) (To.exec (z:=Zl) sound15 (slots:=[0,5,10,11,12]) (blks:=[0,1,2]) (vs:=[A0,P2,.v (.one (.slx 1 o n c)),.v (.one (.int .i64 n)),.v (.one (.int .i64 0))]) (bs:=[flag 61 hb,⟨ty,fr,es,l⟩,wB 0]) (nbB:=3) (fun dead=>fb dead hb o n c ty fr es l 0 0) (by simp) (kst_ok rfl (memOK3 (Nat.le_refl _) rfl (okL_mono noP_below hok) rfl)) (Nat.le_refl _))
     (To.block (id:=0) (by kernel_rfl) (To.loop (m:=n+1) (by kernel_rfl) ?_) (.inl rfl))) (C:=_) (B:=adB ⟨ty,fr,es,l⟩ (hb||anyH xs) (sumS xs)) ?_
    ·have h0:adA ⟨ty,fr,es,l⟩ o n c (hb||anyH (xs.take 0)) (sumS (xs.take 0)) ((0:Nat):Int)=⟨[0,5,10,11,12].zip [A0,P2,.v (.one (.slx 1 o n c)),.v (.one (.int .i64 n)),.v (.one (.int .i64 0))],[0,1,2].zip [flag 61 hb,⟨ty,fr,es,l⟩,wB 0],3⟩:=by
      unfold adA
      simp only [List.take_zero,anyH,Bool.or_false,sumS]
      rfl
     rw [←h0]
     exact hR
    ·refine To.run (z:=Zl) sound15 (slots:=[4]) (blks:=[0,1]) (vs:=[.v (.one (.int .i64 (faddV xs)))]) (bs:=[flag 61 (hb||faddH xs),⟨ty,fr,es,l⟩]) (nbB:=3) (fun dead=>fe dead (hb||anyH xs) ty fr es l (wHi (sumS xs)) (wLo (sumS xs))) rfl ?_ ?_ ?_ (kst_ok rfl (memOK2 (Nat.le_succ 2) rfl (okL_mono noP_below hok))) (Nat.le_refl _)
     ·rw [wVal_mk,rnd0,hend]
     ·rw [wVal_mk,rnd0,endH_of,Bool.or_assoc];rfl
     ·simp only [all_tt,isI_iff,isU_iff]
      exact ⟨hi2,hl2,rfl,ae_nil⟩
   ·rcases get2 hib with ⟨rfl,rfl⟩ | ⟨rfl,rfl⟩
    ·exact ⟨rfl,by decide,rfl⟩
    ·exact ⟨rfl,by decide,okL_mono noP_below hok⟩
  ·subst hx
   have hrun:=fnil hb
   cases hq:runF Tryz.prog S15 Zl 2000 181 [A0,.v (.one .nilsl)] [(0,flag 61 hb)] 1 [] with
   | none=>rw [hq] at hrun;cases hrun
   | some q=>
    obtain ⟨v',m2,nb',cs'⟩:=q
    rw [hq] at hrun
    simp only [Option.map_some,Option.some.injEq,Prod.mk.injEq] at hrun
    obtain ⟨rfl,hm2,rfl⟩:=hrun
    exact lcl_of_run sound15 hq (m':=[(0,flag 61 (hb||faddH []))]) (fun i c hic=>by
      obtain ⟨rfl,rfl⟩:=get1 hic
      exact ⟨hm2,Nat.zero_lt_one,rfl⟩) (by simp) rfl (fun a ha=>by
      simp only [List.mem_cons,List.not_mem_nil,or_false] at ha
      rcases ha with rfl | rfl <;> rfl) rfl E w hrel
def S16:FuncId→Option SumK:=more S15 181 (acSum 61 1 faddS)
theorem sound16:Sound Tryz.prog S16:=sound15.more sumFadd
end Go.Proofs.YtnlhpaidmiogbaaGreat

/- root: end, Recip, by every path of their runs (printed), and what they come to. -/
namespace Go.Proofs.YtnlhpaidmiogbaaGreat
open Go.Lr
set_option linter.unusedVariables false
set_option linter.unusedSimpArgs false
theorem xrendR1 (x y:Int) (hb:Bool):(runF Tryz.prog S16 Zl 2000 114 [A0,.v (.agg [.int .i64 x,.int .u64 y])] [(0,flag 61 hb)] 1 [some true]).map acc3=some (LV.v (V1.one (At.int IntKind.i64 (satV 1152921504606846977))),some { ty:=61,fr:=(0,0),es:=0,cells:=[At.bool (hb||satH 1152921504606846977)] },[(!isI (rootW (wVal x y)),true),(decide (x<0),false),(isI x,true),(isU y,true)]):=by kernel_rfl
theorem xrendR2 (x y:Int) (hb:Bool):(runF Tryz.prog S16 Zl 2000 114 [A0,.v (.agg [.int .i64 x,.int .u64 y])] [(0,flag 61 hb)] 1 [some false]).map acc3=some (LV.v (V1.one (At.int IntKind.i64 (satV (if isI (rootW (wVal x y))=true then rootW (wVal x y) else 0)))),some { ty:=61,fr:=(0,0),es:=0,cells:=[At.bool (hb||satH (if isI (rootW (wVal x y))=true then rootW (wVal x y) else 0))] },[(!isI (rootW (wVal x y)),false),(decide (x<0),false),(isI x,true),(isU y,true)]):=by kernel_rfl
def xrendT (x y:Int) (hb:Bool):Option (LV×Bool×List (Bool×Bool)):=
 bif (!isI (rootW (wVal x y))) then some (LV.v (V1.one (At.int IntKind.i64 (satV 1152921504606846977))),(hb||satH 1152921504606846977),[(decide (x<0),false),(isI x,true),(isU y,true)])
 else some (LV.v (V1.one (At.int IntKind.i64 (satV (if isI (rootW (wVal x y))=true then rootW (wVal x y) else 0)))),(hb||satH (if isI (rootW (wVal x y))=true then rootW (wVal x y) else 0)),[(decide (x<0),false),(isI x,true),(isU y,true)])
def xrendF:List LV→Bool→Option (LV×Bool×List (Bool×Bool))
 | [.v (.agg [.int .i64 x,.int .u64 y])],hb=>xrendT x y hb
 | _,_=>none
theorem sumxrend:SumOK Tryz.prog 114 (accSum 61 xrendF):=by
 refine accSum_run (z:=Zl) sound16 (own_of sound16 Tryz.func114 (by kernel_rfl)) fun args hb v h' cs hF hc=> ?_
 unfold xrendF at hF
 split at hF
 ·rename_i x y
  unfold xrendT at hF
  rcases bool_cases (!isI (rootW (wVal x y))) with h0 | h0
  ·rw [cond_t h0] at hF
   cases hF
   exact ⟨rfl,2000,[some true],_,xrendR1 x y hb,ae_cons (h0) (ae_cons (hd_of (hc)) (ae_cons (hd_of (tl_of (hc))) (ae_cons (hd_of (tl_of (tl_of (hc)))) (ae_nil))))⟩
  ·rw [cond_f h0] at hF
   cases hF
   exact ⟨rfl,2000,[some false],_,xrendR2 x y hb,ae_cons (h0) (ae_cons (hd_of (hc)) (ae_cons (hd_of (tl_of (hc))) (ae_cons (hd_of (tl_of (tl_of (hc)))) (ae_nil))))⟩
 ·cases hF
def endRS:List LV→Bool→Option (LV×Bool×List (Bool×Bool))
 | [.v (.agg [.int .i64 x,.int .u64 y])],hb=>some (I (satV (rootW (wVal x y))),hb||satH (rootW (wVal x y)),[(decide (x<0),false),(isI x,true),(isU y,true)])
 | _,_=>none
theorem sumRend:SumOK Tryz.prog 114 (accSum 61 endRS):=by
 refine sumxrend.acc_re fun args hb v h' cs hF hc=> ?_
 unfold endRS at hF
 split at hF
 ·rename_i x y
  cases hF
  refine ⟨[(decide (x<0),false),(isI x,true),(isU y,true)], ?_,hc⟩
  show xrendT x y hb=_
  simp only [all_tt,all_ff,isI_iff,isU_iff,decide_eq_false_iff_not] at hc
  obtain ⟨hx,⟨hx0,hx1⟩,⟨hy0,hy1⟩,-⟩:=hc
  have hN0:0≤wVal x y:=by unfold wVal;omega
  have hN1:wVal x y<340282366920938463463374607431768211456:=by unfold wVal;omega
  have hr:=(rootW_spec hN0 hN1).1
  unfold xrendT
  generalize rootW (wVal x y)=r at *
  by_cases hi:isI r=true
  ·rw [cond_f (by rw [hi];rfl),if_pos hi];rfl
  ·have hi':isI r=false:=by simpa using hi
   rw [cond_t (by rw [hi'];rfl)]
   have hbig:¬(-9223372036854775808≤r∧r<9223372036854775808):=fun hh=>hi (isI_iff.2 hh)
   rw [sat_hi (a:=r) (by omega),satH_out (a:=r) (by omega),sat_hi (a:=1152921504606846977) (by omega),satH_out (a:=1152921504606846977) (by omega)]
   rfl
 ·cases hF
def S17:FuncId→Option SumK:=more S16 114 (accSum 61 endRS)
theorem sound17:Sound Tryz.prog S17:=sound16.more sumRend
end Go.Proofs.YtnlhpaidmiogbaaGreat

/- root: Sqrt, Hypot: their walks, and what they come to. -/
namespace Go.Proofs.YtnlhpaidmiogbaaGreat
open Go.Lr
set_option linter.unusedVariables false
set_option linter.unusedSimpArgs false
theorem xsqrtR1 (a:Int) (hb:Bool):(runF Tryz.prog S17 Zl 2000 55 [A0,.v (.one (.int .i64 a))] [(0,flag 61 hb)] 1 [some true]).map acc3=some (LV.v (V1.one (At.int IntKind.i64 0)),some { ty:=61,fr:=(0,0),es:=0,cells:=[At.bool true] },[(decide (satV a<0),true)]):=by kernel_rfl
theorem xsqrtR2 (a:Int) (hb:Bool):(runF Tryz.prog S17 Zl 2000 55 [A0,.v (.one (.int .i64 a))] [(0,flag 61 hb)] 1 [some false]).map acc3=some (LV.v (V1.one (At.int IntKind.i64 (satV (rootW (wVal (wHi (satV a*pow2 (Int.toNat 30))) (wLo (satV a*pow2 (Int.toNat 30)))))))),some { ty:=61,fr:=(0,0),es:=0,cells:=[At.bool (hb||satH a||satH (rootW (wVal (wHi (satV a*pow2 (Int.toNat 30))) (wLo (satV a*pow2 (Int.toNat 30))))))] },[(decide (wHi (satV a*pow2 (Int.toNat 30))<0),false),(isI (wHi (satV a*pow2 (Int.toNat 30))),true),(isU (wLo (satV a*pow2 (Int.toNat 30))),true),(isI (satV a),true),(decide (0≤30)&&decide (30≤127),true),(decide (absV (satV a)*pow2 (Int.toNat 30)<170141183460469231731687303715884105728),true),(decide (satV a<0),false)]):=by kernel_rfl
def xsqrtT (a:Int) (hb:Bool):Option (LV×Bool×List (Bool×Bool)):=
 bif (decide (satV a<0)) then some (LV.v (V1.one (At.int IntKind.i64 0)),(true),[])
 else some (LV.v (V1.one (At.int IntKind.i64 (satV (rootW (wVal (wHi (satV a*pow2 (Int.toNat 30))) (wLo (satV a*pow2 (Int.toNat 30)))))))),(hb||satH a||satH (rootW (wVal (wHi (satV a*pow2 (Int.toNat 30))) (wLo (satV a*pow2 (Int.toNat 30)))))),[(decide (wHi (satV a*pow2 (Int.toNat 30))<0),false),(isI (wHi (satV a*pow2 (Int.toNat 30))),true),(isU (wLo (satV a*pow2 (Int.toNat 30))),true),(isI (satV a),true),(decide (0≤30)&&decide (30≤127),true),(decide (absV (satV a)*pow2 (Int.toNat 30)<170141183460469231731687303715884105728),true)])
def xsqrtF:List LV→Bool→Option (LV×Bool×List (Bool×Bool))
 | [.v (.one (.int .i64 a))],hb=>xsqrtT a hb
 | _,_=>none
theorem sumxsqrt:SumOK Tryz.prog 55 (accSum 61 xsqrtF):=by
 refine accSum_run (z:=Zl) sound17 (own_of sound17 Tryz.func55 (by kernel_rfl)) fun args hb v h' cs hF hc=> ?_
 unfold xsqrtF at hF
 split at hF
 ·rename_i a
  unfold xsqrtT at hF
  rcases bool_cases (decide (satV a<0)) with h0 | h0
  ·rw [cond_t h0] at hF
   cases hF
   exact ⟨rfl,2000,[some true],_,xsqrtR1 a hb,ae_cons (h0) (ae_nil)⟩
  ·rw [cond_f h0] at hF
   cases hF
   exact ⟨rfl,2000,[some false],_,xsqrtR2 a hb,ae_cons (hd_of (hc)) (ae_cons (hd_of (tl_of (hc))) (ae_cons (hd_of (tl_of (tl_of (hc)))) (ae_cons (hd_of (tl_of (tl_of (tl_of (hc))))) (ae_cons (hd_of (tl_of (tl_of (tl_of (tl_of (hc)))))) (ae_cons (hd_of (tl_of (tl_of (tl_of (tl_of (tl_of (hc))))))) (ae_cons (h0) (ae_nil)))))))⟩
 ·cases hF
theorem hb (dead:Nat→Value) (hb:Bool) (o n c:Nat) (ty:TypeId) (fr:Nat×Nat) (es:Nat) (l:List At) (x y:Int):projS [0,5,12,13,14] [0,1,2] (exec Tryz.prog S17 Zl 400 (.code (c1 (c1 (c2 (c2 (bodyF Tryz.prog 135)))))) (Kst.st ⟨[(0,A0),(1,.v (.one (.slx 1 o n c))),(4,.v (.one (.int .i64 0))),(5,P2)],[(0,flag 61 hb),(1,⟨ty,fr,es,l⟩),(2,⟨110,(0,0),0,[.int .i64 x,.int .u64 y]⟩)],3⟩ 34 dead []))=some (Ex.normal,[LV.v (V1.one (At.ptr 0 0)),LV.v (V1.one (At.ptr 2 0)),LV.v (V1.one (At.slx 1 (if c=((Int.ofNat 0)).toNat then o else o+((Int.ofNat 0)).toNat*1) ((if (64:Int)<(n:Int) then 64 else (n:Int)).toNat - ((Int.ofNat 0)).toNat) (c - ((Int.ofNat 0)).toNat))),LV.v (V1.one (At.int IntKind.i64 ↑((if (64:Int)<(n:Int) then 64 else (n:Int)).toNat - ((Int.ofNat 0)).toNat))),LV.v (V1.one (At.int IntKind.i64 0))],[some { ty:=61,fr:=(0,0),es:=0,cells:=[At.bool hb] },some { ty:=ty,fr:=fr,es:=es,cells:=l },some { ty:=110,fr:=(0,0),es:=0,cells:=[At.int IntKind.i64 x,At.int IntKind.u64 y] }],[(decide (0≤(Int.ofNat 0))&&(decide ((Int.ofNat 0)≤if 64<(n:Int) then 64 else (n:Int))&&decide ((if (64:Int)<(n:Int) then 64 else (n:Int))≤(c:Int))),true)]):=by kernel_rfl
theorem hc (dead:Nat→Value) (hb:Bool) (o n c:Nat) (ty:TypeId) (fr:Nat×Nat) (es:Nat) (l:List At) (x y i:Int):projS [0,5,12,13,14] [0,1,2] (exec Tryz.prog S17 Zl 400 (.code (c1 (c1 (c2 (c1 (c2 (c2 (bodyF Tryz.prog 135)))))))) (Kst.st ⟨[(0,A0),(5,P2),(12,.v (.one (.slx 1 o n c))),(13,.v (.one (.int .i64 n))),(14,.v (.one (.int .i64 i)))],[(0,flag 61 hb),(1,⟨ty,fr,es,l⟩),(2,⟨110,(0,0),0,[.int .i64 x,.int .u64 y]⟩)],3⟩ 34 dead [some true]))=some (Ex.normal,[LV.v (V1.one (At.ptr 0 0)),LV.v (V1.one (At.ptr 2 0)),LV.v (V1.one (At.slx 1 o n c)),LV.v (V1.one (At.int IntKind.i64 (n:Int))),LV.v (V1.one (At.int IntKind.i64 (wr IntKind.i64 (i+1))))],[some { ty:=61,fr:=(0,0),es:=0,cells:=[At.bool (hb||satH (intAt l (o+i.toNat*1)))] },some { ty:=ty,fr:=fr,es:=es,cells:=l },some { ty:=110,fr:=(0,0),es:=0,cells:=[At.int IntKind.i64 (wHi (wVal x y+wVal (wHi (satV (intAt l (o+i.toNat*1))*satV (intAt l (o+i.toNat*1)))) (wLo (satV (intAt l (o+i.toNat*1))*satV (intAt l (o+i.toNat*1)))))),At.int IntKind.u64 (wLo (wVal x y+wVal (wHi (satV (intAt l (o+i.toNat*1))*satV (intAt l (o+i.toNat*1)))) (wLo (satV (intAt l (o+i.toNat*1))*satV (intAt l (o+i.toNat*1))))))] }],[(isI x,true),(isU y,true),(isI (wHi (satV (intAt l (o+i.toNat*1))*satV (intAt l (o+i.toNat*1)))),true),(isU (wLo (satV (intAt l (o+i.toNat*1))*satV (intAt l (o+i.toNat*1)))),true),(isW (wVal x y+wVal (wHi (satV (intAt l (o+i.toNat*1))*satV (intAt l (o+i.toNat*1)))) (wLo (satV (intAt l (o+i.toNat*1))*satV (intAt l (o+i.toNat*1))))),true),(isI (satV (intAt l (o+i.toNat*1))),true),(isI (satV (intAt l (o+i.toNat*1))),true),(isIntAt IntKind.i64 l (o+i.toNat*1),true),(decide (0≤i)&&decide (i<(n:Int)),true),(decide (i<(n:Int)),true)]):=by kernel_rfl
theorem hd (dead:Nat→Value) (hb:Bool) (o n c:Nat) (ty:TypeId) (fr:Nat×Nat) (es:Nat) (l:List At) (x y i:Int):projS [0,5] [0,1,2] (exec Tryz.prog S17 Zl 400 (.code (c1 (c1 (c2 (c1 (c2 (c2 (bodyF Tryz.prog 135)))))))) (Kst.st ⟨[(0,A0),(5,P2),(12,.v (.one (.slx 1 o n c))),(13,.v (.one (.int .i64 n))),(14,.v (.one (.int .i64 i)))],[(0,flag 61 hb),(1,⟨ty,fr,es,l⟩),(2,⟨110,(0,0),0,[.int .i64 x,.int .u64 y]⟩)],3⟩ 34 dead [some false]))=some (Ex.exit 0,[LV.v (V1.one (At.ptr 0 0)),LV.v (V1.one (At.ptr 2 0))],[some { ty:=61,fr:=(0,0),es:=0,cells:=[At.bool hb] },some { ty:=ty,fr:=fr,es:=es,cells:=l },some { ty:=110,fr:=(0,0),es:=0,cells:=[At.int IntKind.i64 x,At.int IntKind.u64 y] }],[(decide (i<(n:Int)),false)]):=by kernel_rfl
theorem he (dead:Nat→Value) (hb:Bool) (ty:TypeId) (fr:Nat×Nat) (es:Nat) (l:List At) (x y:Int):projS [4] [0,1] (exec Tryz.prog S17 Zl 400 (.code (c2 (c2 (c2 (bodyF Tryz.prog 135))))) (Kst.st ⟨[(0,A0),(5,P2)],[(0,flag 61 hb),(1,⟨ty,fr,es,l⟩),(2,⟨110,(0,0),0,[.int .i64 x,.int .u64 y]⟩)],3⟩ 34 dead []))=some (Ex.ret,[LV.v (V1.one (At.int IntKind.i64 (satV (rootW (wVal x y)))))],[some { ty:=61,fr:=(0,0),es:=0,cells:=[At.bool (hb||satH (rootW (wVal x y)))] },some { ty:=ty,fr:=fr,es:=es,cells:=l }],[(decide (x<0),false),(isI x,true),(isU y,true)]):=by kernel_rfl
theorem ha (dead:Nat→Value) (hb:Bool) (o n c:Nat) (ty:TypeId) (fr:Nat×Nat) (es:Nat) (l:List At):projS [0,1,4,5] [0,1,2] (execL Tryz.prog S17 Zl 400 (spineL 2 (bodyF Tryz.prog 135)) (Kst.st ⟨argsL 0 [A0,.v (.one (.slx 1 o n c))],[(0,flag 61 hb),(1,⟨ty,fr,es,l⟩)],2⟩ 34 dead []))=some (Ex.normal,[LV.v (V1.one (At.ptr 0 0)),LV.v (V1.one (At.slx 1 o n c)),LV.v (V1.one (At.int IntKind.i64 0)),LV.v (V1.one (At.ptr 2 0))],[some { ty:=61,fr:=(0,0),es:=0,cells:=[At.bool hb] },some { ty:=ty,fr:=fr,es:=es,cells:=l },some { ty:=110,fr:=(0,0),es:=0,cells:=[At.int IntKind.i64 0,At.int IntKind.u64 0] }],[]):=by kernel_rfl
def sqrtV (a:Int):Int:=if satV a<0 then 0 else satV (rootW (satV a*1073741824))
def sqrtH (a:Int):Bool:=satH a||(decide (satV a<0)||satH (rootW (satV a*1073741824)))
def fsqrtS:List LV→Bool→Option (LV×Bool×List (Bool×Bool))
 | [.v (.one (.int .i64 a))],hb=>some (I (sqrtV a),hb||sqrtH a,[])
 | _,_=>none
theorem sumSqrt:SumOK Tryz.prog 55 (accSum 61 fsqrtS):=by
 refine sumxsqrt.acc_re fun args hb v h' cs hF hc=> ?_
 unfold fsqrtS at hF
 split at hF
 ·rename_i a
  cases hF
  show ∃cs',xsqrtT a hb=_∧_
  unfold xsqrtT sqrtV sqrtH
  have b:=sat_bd a
  have e1:pow2 (Int.toNat 30)=1073741824:=rfl
  rw [e1]
  by_cases h1:satV a<0
  ·rw [cond_t (decide_eq_true h1),if_pos h1,decide_eq_true h1]
   exact ⟨[],by simp [I],ae_nil⟩
  ·rw [cond_f (decide_eq_false h1),if_neg h1,decide_eq_false h1]
   rw [wVal_mk]
   refine ⟨_,rfl.trans (by simp only [I,Bool.or_assoc,Bool.false_or];rfl), ?_⟩
   have h2:=wHi_inI (satV a*1073741824) (by omega) (by omega)
   have h3:absV (satV a)=satV a:=absV_pos (by omega)
   have h4:0≤wHi (satV a*1073741824):=by unfold wHi;omega
   rw [h3,isI_sat,isU_lo]
   simp only [all_tt,all_ff,isI_iff,Bool.and_eq_true,decide_eq_true_eq,decide_eq_false_iff_not]
   exact ⟨by omega,h2,True.intro,True.intro,⟨by omega,by omega⟩,by omega,ae_nil⟩
 ·cases hF
def sqS:List Int→Int
 | []=>0
 | a::l=>satV a*satV a+sqS l
theorem sqS_app (l m:List Int):sqS (l++m)=sqS l+sqS m:=by
 induction l with
 | nil=>simp [sqS]
 | cons a l ih=>simp only [List.cons_append,sqS,ih];omega
theorem sq_bd (a:Int):0≤satV a*satV a∧satV a*satV a≤1329227995784915872903807060280344576:=by
 have h:=satsat a a
 refine ⟨?_,h.2⟩
 by_cases h0:0≤satV a
 ·exact Int.mul_nonneg h0 h0
 ·exact Int.mul_nonneg_of_nonpos_of_nonpos (by omega) (by omega)
theorem sqS_bd (l:List Int):0≤sqS l∧sqS l≤l.length*1329227995784915872903807060280344576:=by
 induction l with
 | nil=>simp [sqS]
 | cons a l ih=>
  have:=sq_bd a
  simp only [sqS,List.length_cons]
  push_cast
  omega
noncomputable def hyBd:Code:=c1 (c2 (c2 (bodyF Tryz.prog 135)))
def hyA (k:Blk) (o n c:Nat) (h:Bool) (v:Int) (i:Int):Kst:=⟨[(0,A0),(5,P2),(12,.v (.one (.slx 1 o n c))),(13,.v (.one (.int .i64 n))),(14,.v (.one (.int .i64 i)))],[(0,flag 61 h),(1,k),(2,wB v)],3⟩
def hyB (k:Blk) (h:Bool) (v:Int):Kst:=⟨[(0,A0),(5,P2)],[(0,flag 61 h),(1,k),(2,wB v)],3⟩
theorem hyStep (k:Blk) (o n c:Nat) (xs:List Int) (hlen:xs.length=n) (hat:IntsAt k.cells o xs) (hok:okL noP k.cells=true) (hn:n≤64) (hb:Bool) (i:Nat) (hi:i<n):
  To Tryz.prog 34 (c1 (c1 (c2 hyBd))) (hyA k o n c (hb||anyH (xs.take i)) (sqS (xs.take i)) i) .normal (hyA k o n c (hb||anyH (xs.take (i+1))) (sqS (xs.take (i+1))) ((i:Int)+1)):=by
 have hi':i<xs.length:=by omega
 have hx:=intAt_of (hat i hi')
 have hs:=take_snoc xs i hi'
 have b0:=sqS_bd (xs.take i)
 rw [List.length_take] at b0
 have b1:=sq_bd xs[i]
 have hm:((min i xs.length:Nat):Int)=i:=by omega
 rw [hm] at b0
 have e1:sqS (xs.take (i+1))=sqS (xs.take i)+satV xs[i]*satV xs[i]:=by rw [hs,sqS_app];simp [sqS]
 have e2:(hb||anyH (xs.take (i+1)))=((hb||anyH (xs.take i))||satH xs[i]):=by rw [hs,anyH_app];simp [anyH,Bool.or_assoc]
 have e3:((i:Int)).toNat*1=i:=by simp
 have e4:wr .i64 ((i:Int)+1)=(i:Int)+1:=w64_in (by omega) (by omega)
 have hI:=isI_sat xs[i]
 obtain ⟨ty,fr,es,l⟩:=k
 rw [e1,e2]
 generalize sqS (xs.take i)=S at *
 have hi2:=wHi_inI S (by omega) (by omega)
 have hl2:=wLo_in S
 have hi3:=wHi_inI (satV xs[i]*satV xs[i]) (by omega) (by omega)
 have hl3:=wLo_in (satV xs[i]*satV xs[i])
 refine To.run (z:=Zl) sound17 (slots:=[0,5,12,13,14]) (blks:=[0,1,2]) (vs:=[A0,P2,.v (.one (.slx 1 o n c)),.v (.one (.int .i64 n)),.v (.one (.int .i64 ((i:Int)+1)))])
  (bs:=[flag 61 ((hb||anyH (xs.take i))||satH xs[i]),⟨ty,fr,es,l⟩,wB (S+satV xs[i]*satV xs[i])]) (nbB:=3)
  (fun dead=>hc dead (hb||anyH (xs.take i)) o n c ty fr es l (wHi S) (wLo S) i) rfl (by rw [e4];rfl) (by rw [e3,hx.1];simp only [wVal_mk];rfl) ?_ (kst_ok rfl (memOK3 (Nat.le_refl _) rfl (okL_mono noP_below hok) rfl)) (Nat.le_refl _)
 rw [e3,hx.1,hx.2,hI]
 simp only [wVal_mk,all_tt,isI_iff,isU_iff,isW_iff,Bool.and_eq_true,decide_eq_true_eq]
 repeat' apply And.intro
 all_goals first | exact ae_nil | exact True.intro | omega
theorem hyEnd (k:Blk) (o n c:Nat) (hok:okL noP k.cells=true) (h:Bool) (v:Int):To Tryz.prog 34 (c1 (c1 (c2 hyBd))) (hyA k o n c h v n) (.exit 0) (hyB k h v):=by
 obtain ⟨ty,fr,es,l⟩:=k
 refine To.exec (z:=Zl) sound17 (slots:=[0,5]) (blks:=[0,1,2]) (vs:=[A0,P2]) (bs:=[flag 61 h,⟨ty,fr,es,l⟩,wB v]) (nbB:=3) (fun dead=>hd dead h o n c ty fr es l (wHi v) (wLo v) n) ?_ (kst_ok rfl (memOK3 (Nat.le_refl _) rfl (okL_mono noP_below hok) rfl)) (Nat.le_refl _)
 simp
theorem hyRd (k:Blk) (o n c:Nat) (xs:List Int) (hlen:xs.length=n) (hat:IntsAt k.cells o xs) (hok:okL noP k.cells=true) (hn:n≤64) (hb:Bool):∀(m i:Nat),i+m=n→
  Rd Tryz.prog 34 (c1 (c1 (c2 hyBd))) (m+1) (hyA k o n c (hb||anyH (xs.take i)) (sqS (xs.take i)) i) (.exit 0) (hyB k (hb||anyH xs) (sqS xs))
 | 0,i,h=>by
  have hi:i=n:=by omega
  subst hi
  rw [←hlen,List.take_length,hlen]
  exact Rd.last (by simp) (hyEnd k o i c hok _ _)
 | m+1,i,h=>by
  have hs:=hyStep k o n c xs hlen hat hok hn hb i (by omega)
  refine Rd.next hs ?_
  exact hyRd k o n c xs hlen hat hok hn hb m (i+1) (by omega)
def hypV (xs:List Int):Int:=satV (rootW (sqS (xs.take 64)))
def hypH (xs:List Int):Bool:=anyH (xs.take 64)||satH (rootW (sqS (xs.take 64)))
def fhypS:List AV→Bool→Option (LV×Bool×List (Bool×Bool))
 | [.ints xs],hb=>some (I (hypV xs),hb||hypH xs,[])
 | _,_=>none
theorem hnil (hb:Bool):(runF Tryz.prog S17 Zl 2000 135 [A0,.v (.one .nilsl)] [(0,flag 61 hb)] 1 []).map (fun r=>(r.1,getM r.2.1 0,r.2.2.2))=some (I (hypV []),some (flag 61 (hb||hypH [])),[(decide ((0:Int)<0),false),(isI 0,true),(isU 0,true)]):=by kernel_rfl
theorem IntsAt.take {l:List At} {o:Nat} {xs:List Int} (h:IntsAt l o xs) (m:Nat):IntsAt l o (xs.take m):=by
 intro j hj
 rw [List.length_take] at hj
 have:=h j (by omega)
 rw [this,List.getElem_take]
theorem sumHyp:SumOK Tryz.prog 135 (acSum 61 1 fhypS):=by
 refine acSum1_ok (own_of sound17 Tryz.func135 (by kernel_rfl)) (fun avs hb r h=> ?_) fun pre xs hb v h' cs hF hcc hp hv=> ?_
 ·unfold fhypS at h
  split at h
  ·exact ⟨[],_,rfl⟩
  ·cases h
 ·have hpre:pre=[]:=by
   cases pre with
   | nil=>rfl
   | cons p pre=>
    simp only [List.map_cons,List.cons_append] at hF
    unfold fhypS at hF
    split at hF
    ·rename_i he;simp at he
    ·cases hF
  subst hpre
  have hF':some (I (hypV xs),hb||hypH xs,[])=some (v,h',cs):=hF
  cases hF'
  refine ⟨fun k o n c hk hnc E w hrel=> ?_,fun hx E w hrel=> ?_⟩
  ·have hlen:xs.length=n:=by have:=hk.1;omega
   have hok:=hk.2.2
   have hat:=IntsAt.take hk.2.1 64
   have hlt:(xs.take 64).length=min n 64:=by rw [List.length_take];omega
   have hR:=hyRd k o (min n 64) c (xs.take 64) hlt hat hok (by omega) hb (min n 64) 0 (by omega)
   have b0:=sqS_bd (xs.take 64)
   rw [hlt] at b0
   have hi2:=wHi_inI (sqS (xs.take 64)) (by omega) (by omega)
   have hl2:=wLo_in (sqS (xs.take 64))
   have hh0:0≤wHi (sqS (xs.take 64)):=by unfold wHi;omega
   have eI:(if (64:Int) < ↑n then 64 else (↑n:Int))=((min n 64:Nat):Int):=by split <;> omega
   have eN:((min n 64:Nat):Int).toNat - (Int.ofNat 0).toNat=min n 64:=by simp
   have eO:(if c=(Int.ofNat 0).toNat then o else o+(Int.ofNat 0).toNat*1)=o:=by split <;> simp
   have eC:c - (Int.ofNat 0).toNat=c:=by simp
   obtain ⟨ty,fr,es,l⟩:=k
   refine lcl_of_To (c:=bodyF Tryz.prog 135) (e:= .ret) (nb:=2) (B:=⟨[(4,.v (.one (.int .i64 (hypV xs))))],[(0,flag 61 (hb||hypH xs)),(1,⟨ty,fr,es,l⟩)],3⟩) Tryz.func135 (by kernel_rfl) (Nat.le_of_ble_eq_true (by kernel_rfl)) (Nat.le_of_ble_eq_true (by kernel_rfl))
    (fun u hu=> ?_) (memOK2 (Nat.le_refl _) rfl (okL_mono noP_below hok)) ?_ (.inr rfl) (fun dead=>by kernel_rfl) rfl (fun i b hib=> ?_) E w hrel
   ·simp only [List.nil_append,List.mem_cons,List.not_mem_nil,or_false] at hu
    rcases hu with rfl | rfl <;> rfl
   ·refine To.spineR (z:=Zl) sound17 (k:=2) (slots:=[0,1,4,5]) (blks:=[0,1,2]) (vs:=[A0,.v (.one (.slx 1 o n c)),.v (.one (.int .i64 0)),P2]) (bs:=[flag 61 hb,⟨ty,fr,es,l⟩,wB 0]) (nbB:=3) (by kernel_rfl) (fun dead=>ha dead hb o n c ty fr es l) rfl rfl rfl (by simp) (kst_ok rfl (memOK3 (Nat.le_refl _) rfl (okL_mono noP_below hok) rfl)) (Nat.le_succ 2) ?_
    refine To.seq (by kernel_rfl) (To.seq (by kernel_rfl) (To.run (z:=Zl) sound17 (slots:=[0,5,12,13,14]) (blks:=[0,1,2]) (vs:=[A0,P2,.v (.one (.slx 1 o (min n 64) c)),.v (.one (.int .i64 ((min n 64:Nat):Int))),.v (.one (.int .i64 0))]) (bs:=[flag 61 hb,⟨ty,fr,es,l⟩,wB 0]) (nbB:=3) (fun dead=>Go.Proofs.YtnlhpaidmiogbaaGreat.hb dead hb o n c ty fr es l 0 0) rfl (by simp only [eI,eN,eO,eC];rfl) rfl ?_ (kst_ok rfl (memOK3 (Nat.le_refl _) rfl (okL_mono noP_below hok) rfl)) (Nat.le_refl _))
     (To.block (id:=0) (by kernel_rfl) (To.loop (m:=min n 64+1) (by kernel_rfl) ?_) (.inl rfl))) (C:=_) (B:=hyB ⟨ty,fr,es,l⟩ (hb||anyH (xs.take 64)) (sqS (xs.take 64))) ?_
    ·simp only [eI,all_tt,Bool.and_eq_true,decide_eq_true_eq]
     have e0:Int.ofNat 0=0:=rfl
     rw [e0]
     exact ⟨⟨by omega,by omega,by omega⟩,ae_nil⟩
    ·have h0:hyA ⟨ty,fr,es,l⟩ o (min n 64) c (hb||anyH ((xs.take 64).take 0)) (sqS ((xs.take 64).take 0)) ((0:Nat):Int)=⟨[0,5,12,13,14].zip [A0,P2,.v (.one (.slx 1 o (min n 64) c)),.v (.one (.int .i64 ((min n 64:Nat):Int))),.v (.one (.int .i64 0))],[0,1,2].zip [flag 61 hb,⟨ty,fr,es,l⟩,wB 0],3⟩:=by
      unfold hyA
      simp only [List.take_zero,anyH,Bool.or_false,sqS]
      rfl
     rw [←h0]
     exact hR
    ·refine To.run (z:=Zl) sound17 (slots:=[4]) (blks:=[0,1]) (vs:=[.v (.one (.int .i64 (hypV xs)))]) (bs:=[flag 61 (hb||hypH xs),⟨ty,fr,es,l⟩]) (nbB:=3) (fun dead=>he dead (hb||anyH (xs.take 64)) ty fr es l (wHi (sqS (xs.take 64))) (wLo (sqS (xs.take 64)))) rfl ?_ ?_ ?_ (kst_ok rfl (memOK2 (Nat.le_succ 2) rfl (okL_mono noP_below hok))) (Nat.le_refl _)
     ·rw [wVal_mk];rfl
     ·rw [wVal_mk,Bool.or_assoc];rfl
     ·simp only [all_tt,all_ff,isI_iff,isU_iff,decide_eq_false_iff_not]
      exact ⟨by omega,hi2,hl2,ae_nil⟩
   ·rcases get2 hib with ⟨rfl,rfl⟩ | ⟨rfl,rfl⟩
    ·exact ⟨rfl,by decide,rfl⟩
    ·exact ⟨rfl,by decide,okL_mono noP_below hok⟩
  ·subst hx
   have hrun:=hnil hb
   cases hq:runF Tryz.prog S17 Zl 2000 135 [A0,.v (.one .nilsl)] [(0,flag 61 hb)] 1 [] with
   | none=>rw [hq] at hrun;cases hrun
   | some q=>
    obtain ⟨v',m2,nb',cs'⟩:=q
    rw [hq] at hrun
    simp only [Option.map_some,Option.some.injEq,Prod.mk.injEq] at hrun
    obtain ⟨rfl,hm2,rfl⟩:=hrun
    exact lcl_of_run sound17 hq (m':=[(0,flag 61 (hb||hypH []))]) (fun i c hic=>by
      obtain ⟨rfl,rfl⟩:=get1 hic
      exact ⟨hm2,Nat.zero_lt_one,rfl⟩) (ae_cons rfl (ae_cons rfl (ae_cons rfl ae_nil))) rfl (fun a ha=>by
      simp only [List.mem_cons,List.not_mem_nil,or_false] at ha
      rcases ha with rfl | rfl <;> rfl) rfl E w hrel
def S18:FuncId→Option SumK:=more (more S17 55 (accSum 61 fsqrtS)) 135 (acSum 61 1 fhypS)
theorem sound18:Sound Tryz.prog S18:=(sound17.more sumSqrt).more sumHyp
end Go.Proofs.YtnlhpaidmiogbaaGreat

/- fx.Dot: its walk, round by round. -/
namespace Go.Proofs.YtnlhpaidmiogbaaGreat
open Go.Lr
set_option linter.unusedVariables false
set_option linter.unusedSimpArgs false
theorem dot_two_a (dead:Nat→Value) (hb:Bool) (s:Int) (oa na ca ob nn cb:Nat) (ty:TypeId) (fr:Nat×Nat) (es:Nat) (l:List At) (ty2:TypeId) (fr2:Nat×Nat) (es2:Nat) (l2:List At):projS [0,1,2,3,9] [0,1,2,3] (execL Tryz.prog S18 Zl 400 (spineL 3 (bodyF Tryz.prog 81)) (Kst.st ⟨argsL 0 [A0,I s,SLX 1 oa na ca,SLX 2 ob nn cb],[(0,flag 61 hb),(1,⟨ty,fr,es,l⟩),(2,⟨ty2,fr2,es2,l2⟩)],3⟩ 53 dead [some false,some false,some false,some false]))=some (Ex.normal,[LV.v (V1.one (At.ptr 0 0)),LV.v (V1.one (At.int IntKind.i64 s)),LV.v (V1.one (At.slx 1 oa na ca)),LV.v (V1.one (At.slx 2 ob nn cb)),LV.v (V1.one (At.ptr 3 0))],[some { ty:=61,fr:=(0,0),es:=0,cells:=[At.bool hb] },some { ty:=ty,fr:=fr,es:=es,cells:=l },some { ty:=ty2,fr:=fr2,es:=es2,cells:=l2 },some { ty:=110,fr:=(0,0),es:=0,cells:=[At.int IntKind.i64 0,At.int IntKind.u64 0] }],[(decide (s>120),false),(decide (s<0),false),(decide (s<0),false),(decide (s<0),false)]):=by kernel_rfl
theorem dot_two_b (dead:Nat→Value) (hb:Bool) (s:Int) (oa na ca ob nn cb:Nat) (ty:TypeId) (fr:Nat×Nat) (es:Nat) (l:List At) (ty2:TypeId) (fr2:Nat×Nat) (es2:Nat) (l2:List At) (x y:Int):projS [0,1,2,3,9,25,26] [0,1,2,3] (exec Tryz.prog S18 Zl 400 (.code (c1 (c1 (c2 (c2 (c2 (bodyF Tryz.prog 81))))))) (Kst.st ⟨[(0,A0),(1,I s),(2,SLX 1 oa na ca),(3,SLX 2 ob nn cb),(9,.v (.one (.ptr 3 0)))],[(0,flag 61 hb),(1,⟨ty,fr,es,l⟩),(2,⟨ty2,fr2,es2,l2⟩),(3,⟨110,(0,0),0,[.int .i64 x,.int .u64 y]⟩)],4⟩ 53 dead []))=some (Ex.normal,[LV.v (V1.one (At.ptr 0 0)),LV.v (V1.one (At.int IntKind.i64 s)),LV.v (V1.one (At.slx 1 oa na ca)),LV.v (V1.one (At.slx 2 ob nn cb)),LV.v (V1.one (At.ptr 3 0)),LV.v (V1.one (At.int IntKind.i64 (if 100<if (nn:Int)<(na:Int) then (nn:Int) else (na:Int) then 100 else if (nn:Int)<(na:Int) then (nn:Int) else (na:Int)))),LV.v (V1.one (At.int IntKind.i64 0))],[some { ty:=61,fr:=(0,0),es:=0,cells:=[At.bool hb] },some { ty:=ty,fr:=fr,es:=es,cells:=l },some { ty:=ty2,fr:=fr2,es:=es2,cells:=l2 },some { ty:=110,fr:=(0,0),es:=0,cells:=[At.int IntKind.i64 x,At.int IntKind.u64 y] }],[]):=by kernel_rfl
theorem dot_two_c (dead:Nat→Value) (hb:Bool) (s:Int) (oa na ca ob nn cb:Nat) (ty:TypeId) (fr:Nat×Nat) (es:Nat) (l:List At) (ty2:TypeId) (fr2:Nat×Nat) (es2:Nat) (l2:List At) (x y:Int) (mm i:Int):projS [0,1,2,3,9,25,26] [0,1,2,3] (exec Tryz.prog S18 Zl 400 (.code (c1 (c1 (c2 (c1 (c2 (c2 (c2 (bodyF Tryz.prog 81))))))))) (Kst.st ⟨[(0,A0),(1,I s),(2,SLX 1 oa na ca),(3,SLX 2 ob nn cb),(9,.v (.one (.ptr 3 0))),(25,I mm),(26,I i)],[(0,flag 61 hb),(1,⟨ty,fr,es,l⟩),(2,⟨ty2,fr2,es2,l2⟩),(3,⟨110,(0,0),0,[.int .i64 x,.int .u64 y]⟩)],4⟩ 53 dead [some true]))=some (Ex.normal,[LV.v (V1.one (At.ptr 0 0)),LV.v (V1.one (At.int IntKind.i64 s)),LV.v (V1.one (At.slx 1 oa na ca)),LV.v (V1.one (At.slx 2 ob nn cb)),LV.v (V1.one (At.ptr 3 0)),LV.v (V1.one (At.int IntKind.i64 mm)),LV.v (V1.one (At.int IntKind.i64 (wr IntKind.i64 (i+1))))],[some { ty:=61,fr:=(0,0),es:=0,cells:=[At.bool (hb||satH (intAt l (oa+i.toNat*1))||satH (intAt l2 (ob+i.toNat*1)))] },some { ty:=ty,fr:=fr,es:=es,cells:=l },some { ty:=ty2,fr:=fr2,es:=es2,cells:=l2 },some { ty:=110,fr:=(0,0),es:=0,cells:=[At.int IntKind.i64 (wHi (wVal x y+wVal (wHi (satV (intAt l (oa+i.toNat*1))*satV (intAt l2 (ob+i.toNat*1)))) (wLo (satV (intAt l (oa+i.toNat*1))*satV (intAt l2 (ob+i.toNat*1)))))),At.int IntKind.u64 (wLo (wVal x y+wVal (wHi (satV (intAt l (oa+i.toNat*1))*satV (intAt l2 (ob+i.toNat*1)))) (wLo (satV (intAt l (oa+i.toNat*1))*satV (intAt l2 (ob+i.toNat*1))))))] }],[(isI x,true),(isU y,true),(isI (wHi (satV (intAt l (oa+i.toNat*1))*satV (intAt l2 (ob+i.toNat*1)))),true),(isU (wLo (satV (intAt l (oa+i.toNat*1))*satV (intAt l2 (ob+i.toNat*1)))),true),(isW (wVal x y+wVal (wHi (satV (intAt l (oa+i.toNat*1))*satV (intAt l2 (ob+i.toNat*1)))) (wLo (satV (intAt l (oa+i.toNat*1))*satV (intAt l2 (ob+i.toNat*1))))),true),(isI (satV (intAt l (oa+i.toNat*1))),true),(isI (satV (intAt l2 (ob+i.toNat*1))),true),(isIntAt IntKind.i64 l2 (ob+i.toNat*1),true),(decide (0≤i)&&decide (i<(nn:Int)),true),(isIntAt IntKind.i64 l (oa+i.toNat*1),true),(decide (0≤i)&&decide (i<(na:Int)),true),(decide (i<mm),true)]):=by kernel_rfl
theorem dot_two_d (dead:Nat→Value) (hb:Bool) (s:Int) (oa na ca ob nn cb:Nat) (ty:TypeId) (fr:Nat×Nat) (es:Nat) (l:List At) (ty2:TypeId) (fr2:Nat×Nat) (es2:Nat) (l2:List At) (x y:Int) (mm i:Int):projS [0,1,9] [0,1,2,3] (exec Tryz.prog S18 Zl 400 (.code (c1 (c1 (c2 (c1 (c2 (c2 (c2 (bodyF Tryz.prog 81))))))))) (Kst.st ⟨[(0,A0),(1,I s),(2,SLX 1 oa na ca),(3,SLX 2 ob nn cb),(9,.v (.one (.ptr 3 0))),(25,I mm),(26,I i)],[(0,flag 61 hb),(1,⟨ty,fr,es,l⟩),(2,⟨ty2,fr2,es2,l2⟩),(3,⟨110,(0,0),0,[.int .i64 x,.int .u64 y]⟩)],4⟩ 53 dead [some false]))=some (Ex.exit 0,[LV.v (V1.one (At.ptr 0 0)),LV.v (V1.one (At.int IntKind.i64 s)),LV.v (V1.one (At.ptr 3 0))],[some { ty:=61,fr:=(0,0),es:=0,cells:=[At.bool hb] },some { ty:=ty,fr:=fr,es:=es,cells:=l },some { ty:=ty2,fr:=fr2,es:=es2,cells:=l2 },some { ty:=110,fr:=(0,0),es:=0,cells:=[At.int IntKind.i64 x,At.int IntKind.u64 y] }],[(decide (i<mm),false)]):=by kernel_rfl
theorem dot_two_e (dead:Nat→Value) (hb:Bool) (s:Int) (oa na ca ob nn cb:Nat) (ty:TypeId) (fr:Nat×Nat) (es:Nat) (l:List At) (ty2:TypeId) (fr2:Nat×Nat) (es2:Nat) (l2:List At) (x y:Int):projS [8] [0,1,2] (exec Tryz.prog S18 Zl 400 (.code (c2 (c2 (c2 (c2 (bodyF Tryz.prog 81)))))) (Kst.st ⟨[(0,A0),(1,I s),(9,.v (.one (.ptr 3 0)))],[(0,flag 61 hb),(1,⟨ty,fr,es,l⟩),(2,⟨ty2,fr2,es2,l2⟩),(3,⟨110,(0,0),0,[.int .i64 x,.int .u64 y]⟩)],4⟩ 53 dead []))=some (Ex.ret,[LV.v (V1.one (At.int IntKind.i64 (rndS (wVal x y) s)))],[some { ty:=61,fr:=(0,0),es:=0,cells:=[At.bool (hb||rndH (wVal x y) s)] },some { ty:=ty,fr:=fr,es:=es,cells:=l },some { ty:=ty2,fr:=fr2,es:=es2,cells:=l2 }],[(isI x,true),(isU y,true)]):=by kernel_rfl
theorem dot_one_a (dead:Nat→Value) (hb:Bool) (s:Int) (oa na ca ob nn cb:Nat) (ty:TypeId) (fr:Nat×Nat) (es:Nat) (l:List At):projS [0,1,2,3,9] [0,1,3] (execL Tryz.prog S18 Zl 400 (spineL 3 (bodyF Tryz.prog 81)) (Kst.st ⟨argsL 0 [A0,I s,SLX 1 oa na ca,SLX 1 ob nn cb],[(0,flag 61 hb),(1,⟨ty,fr,es,l⟩)],3⟩ 53 dead [some false,some false,some false,some false]))=some (Ex.normal,[LV.v (V1.one (At.ptr 0 0)),LV.v (V1.one (At.int IntKind.i64 s)),LV.v (V1.one (At.slx 1 oa na ca)),LV.v (V1.one (At.slx 1 ob nn cb)),LV.v (V1.one (At.ptr 3 0))],[some { ty:=61,fr:=(0,0),es:=0,cells:=[At.bool hb] },some { ty:=ty,fr:=fr,es:=es,cells:=l },some { ty:=110,fr:=(0,0),es:=0,cells:=[At.int IntKind.i64 0,At.int IntKind.u64 0] }],[(decide (s>120),false),(decide (s<0),false),(decide (s<0),false),(decide (s<0),false)]):=by kernel_rfl
theorem dot_one_b (dead:Nat→Value) (hb:Bool) (s:Int) (oa na ca ob nn cb:Nat) (ty:TypeId) (fr:Nat×Nat) (es:Nat) (l:List At) (x y:Int):projS [0,1,2,3,9,25,26] [0,1,3] (exec Tryz.prog S18 Zl 400 (.code (c1 (c1 (c2 (c2 (c2 (bodyF Tryz.prog 81))))))) (Kst.st ⟨[(0,A0),(1,I s),(2,SLX 1 oa na ca),(3,SLX 1 ob nn cb),(9,.v (.one (.ptr 3 0)))],[(0,flag 61 hb),(1,⟨ty,fr,es,l⟩),(3,⟨110,(0,0),0,[.int .i64 x,.int .u64 y]⟩)],4⟩ 53 dead []))=some (Ex.normal,[LV.v (V1.one (At.ptr 0 0)),LV.v (V1.one (At.int IntKind.i64 s)),LV.v (V1.one (At.slx 1 oa na ca)),LV.v (V1.one (At.slx 1 ob nn cb)),LV.v (V1.one (At.ptr 3 0)),LV.v (V1.one (At.int IntKind.i64 (if 100<if (nn:Int)<(na:Int) then (nn:Int) else (na:Int) then 100 else if (nn:Int)<(na:Int) then (nn:Int) else (na:Int)))),LV.v (V1.one (At.int IntKind.i64 0))],[some { ty:=61,fr:=(0,0),es:=0,cells:=[At.bool hb] },some { ty:=ty,fr:=fr,es:=es,cells:=l },some { ty:=110,fr:=(0,0),es:=0,cells:=[At.int IntKind.i64 x,At.int IntKind.u64 y] }],[]):=by kernel_rfl
theorem dot_one_c (dead:Nat→Value) (hb:Bool) (s:Int) (oa na ca ob nn cb:Nat) (ty:TypeId) (fr:Nat×Nat) (es:Nat) (l:List At) (x y:Int) (mm i:Int):projS [0,1,2,3,9,25,26] [0,1,3] (exec Tryz.prog S18 Zl 400 (.code (c1 (c1 (c2 (c1 (c2 (c2 (c2 (bodyF Tryz.prog 81))))))))) (Kst.st ⟨[(0,A0),(1,I s),(2,SLX 1 oa na ca),(3,SLX 1 ob nn cb),(9,.v (.one (.ptr 3 0))),(25,I mm),(26,I i)],[(0,flag 61 hb),(1,⟨ty,fr,es,l⟩),(3,⟨110,(0,0),0,[.int .i64 x,.int .u64 y]⟩)],4⟩ 53 dead [some true]))=some (Ex.normal,[LV.v (V1.one (At.ptr 0 0)),LV.v (V1.one (At.int IntKind.i64 s)),LV.v (V1.one (At.slx 1 oa na ca)),LV.v (V1.one (At.slx 1 ob nn cb)),LV.v (V1.one (At.ptr 3 0)),LV.v (V1.one (At.int IntKind.i64 mm)),LV.v (V1.one (At.int IntKind.i64 (wr IntKind.i64 (i+1))))],[some { ty:=61,fr:=(0,0),es:=0,cells:=[At.bool (hb||satH (intAt l (oa+i.toNat*1))||satH (intAt l (ob+i.toNat*1)))] },some { ty:=ty,fr:=fr,es:=es,cells:=l },some { ty:=110,fr:=(0,0),es:=0,cells:=[At.int IntKind.i64 (wHi (wVal x y+wVal (wHi (satV (intAt l (oa+i.toNat*1))*satV (intAt l (ob+i.toNat*1)))) (wLo (satV (intAt l (oa+i.toNat*1))*satV (intAt l (ob+i.toNat*1)))))),At.int IntKind.u64 (wLo (wVal x y+wVal (wHi (satV (intAt l (oa+i.toNat*1))*satV (intAt l (ob+i.toNat*1)))) (wLo (satV (intAt l (oa+i.toNat*1))*satV (intAt l (ob+i.toNat*1))))))] }],[(isI x,true),(isU y,true),(isI (wHi (satV (intAt l (oa+i.toNat*1))*satV (intAt l (ob+i.toNat*1)))),true),(isU (wLo (satV (intAt l (oa+i.toNat*1))*satV (intAt l (ob+i.toNat*1)))),true),(isW (wVal x y+wVal (wHi (satV (intAt l (oa+i.toNat*1))*satV (intAt l (ob+i.toNat*1)))) (wLo (satV (intAt l (oa+i.toNat*1))*satV (intAt l (ob+i.toNat*1))))),true),(isI (satV (intAt l (oa+i.toNat*1))),true),(isI (satV (intAt l (ob+i.toNat*1))),true),(isIntAt IntKind.i64 l (ob+i.toNat*1),true),(decide (0≤i)&&decide (i<(nn:Int)),true),(isIntAt IntKind.i64 l (oa+i.toNat*1),true),(decide (0≤i)&&decide (i<(na:Int)),true),(decide (i<mm),true)]):=by kernel_rfl
theorem dot_one_d (dead:Nat→Value) (hb:Bool) (s:Int) (oa na ca ob nn cb:Nat) (ty:TypeId) (fr:Nat×Nat) (es:Nat) (l:List At) (x y:Int) (mm i:Int):projS [0,1,9] [0,1,3] (exec Tryz.prog S18 Zl 400 (.code (c1 (c1 (c2 (c1 (c2 (c2 (c2 (bodyF Tryz.prog 81))))))))) (Kst.st ⟨[(0,A0),(1,I s),(2,SLX 1 oa na ca),(3,SLX 1 ob nn cb),(9,.v (.one (.ptr 3 0))),(25,I mm),(26,I i)],[(0,flag 61 hb),(1,⟨ty,fr,es,l⟩),(3,⟨110,(0,0),0,[.int .i64 x,.int .u64 y]⟩)],4⟩ 53 dead [some false]))=some (Ex.exit 0,[LV.v (V1.one (At.ptr 0 0)),LV.v (V1.one (At.int IntKind.i64 s)),LV.v (V1.one (At.ptr 3 0))],[some { ty:=61,fr:=(0,0),es:=0,cells:=[At.bool hb] },some { ty:=ty,fr:=fr,es:=es,cells:=l },some { ty:=110,fr:=(0,0),es:=0,cells:=[At.int IntKind.i64 x,At.int IntKind.u64 y] }],[(decide (i<mm),false)]):=by kernel_rfl
theorem dot_one_e (dead:Nat→Value) (hb:Bool) (s:Int) (oa na ca ob nn cb:Nat) (ty:TypeId) (fr:Nat×Nat) (es:Nat) (l:List At) (x y:Int):projS [8] [0,1] (exec Tryz.prog S18 Zl 400 (.code (c2 (c2 (c2 (c2 (bodyF Tryz.prog 81)))))) (Kst.st ⟨[(0,A0),(1,I s),(9,.v (.one (.ptr 3 0)))],[(0,flag 61 hb),(1,⟨ty,fr,es,l⟩),(3,⟨110,(0,0),0,[.int .i64 x,.int .u64 y]⟩)],4⟩ 53 dead []))=some (Ex.ret,[LV.v (V1.one (At.int IntKind.i64 (rndS (wVal x y) s)))],[some { ty:=61,fr:=(0,0),es:=0,cells:=[At.bool (hb||rndH (wVal x y) s)] },some { ty:=ty,fr:=fr,es:=es,cells:=l }],[(isI x,true),(isU y,true)]):=by kernel_rfl
theorem dn_two_neg (hb:Bool) (s:Int) (oa na ca ob nn cb:Nat) (ty:TypeId) (fr:Nat×Nat) (es:Nat) (l:List At) (ty2:TypeId) (fr2:Nat×Nat) (es2:Nat) (l2:List At):(runF Tryz.prog S18 Zl 2000 81 [A0,I s,SLX 1 oa na ca,SLX 2 ob nn cb] [(0,flag 61 hb),(1,⟨ty,fr,es,l⟩),(2,⟨ty2,fr2,es2,l2⟩)] 3 [some true,some true,some true,none]).map (fun r=>(r.1,getM r.2.1 0,getM r.2.1 1,getM r.2.1 2,r.2.2.2))=some (LV.v (V1.one (At.int IntKind.i64 (rndS (wVal 0 0) s))),some { ty:=61,fr:=(0,0),es:=0,cells:=[At.bool (hb||rndH (wVal 0 0) s)] },some { ty:=ty,fr:=fr,es:=es,cells:=l },some { ty:=ty2,fr:=fr2,es:=es2,cells:=l2 },[(isI 0,true),(isU 0,true),(decide (s<0),true),(decide (s<0),true),(decide (s<0),true)]):=by kernel_rfl
theorem dn_two_big (hb:Bool) (s:Int) (oa na ca ob nn cb:Nat) (ty:TypeId) (fr:Nat×Nat) (es:Nat) (l:List At) (ty2:TypeId) (fr2:Nat×Nat) (es2:Nat) (l2:List At):(runF Tryz.prog S18 Zl 2000 81 [A0,I s,SLX 1 oa na ca,SLX 2 ob nn cb] [(0,flag 61 hb),(1,⟨ty,fr,es,l⟩),(2,⟨ty2,fr2,es2,l2⟩)] 3 [some false,some false,some false,some true]).map (fun r=>(r.1,getM r.2.1 0,getM r.2.1 1,getM r.2.1 2,r.2.2.2))=some (LV.v (V1.one (At.int IntKind.i64 (rndS (wVal 0 0) s))),some { ty:=61,fr:=(0,0),es:=0,cells:=[At.bool (hb||rndH (wVal 0 0) s)] },some { ty:=ty,fr:=fr,es:=es,cells:=l },some { ty:=ty2,fr:=fr2,es:=es2,cells:=l2 },[(isI 0,true),(isU 0,true),(decide (s>120),true),(decide (s<0),false),(decide (s<0),false),(decide (s<0),false)]):=by kernel_rfl
theorem dn_one_neg (hb:Bool) (s:Int) (oa na ca ob nn cb:Nat) (ty:TypeId) (fr:Nat×Nat) (es:Nat) (l:List At) (ty2:TypeId) (fr2:Nat×Nat) (es2:Nat) (l2:List At):(runF Tryz.prog S18 Zl 2000 81 [A0,I s,SLX 1 oa na ca,SLX 1 ob nn cb] [(0,flag 61 hb),(1,⟨ty,fr,es,l⟩)] 3 [some true,some true,some true,none]).map (fun r=>(r.1,getM r.2.1 0,getM r.2.1 1,getM r.2.1 2,r.2.2.2))=some (LV.v (V1.one (At.int IntKind.i64 (rndS (wVal 0 0) s))),some { ty:=61,fr:=(0,0),es:=0,cells:=[At.bool (hb||rndH (wVal 0 0) s)] },some { ty:=ty,fr:=fr,es:=es,cells:=l },none,[(isI 0,true),(isU 0,true),(decide (s<0),true),(decide (s<0),true),(decide (s<0),true)]):=by kernel_rfl
theorem dn_one_big (hb:Bool) (s:Int) (oa na ca ob nn cb:Nat) (ty:TypeId) (fr:Nat×Nat) (es:Nat) (l:List At) (ty2:TypeId) (fr2:Nat×Nat) (es2:Nat) (l2:List At):(runF Tryz.prog S18 Zl 2000 81 [A0,I s,SLX 1 oa na ca,SLX 1 ob nn cb] [(0,flag 61 hb),(1,⟨ty,fr,es,l⟩)] 3 [some false,some false,some false,some true]).map (fun r=>(r.1,getM r.2.1 0,getM r.2.1 1,getM r.2.1 2,r.2.2.2))=some (LV.v (V1.one (At.int IntKind.i64 (rndS (wVal 0 0) s))),some { ty:=61,fr:=(0,0),es:=0,cells:=[At.bool (hb||rndH (wVal 0 0) s)] },some { ty:=ty,fr:=fr,es:=es,cells:=l },none,[(isI 0,true),(isU 0,true),(decide (s>120),true),(decide (s<0),false),(decide (s<0),false),(decide (s<0),false)]):=by kernel_rfl
theorem dn_left_neg (hb:Bool) (s:Int) (oa na ca ob nn cb:Nat) (ty:TypeId) (fr:Nat×Nat) (es:Nat) (l:List At) (ty2:TypeId) (fr2:Nat×Nat) (es2:Nat) (l2:List At):(runF Tryz.prog S18 Zl 2000 81 [A0,I s,SLX 1 oa na ca,NIL] [(0,flag 61 hb),(1,⟨ty,fr,es,l⟩)] 2 [some true,some true,some true,none]).map (fun r=>(r.1,getM r.2.1 0,getM r.2.1 1,getM r.2.1 2,r.2.2.2))=some (LV.v (V1.one (At.int IntKind.i64 (rndS (wVal 0 0) s))),some { ty:=61,fr:=(0,0),es:=0,cells:=[At.bool (hb||rndH (wVal 0 0) s)] },some { ty:=ty,fr:=fr,es:=es,cells:=l },none,[(isI 0,true),(isU 0,true),(decide (s<0),true),(decide (s<0),true),(decide (s<0),true)]):=by kernel_rfl
theorem dn_left_big (hb:Bool) (s:Int) (oa na ca ob nn cb:Nat) (ty:TypeId) (fr:Nat×Nat) (es:Nat) (l:List At) (ty2:TypeId) (fr2:Nat×Nat) (es2:Nat) (l2:List At):(runF Tryz.prog S18 Zl 2000 81 [A0,I s,SLX 1 oa na ca,NIL] [(0,flag 61 hb),(1,⟨ty,fr,es,l⟩)] 2 [some false,some false,some false,some true]).map (fun r=>(r.1,getM r.2.1 0,getM r.2.1 1,getM r.2.1 2,r.2.2.2))=some (LV.v (V1.one (At.int IntKind.i64 (rndS (wVal 0 0) s))),some { ty:=61,fr:=(0,0),es:=0,cells:=[At.bool (hb||rndH (wVal 0 0) s)] },some { ty:=ty,fr:=fr,es:=es,cells:=l },none,[(isI 0,true),(isU 0,true),(decide (s>120),true),(decide (s<0),false),(decide (s<0),false),(decide (s<0),false)]):=by kernel_rfl
theorem dn_left_in (hb:Bool) (s:Int) (oa na ca ob nn cb:Nat) (ty:TypeId) (fr:Nat×Nat) (es:Nat) (l:List At) (ty2:TypeId) (fr2:Nat×Nat) (es2:Nat) (l2:List At):(runF Tryz.prog S18 Zl 2000 81 [A0,I s,SLX 1 oa na ca,NIL] [(0,flag 61 hb),(1,⟨ty,fr,es,l⟩)] 2 [some false,some false,some false,some false,some false]).map (fun r=>(r.1,getM r.2.1 0,getM r.2.1 1,getM r.2.1 2,r.2.2.2))=some (LV.v (V1.one (At.int IntKind.i64 (rndS (wVal 0 0) s))),some { ty:=61,fr:=(0,0),es:=0,cells:=[At.bool (hb||rndH (wVal 0 0) s)] },some { ty:=ty,fr:=fr,es:=es,cells:=l },some { ty:=110,fr:=(0,0),es:=0,cells:=[At.int IntKind.i64 0,At.int IntKind.u64 0] },[(isI 0,true),(isU 0,true),(decide (0<if 100<if 0<(na:Int) then 0 else (na:Int) then 100 else if 0<(na:Int) then 0 else (na:Int)),false),(decide (s>120),false),(decide (s<0),false),(decide (s<0),false),(decide (s<0),false)]):=by kernel_rfl
theorem dn_right_neg (hb:Bool) (s:Int) (oa na ca ob nn cb:Nat) (ty:TypeId) (fr:Nat×Nat) (es:Nat) (l:List At) (ty2:TypeId) (fr2:Nat×Nat) (es2:Nat) (l2:List At):(runF Tryz.prog S18 Zl 2000 81 [A0,I s,NIL,SLX 1 ob nn cb] [(0,flag 61 hb),(1,⟨ty,fr,es,l⟩)] 2 [some true,some true,some true,none]).map (fun r=>(r.1,getM r.2.1 0,getM r.2.1 1,getM r.2.1 2,r.2.2.2))=some (LV.v (V1.one (At.int IntKind.i64 (rndS (wVal 0 0) s))),some { ty:=61,fr:=(0,0),es:=0,cells:=[At.bool (hb||rndH (wVal 0 0) s)] },some { ty:=ty,fr:=fr,es:=es,cells:=l },none,[(isI 0,true),(isU 0,true),(decide (s<0),true),(decide (s<0),true),(decide (s<0),true)]):=by kernel_rfl
theorem dn_right_big (hb:Bool) (s:Int) (oa na ca ob nn cb:Nat) (ty:TypeId) (fr:Nat×Nat) (es:Nat) (l:List At) (ty2:TypeId) (fr2:Nat×Nat) (es2:Nat) (l2:List At):(runF Tryz.prog S18 Zl 2000 81 [A0,I s,NIL,SLX 1 ob nn cb] [(0,flag 61 hb),(1,⟨ty,fr,es,l⟩)] 2 [some false,some false,some false,some true]).map (fun r=>(r.1,getM r.2.1 0,getM r.2.1 1,getM r.2.1 2,r.2.2.2))=some (LV.v (V1.one (At.int IntKind.i64 (rndS (wVal 0 0) s))),some { ty:=61,fr:=(0,0),es:=0,cells:=[At.bool (hb||rndH (wVal 0 0) s)] },some { ty:=ty,fr:=fr,es:=es,cells:=l },none,[(isI 0,true),(isU 0,true),(decide (s>120),true),(decide (s<0),false),(decide (s<0),false),(decide (s<0),false)]):=by kernel_rfl
theorem dn_right_in (hb:Bool) (s:Int) (oa na ca ob nn cb:Nat) (ty:TypeId) (fr:Nat×Nat) (es:Nat) (l:List At) (ty2:TypeId) (fr2:Nat×Nat) (es2:Nat) (l2:List At):(runF Tryz.prog S18 Zl 2000 81 [A0,I s,NIL,SLX 1 ob nn cb] [(0,flag 61 hb),(1,⟨ty,fr,es,l⟩)] 2 [some false,some false,some false,some false,some false]).map (fun r=>(r.1,getM r.2.1 0,getM r.2.1 1,getM r.2.1 2,r.2.2.2))=some (LV.v (V1.one (At.int IntKind.i64 (rndS (wVal 0 0) s))),some { ty:=61,fr:=(0,0),es:=0,cells:=[At.bool (hb||rndH (wVal 0 0) s)] },some { ty:=ty,fr:=fr,es:=es,cells:=l },some { ty:=110,fr:=(0,0),es:=0,cells:=[At.int IntKind.i64 0,At.int IntKind.u64 0] },[(isI 0,true),(isU 0,true),(decide (0<if 100<if (nn:Int)<0 then (nn:Int) else 0 then 100 else if (nn:Int)<0 then (nn:Int) else 0),false),(decide (s>120),false),(decide (s<0),false),(decide (s<0),false),(decide (s<0),false)]):=by kernel_rfl
theorem dn_none_neg (hb:Bool) (s:Int) (oa na ca ob nn cb:Nat) (ty:TypeId) (fr:Nat×Nat) (es:Nat) (l:List At) (ty2:TypeId) (fr2:Nat×Nat) (es2:Nat) (l2:List At):(runF Tryz.prog S18 Zl 2000 81 [A0,I s,NIL,NIL] [(0,flag 61 hb)] 1 [some true,some true,some true,none]).map (fun r=>(r.1,getM r.2.1 0,getM r.2.1 1,getM r.2.1 2,r.2.2.2))=some (LV.v (V1.one (At.int IntKind.i64 (rndS (wVal 0 0) s))),some { ty:=61,fr:=(0,0),es:=0,cells:=[At.bool (hb||rndH (wVal 0 0) s)] },none,none,[(isI 0,true),(isU 0,true),(decide (s<0),true),(decide (s<0),true),(decide (s<0),true)]):=by kernel_rfl
theorem dn_none_big (hb:Bool) (s:Int) (oa na ca ob nn cb:Nat) (ty:TypeId) (fr:Nat×Nat) (es:Nat) (l:List At) (ty2:TypeId) (fr2:Nat×Nat) (es2:Nat) (l2:List At):(runF Tryz.prog S18 Zl 2000 81 [A0,I s,NIL,NIL] [(0,flag 61 hb)] 1 [some false,some false,some false,some true]).map (fun r=>(r.1,getM r.2.1 0,getM r.2.1 1,getM r.2.1 2,r.2.2.2))=some (LV.v (V1.one (At.int IntKind.i64 (rndS (wVal 0 0) s))),some { ty:=61,fr:=(0,0),es:=0,cells:=[At.bool (hb||rndH (wVal 0 0) s)] },none,none,[(isI 0,true),(isU 0,true),(decide (s>120),true),(decide (s<0),false),(decide (s<0),false),(decide (s<0),false)]):=by kernel_rfl
theorem dn_none_in (hb:Bool) (s:Int) (oa na ca ob nn cb:Nat) (ty:TypeId) (fr:Nat×Nat) (es:Nat) (l:List At) (ty2:TypeId) (fr2:Nat×Nat) (es2:Nat) (l2:List At):(runF Tryz.prog S18 Zl 2000 81 [A0,I s,NIL,NIL] [(0,flag 61 hb)] 1 [some false,some false,some false,some false,some false]).map (fun r=>(r.1,getM r.2.1 0,getM r.2.1 1,getM r.2.1 2,r.2.2.2))=some (LV.v (V1.one (At.int IntKind.i64 (rndS (wVal 0 0) s))),some { ty:=61,fr:=(0,0),es:=0,cells:=[At.bool (hb||rndH (wVal 0 0) s)] },some { ty:=110,fr:=(0,0),es:=0,cells:=[At.int IntKind.i64 0,At.int IntKind.u64 0] },none,[(isI 0,true),(isU 0,true),(decide (0<if 100<if 0<0 then 0 else 0 then 100 else if 0<0 then 0 else 0),false),(decide (s>120),false),(decide (s<0),false),(decide (s<0),false),(decide (s<0),false)]):=by kernel_rfl
def dotS:List Int→List Int→Int
 | a::l,b::m=>satV a*satV b+dotS l m
 | _,_=>0
def dotFl:List Int→List Int→Bool
 | a::l,b::m=>satH a||(satH b||dotFl l m)
 | _,_=>false
theorem dotS_nilr (l:List Int):dotS l []=0:=by cases l <;> rfl
theorem dotFl_nilr (l:List Int):dotFl l []=false:=by cases l <;> rfl
theorem dotS_app:∀(l m:List Int) (a b:Int),l.length=m.length→dotS (l++[a]) (m++[b])=dotS l m+satV a*satV b
 | [],[],a,b,_=>by simp [dotS]
 | x::l,y::m,a,b,h=>by
  have:=dotS_app l m a b (by simpa using h)
  simp only [List.cons_append,dotS,this];omega
theorem dotFl_app:∀(l m:List Int) (a b:Int),l.length=m.length→dotFl (l++[a]) (m++[b])=(dotFl l m||(satH a||satH b))
 | [],[],a,b,_=>by simp [dotFl]
 | x::l,y::m,a,b,h=>by
  have:=dotFl_app l m a b (by simpa using h)
  simp only [List.cons_append,dotFl,this,Bool.or_assoc]
theorem dot_min:∀(xs ys:List Int) (n k:Nat),n≤k→(n=k∨xs.length≤n∨ys.length≤n)→dotS (xs.take n) (ys.take n)=dotS (xs.take k) (ys.take k)∧dotFl (xs.take n) (ys.take n)=dotFl (xs.take k) (ys.take k)
 | [],ys,n,k,_,_=>by simp [dotS,dotFl]
 | x::xs,[],n,k,_,_=>by simp [dotS_nilr,dotFl_nilr]
 | x::xs,y::ys,0,k,_,h=>by
  have:k=0:=by simp at h;omega
  subst this;exact ⟨rfl,rfl⟩
 | x::xs,y::ys,n+1,0,h,_=>by omega
 | x::xs,y::ys,n+1,k+1,h,h'=>by
  have:=dot_min xs ys n k (by omega) (by simp at h';omega)
  refine ⟨?_, ?_⟩ <;> simp only [List.take_succ_cons,dotS,dotFl,this.1,this.2]
theorem dotS_bd:∀(l m:List Int),-(l.length*1329227995784915872903807060280344576:Int)≤dotS l m∧dotS l m≤l.length*1329227995784915872903807060280344576
 | [],m=>by simp [dotS]
 | a::l,[]=>by
  rw [dotS_nilr]
  have:(0:Int)≤((a::l).length:Int)*1329227995784915872903807060280344576:=Int.mul_nonneg (by omega) (by decide)
  omega
 | a::l,b::m=>by
  have h1:=dotS_bd l m
  have h2:=satsat a b
  simp only [dotS,List.length_cons]
  push_cast
  omega
theorem dot_bds {D p:Int} {i m:Nat} (hi:i<m) (hm:m≤100) (b0: -((i:Int)*1329227995784915872903807060280344576)≤D∧D≤i*1329227995784915872903807060280344576) (b1: -1329227995784915872903807060280344576≤p∧p≤1329227995784915872903807060280344576):
  (-170141183460469231731687303715884105728≤D∧D<170141183460469231731687303715884105728)∧(-170141183460469231731687303715884105728≤p∧p<170141183460469231731687303715884105728)∧(-170141183460469231731687303715884105728≤D+p∧D+p<170141183460469231731687303715884105728):=by omega
theorem dot_bdn {D:Int} {n k:Nat} (b0: -(((min 100 n:Nat):Int)*1329227995784915872903807060280344576)≤D∧D≤((min 100 n:Nat):Int)*1329227995784915872903807060280344576):
  -170141183460469231731687303715884105728≤D∧D<170141183460469231731687303715884105728:=by omega
def dotV (s:Int) (xs ys:List Int):Int:=rndS (dotS (xs.take 100) (ys.take 100)) s
def dotH (s:Int) (xs ys:List Int):Bool:=dotFl (xs.take 100) (ys.take 100)||rndH (dotS (xs.take 100) (ys.take 100)) s
def fdotS:List AV→Bool→Option (LV×Bool×List (Bool×Bool))
 | [.pl (.v (.one (.int .i64 s))),.ints xs,.ints ys],hb=>some (I (dotV s xs ys),hb||dotH s xs ys,[])
 | _,_=>none
theorem dot_nil {s:Int} {xs ys:List Int} (h:xs=[]∨ys=[]) (hb:Bool):rndS (wVal 0 0) s=dotV s xs ys∧(hb||rndH (wVal 0 0) s)=(hb||dotH s xs ys):=by
 have e:wVal 0 0=0:=rfl
 unfold dotV dotH
 rcases h with rfl | rfl
 ·simp [dotS,dotFl,e]
 ·simp [dotS_nilr,dotFl_nilr,e]
theorem dot_out {s:Int} (h:s<0∨s>120) (xs ys:List Int) (hb:Bool):rndS (wVal 0 0) s=dotV s xs ys∧(hb||rndH (wVal 0 0) s)=(hb||dotH s xs ys):=by
 unfold dotV dotH rndS rndH
 rcases h with h | h
 ·simp [h]
 ·have:¬s<0:=by omega
  simp [h,this]
section
variable {P:Program} {S:FuncId→Option SumK} {z:Md}
theorem lcl3 (hs:Sound P S) {n:Nat} {f:FuncId} {args:List LV} {m m':Mem} {nb:Nat} {dec:List (Option Bool)} {v:LV} {b0 b1 b2:Option Blk} {cs:List (Bool×Bool)}
  (hrun:(runF P S z n f args m nb dec).map (fun r=>(r.1,getM r.2.1 0,getM r.2.1 1,getM r.2.1 2,r.2.2.2))=some (v,b0,b1,b2,cs))
  (hg:∀i b,getM m' i=some b→(i=0∧b0=some b∨i=1∧b1=some b∨i=2∧b2=some b)∧i<nb∧okL (below nb) b.cells=true) (hc:∀c∈cs,c.1=c.2) (hm:memOKb nb m=true) (ha:∀u∈args,u.ok (below nb)=true) (hv:v.ok noP=true)
  (E:Env) (w:World) (hrel:Rel E (getM m) w):Calls P f (args.map (LV.den E)).toArray w fun e w'=>e = .returned (v.den E0)∧Lcl E m m' w w':=by
 cases hq:runF P S z n f args m nb dec with
 | none=>rw [hq] at hrun;cases hrun
 | some q=>
  obtain ⟨v',m2,nb',cs'⟩:=q
  rw [hq] at hrun
  simp only [Option.map_some,Option.some.injEq,Prod.mk.injEq] at hrun
  obtain ⟨rfl,e0,e1,e2,rfl⟩:=hrun
  refine lcl_of_run hs hq (fun i b hib=> ?_) hc hm ha hv E w hrel
  obtain ⟨h,h2⟩:=hg i b hib
  refine ⟨?_,h2⟩
  rcases h with ⟨rfl,h⟩ | ⟨rfl,h⟩ | ⟨rfl,h⟩
  ·rw [e0,h]
  ·rw [e1,h]
  ·rw [e2,h]
end
theorem cs_neg {s:Int} (h:s<0):∀c∈[(isI 0,true),(isU 0,true),(decide (s<0),true),(decide (s<0),true),(decide (s<0),true)],c.1=c.2:=by
 have h1:isI 0=true:=by decide
 have h2:isU 0=true:=by decide
 rw [h1,h2,decide_eq_true h];simp
theorem cs_big {s:Int} (h:s>120):∀c∈[(isI 0,true),(isU 0,true),(decide (s>120),true),(decide (s<0),false),(decide (s<0),false),(decide (s<0),false)],c.1=c.2:=by
 have h1:isI 0=true:=by decide
 have h2:isU 0=true:=by decide
 rw [h1,h2,decide_eq_true h,decide_eq_false (show ¬s<0 by omega)];simp
theorem cs_in {s:Int} {b:Bool} (hb:b=false) (h0:0≤s) (h:s≤120):∀c∈[(isI 0,true),(isU 0,true),(b,false),(decide (s>120),false),(decide (s<0),false),(decide (s<0),false),(decide (s<0),false)],c.1=c.2:=by
 have h1:isI 0=true:=by decide
 have h2:isU 0=true:=by decide
 rw [h1,h2,hb,decide_eq_false (show ¬s>120 by omega),decide_eq_false (show ¬s<0 by omega)];simp
theorem memOK4 {nb:Nat} {b0 b1 b2 b3:Blk} (hnb:4≤nb) (h0:okL (below nb) b0.cells=true) (h1:okL (below nb) b1.cells=true) (h2:okL (below nb) b2.cells=true) (h3:okL (below nb) b3.cells=true):memOKb nb [(0,b0),(1,b1),(2,b2),(3,b3)]=true:=by
 have e0:Nat.blt 0 nb=true:=by rw [nblt];simp;omega
 have e1:Nat.blt 1 nb=true:=by rw [nblt];simp;omega
 have e2:Nat.blt 2 nb=true:=by rw [nblt];simp;omega
 have e3:Nat.blt 3 nb=true:=by rw [nblt];simp;omega
 simp only [memOKb,e0,e1,e2,e3,h0,h1,h2,h3]
 rfl
theorem memOK3' {nb:Nat} {b0 b1 b3:Blk} (hnb:4≤nb) (h0:okL (below nb) b0.cells=true) (h1:okL (below nb) b1.cells=true) (h3:okL (below nb) b3.cells=true):memOKb nb [(0,b0),(1,b1),(3,b3)]=true:=by
 have e0:Nat.blt 0 nb=true:=by rw [nblt];simp;omega
 have e1:Nat.blt 1 nb=true:=by rw [nblt];simp;omega
 have e3:Nat.blt 3 nb=true:=by rw [nblt];simp;omega
 simp only [memOKb,e0,e1,e3,h0,h1,h3]
 rfl
theorem memOK1 {nb:Nat} {b0:Blk} (hnb:1≤nb) (h0:okL (below nb) b0.cells=true):memOKb nb [(0,b0)]=true:=by
 have e0:Nat.blt 0 nb=true:=by rw [nblt];simp;omega
 simp only [memOKb,e0,h0]
 rfl
def P3:LV:= .v (.one (.ptr 3 0))
noncomputable def doBd:Code:=c2 (c2 (c2 (bodyF Tryz.prog 81)))
def dAtwo (k1 k2:Blk) (s:Int) (oa na ca ob nn cb:Nat) (h:Bool) (v mm i:Int):Kst:=⟨[(0,A0),(1,I s),(2,SLX 1 oa na ca),(3,SLX 2 ob nn cb),(9,P3),(25,I mm),(26,I i)],[(0,flag 61 h),(1,k1),(2,k2),(3,wB v)],4⟩
def dBtwo (k1 k2:Blk) (s:Int) (h:Bool) (v:Int):Kst:=⟨[(0,A0),(1,I s),(9,P3)],[(0,flag 61 h),(1,k1),(2,k2),(3,wB v)],4⟩
theorem dSteptwo (k1 k2:Blk) (s:Int) (oa na ca ob nn cb:Nat) (xs ys:List Int) (hx:SlAt 1 k1 oa na xs) (hy:SlAt 1 k2 ob nn ys) (hb:Bool) (m:Nat) (hm:m≤100) (hma:m≤na) (hmb:m≤nn) (i:Nat) (hi:i<m):
  To Tryz.prog 53 (c1 (c1 (c2 (c1 doBd)))) (dAtwo k1 k2 s oa na ca ob nn cb (hb||dotFl (xs.take i) (ys.take i)) (dotS (xs.take i) (ys.take i)) m i) .normal (dAtwo k1 k2 s oa na ca ob nn cb (hb||dotFl (xs.take (i+1)) (ys.take (i+1))) (dotS (xs.take (i+1)) (ys.take (i+1))) m ((i:Int)+1)):=by
 obtain ⟨hlen,hat,hok⟩:=hx
 obtain ⟨hlen2,hat2,hok2⟩:=hy
 have ix:i<xs.length:=by omega
 have iy:i<ys.length:=by omega
 have hx:=intAt_of (hat i ix)
 have hy:=intAt_of (hat2 i iy)
 have b0:=dotS_bd (xs.take i) (ys.take i)
 rw [List.length_take] at b0
 have b1:=satsat xs[i] ys[i]
 have hmi:((min i xs.length:Nat):Int)=i:=by omega
 rw [hmi] at b0
 have e0:(xs.take i).length=(ys.take i).length:=by simp only [List.length_take];omega
 have e1:dotS (xs.take (i+1)) (ys.take (i+1))=dotS (xs.take i) (ys.take i)+satV xs[i]*satV ys[i]:=by rw [take_snoc xs i ix,take_snoc ys i iy,dotS_app _ _ _ _ e0]
 have e2:(hb||dotFl (xs.take (i+1)) (ys.take (i+1)))=(((hb||dotFl (xs.take i) (ys.take i))||satH xs[i])||satH ys[i]):=by rw [take_snoc xs i ix,take_snoc ys i iy,dotFl_app _ _ _ _ e0];simp [Bool.or_assoc]
 have e3:((i:Int)).toNat*1=i:=by simp
 have e4:wr .i64 ((i:Int)+1)=(i:Int)+1:=w64_in (by omega) (by omega)
 have hI:=isI_sat xs[i]
 have hI2:=isI_sat ys[i]
 obtain ⟨ty,fr,es,l⟩:=k1
 obtain ⟨ty2,fr2,es2,l2⟩:=k2
 rw [e1,e2]
 generalize dotS (xs.take i) (ys.take i)=D at *
 obtain ⟨⟨bD0,bD1⟩,⟨bp0,bp1⟩,bs0,bs1⟩:=dot_bds hi hm b0 b1
 obtain ⟨i2a,i2b⟩:=wHi_inI D bD0 bD1
 obtain ⟨l2a,l2b⟩:=wLo_in D
 obtain ⟨i3a,i3b⟩:=wHi_inI (satV xs[i]*satV ys[i]) bp0 bp1
 obtain ⟨l3a,l3b⟩:=wLo_in (satV xs[i]*satV ys[i])
 have j0:(0:Int)≤(i:Int):=Int.natCast_nonneg i
 have j1:(i:Int)<(na:Int):=Int.ofNat_lt.2 (Nat.lt_of_lt_of_le hi hma)
 have j2:(i:Int)<(nn:Int):=Int.ofNat_lt.2 (Nat.lt_of_lt_of_le hi hmb)
 have j3:(i:Int)<(m:Int):=Int.ofNat_lt.2 hi
 refine To.run (z:=Zl) sound18 (slots:=[0,1,2,3,9,25,26]) (blks:=[0,1,2,3]) (vs:=[A0,I s,SLX 1 oa na ca,SLX 2 ob nn cb,P3,I m,I ((i:Int)+1)])
  (bs:=[flag 61 (((hb||dotFl (xs.take i) (ys.take i))||satH xs[i])||satH ys[i]),⟨ty,fr,es,l⟩,⟨ty2,fr2,es2,l2⟩,wB (D+satV xs[i]*satV ys[i])]) (nbB:=4)
  (fun dead=>dot_two_c dead (hb||dotFl (xs.take i) (ys.take i)) s oa na ca ob nn cb ty fr es l ty2 fr2 es2 l2 (wHi D) (wLo D) m i) rfl (by rw [e4];rfl) (by rw [e3,hx.1,hy.1];simp only [wVal_mk];rfl) ?_ (kst_ok rfl (memOK4 (Nat.le_refl _) rfl (okL_mono noP_below hok) (okL_mono noP_below hok2) rfl)) (Nat.le_refl _)
 rw [e3,hx.1,hx.2,hy.1,hy.2,hI,hI2]
 simp only [wVal_mk,all_tt,isI_iff,isU_iff,isW_iff,Bool.and_eq_true,decide_eq_true_eq]
 repeat' apply And.intro
 all_goals first | exact ae_nil | exact True.intro | assumption
theorem dEndtwo (k1 k2:Blk) (s:Int) (oa na ca ob nn cb:Nat) (hok:okL noP k1.cells=true) (hok2:okL noP k2.cells=true) (h:Bool) (v:Int) (m:Nat):To Tryz.prog 53 (c1 (c1 (c2 (c1 doBd)))) (dAtwo k1 k2 s oa na ca ob nn cb h v m m) (.exit 0) (dBtwo k1 k2 s h v):=by
 obtain ⟨ty,fr,es,l⟩:=k1
 obtain ⟨ty2,fr2,es2,l2⟩:=k2
 refine To.exec (z:=Zl) sound18 (slots:=[0,1,9]) (blks:=[0,1,2,3]) (vs:=[A0,I s,P3]) (bs:=[flag 61 h,⟨ty,fr,es,l⟩,⟨ty2,fr2,es2,l2⟩,wB v]) (nbB:=4) (fun dead=>dot_two_d dead h s oa na ca ob nn cb ty fr es l ty2 fr2 es2 l2 (wHi v) (wLo v) m m) ?_ (kst_ok rfl (memOK4 (Nat.le_refl _) rfl (okL_mono noP_below hok) (okL_mono noP_below hok2) rfl)) (Nat.le_refl _)
 simp
theorem dRdtwo (k1 k2:Blk) (s:Int) (oa na ca ob nn cb:Nat) (xs ys:List Int) (hx:SlAt 1 k1 oa na xs) (hy:SlAt 1 k2 ob nn ys) (hb:Bool) (m:Nat) (hm:m≤100) (hma:m≤na) (hmb:m≤nn):∀(j i:Nat),i+j=m→
  Rd Tryz.prog 53 (c1 (c1 (c2 (c1 doBd)))) (j+1) (dAtwo k1 k2 s oa na ca ob nn cb (hb||dotFl (xs.take i) (ys.take i)) (dotS (xs.take i) (ys.take i)) m i) (.exit 0) (dBtwo k1 k2 s (hb||dotFl (xs.take m) (ys.take m)) (dotS (xs.take m) (ys.take m)))
 | 0,i,h=>by
  have hi:i=m:=by omega
  subst hi
  exact Rd.last (by simp) (dEndtwo k1 k2 s oa na ca ob nn cb hx.2.2 hy.2.2 _ _ i)
 | j+1,i,h=>Rd.next (dSteptwo k1 k2 s oa na ca ob nn cb xs ys hx hy hb m hm hma hmb i (by omega)) (dRdtwo k1 k2 s oa na ca ob nn cb xs ys hx hy hb m hm hma hmb j (i+1) (by omega))
theorem dIntwo (k1 k2:Blk) (s:Int) (h0:0≤s) (h1:s≤120) (oa na ca ob nn cb:Nat) (xs ys:List Int) (hx:SlAt 1 k1 oa na xs) (hy:SlAt 1 k2 ob nn ys) (hb:Bool) (E:Env) (w:World) (hrel:Rel E (getM [(0,flag 61 hb),(1,k1),(2,k2)]) w):
  Calls Tryz.prog 81 ((A0::([I s]++[SLX 1 oa na ca,SLX 2 ob nn cb])).map (LV.den E)).toArray w fun e w'=>e = .returned ((I (dotV s xs ys)).den E0)∧Lcl E [(0,flag 61 hb),(1,k1),(2,k2)] [(0,flag 61 (hb||dotH s xs ys)),(1,k1),(2,k2)] w w':=by
 have hxl:xs.length=na:=by have:=hx.1;omega
 have hyl:ys.length=nn:=by have:=hy.1;omega
 have hok:=hx.2.2
 have hok2:=hy.2.2
 have hm:min (min na nn) 100≤100:=by omega
 have hR:=dRdtwo k1 k2 s oa na ca ob nn cb xs ys hx hy hb (min (min na nn) 100) (by omega) (by omega) (by omega) (min (min na nn) 100) 0 (by omega)
 have hmin:=dot_min xs ys (min (min na nn) 100) 100 (by omega) (by omega)
 rw [hmin.1,hmin.2] at hR
 have eI:(if (100:Int)<if (nn:Int)<(na:Int) then (nn:Int) else (na:Int) then 100 else if (nn:Int)<(na:Int) then (nn:Int) else (na:Int))=((min (min na nn) 100:Nat):Int):=by (repeat' split) <;> omega
 generalize min (min na nn) 100=m at *
 have b0:=dotS_bd (xs.take 100) (ys.take 100)
 rw [List.length_take] at b0
 have hV:dotV s xs ys=rndS (dotS (xs.take 100) (ys.take 100)) s:=rfl
 have hH:(hb||dotH s xs ys)=((hb||dotFl (xs.take 100) (ys.take 100))||rndH (dotS (xs.take 100) (ys.take 100)) s):=by unfold dotH;rw [Bool.or_assoc]
 rw [hV,hH]
 generalize dotS (xs.take 100) (ys.take 100)=D at *
 obtain ⟨bD0,bD1⟩:=dot_bdn (k:=0) b0
 have hi2:=wHi_inI D bD0 bD1
 have hl2:=wLo_in D
 have hs1:decide (s>120)=false:=decide_eq_false (by omega)
 have hs0:decide (s<0)=false:=decide_eq_false (by omega)
 obtain ⟨ty,fr,es,l⟩:=k1
 obtain ⟨ty2,fr2,es2,l2⟩:=k2
 refine lcl_of_To (c:=bodyF Tryz.prog 81) (e:= .ret) (nb:=3) (B:=⟨[(8,I (rndS D s))],[(0,flag 61 ((hb||dotFl (xs.take 100) (ys.take 100))||rndH D s)),(1,⟨ty,fr,es,l⟩),(2,⟨ty2,fr2,es2,l2⟩)],4⟩) Tryz.func81 (by kernel_rfl) (Nat.le_of_ble_eq_true (by kernel_rfl)) (Nat.le_of_ble_eq_true (by kernel_rfl))
  (fun u hu=> ?_) (memOK3 (Nat.le_refl _) rfl (okL_mono noP_below hok) (okL_mono noP_below hok2)) ?_ (.inr rfl) (fun dead=>by kernel_rfl) rfl (fun i b hib=> ?_) E w hrel
 ·simp only [List.cons_append,List.nil_append,List.mem_cons,List.not_mem_nil,or_false] at hu
  rcases hu with rfl | rfl | rfl | rfl <;> rfl
 ·refine To.spineR (z:=Zl) sound18 (k:=3) (slots:=[0,1,2,3,9]) (blks:=[0,1,2,3]) (vs:=[A0,I s,SLX 1 oa na ca,SLX 2 ob nn cb,P3]) (bs:=[flag 61 hb,⟨ty,fr,es,l⟩,⟨ty2,fr2,es2,l2⟩,wB 0]) (nbB:=4) (by kernel_rfl) (fun dead=>dot_two_a dead hb s oa na ca ob nn cb ty fr es l ty2 fr2 es2 l2) rfl rfl rfl (by rw [hs1,hs0];simp) (kst_ok rfl (memOK4 (Nat.le_refl _) rfl (okL_mono noP_below hok) (okL_mono noP_below hok2) rfl)) (Nat.le_succ 3) ?_
  refine To.seq (by kernel_rfl) (To.seq (by kernel_rfl) (To.run (z:=Zl) sound18 (slots:=[0,1,2,3,9,25,26]) (blks:=[0,1,2,3]) (vs:=[A0,I s,SLX 1 oa na ca,SLX 2 ob nn cb,P3,I m,I 0]) (bs:=[flag 61 hb,⟨ty,fr,es,l⟩,⟨ty2,fr2,es2,l2⟩,wB 0]) (nbB:=4) (fun dead=>dot_two_b dead hb s oa na ca ob nn cb ty fr es l ty2 fr2 es2 l2 0 0) rfl (by simp only [eI];rfl) rfl ae_nil (kst_ok rfl (memOK4 (Nat.le_refl _) rfl (okL_mono noP_below hok) (okL_mono noP_below hok2) rfl)) (Nat.le_refl _))
   (To.block (id:=0) (by kernel_rfl) (To.loop (m:=m+1) (by kernel_rfl) ?_) (.inl rfl))) (C:=_) (B:=dBtwo ⟨ty,fr,es,l⟩ ⟨ty2,fr2,es2,l2⟩ s (hb||dotFl (xs.take 100) (ys.take 100)) D) ?_
  ·simp only [List.take_zero,dotFl,Bool.or_false,dotS] at hR
   exact hR
  ·refine To.run (z:=Zl) sound18 (slots:=[8]) (blks:=[0,1,2]) (vs:=[I (rndS D s)]) (bs:=[flag 61 ((hb||dotFl (xs.take 100) (ys.take 100))||rndH D s),⟨ty,fr,es,l⟩,⟨ty2,fr2,es2,l2⟩]) (nbB:=4) (fun dead=>dot_two_e dead (hb||dotFl (xs.take 100) (ys.take 100)) s oa na ca ob nn cb ty fr es l ty2 fr2 es2 l2 (wHi D) (wLo D)) rfl ?_ ?_ ?_ (kst_ok rfl (memOK3 (Nat.le_of_ble_eq_true rfl) rfl (okL_mono noP_below hok) (okL_mono noP_below hok2))) (Nat.le_refl _)
   ·rw [wVal_mk];rfl
   ·rw [wVal_mk];rfl
   ·simp only [all_tt,isI_iff,isU_iff]
    exact ⟨hi2,hl2,ae_nil⟩
 ·rcases get3 hib with ⟨rfl,rfl⟩ | ⟨rfl,rfl⟩ | ⟨rfl,rfl⟩
  ·exact ⟨rfl,by decide,rfl⟩
  ·exact ⟨rfl,by decide,okL_mono noP_below hok⟩
  ·exact ⟨rfl,by decide,okL_mono noP_below hok2⟩
def dAone (k1:Blk) (s:Int) (oa na ca ob nn cb:Nat) (h:Bool) (v mm i:Int):Kst:=⟨[(0,A0),(1,I s),(2,SLX 1 oa na ca),(3,SLX 1 ob nn cb),(9,P3),(25,I mm),(26,I i)],[(0,flag 61 h),(1,k1),(3,wB v)],4⟩
def dBone (k1:Blk) (s:Int) (h:Bool) (v:Int):Kst:=⟨[(0,A0),(1,I s),(9,P3)],[(0,flag 61 h),(1,k1),(3,wB v)],4⟩
theorem dStepone (k1:Blk) (s:Int) (oa na ca ob nn cb:Nat) (xs ys:List Int) (hx:SlAt 1 k1 oa na xs) (hy:SlAt 1 k1 ob nn ys) (hb:Bool) (m:Nat) (hm:m≤100) (hma:m≤na) (hmb:m≤nn) (i:Nat) (hi:i<m):
  To Tryz.prog 53 (c1 (c1 (c2 (c1 doBd)))) (dAone k1 s oa na ca ob nn cb (hb||dotFl (xs.take i) (ys.take i)) (dotS (xs.take i) (ys.take i)) m i) .normal (dAone k1 s oa na ca ob nn cb (hb||dotFl (xs.take (i+1)) (ys.take (i+1))) (dotS (xs.take (i+1)) (ys.take (i+1))) m ((i:Int)+1)):=by
 obtain ⟨hlen,hat,hok⟩:=hx
 obtain ⟨hlen2,hat2,-⟩:=hy
 have ix:i<xs.length:=by omega
 have iy:i<ys.length:=by omega
 have hx:=intAt_of (hat i ix)
 have hy:=intAt_of (hat2 i iy)
 have b0:=dotS_bd (xs.take i) (ys.take i)
 rw [List.length_take] at b0
 have b1:=satsat xs[i] ys[i]
 have hmi:((min i xs.length:Nat):Int)=i:=by omega
 rw [hmi] at b0
 have e0:(xs.take i).length=(ys.take i).length:=by simp only [List.length_take];omega
 have e1:dotS (xs.take (i+1)) (ys.take (i+1))=dotS (xs.take i) (ys.take i)+satV xs[i]*satV ys[i]:=by rw [take_snoc xs i ix,take_snoc ys i iy,dotS_app _ _ _ _ e0]
 have e2:(hb||dotFl (xs.take (i+1)) (ys.take (i+1)))=(((hb||dotFl (xs.take i) (ys.take i))||satH xs[i])||satH ys[i]):=by rw [take_snoc xs i ix,take_snoc ys i iy,dotFl_app _ _ _ _ e0];simp [Bool.or_assoc]
 have e3:((i:Int)).toNat*1=i:=by simp
 have e4:wr .i64 ((i:Int)+1)=(i:Int)+1:=w64_in (by omega) (by omega)
 have hI:=isI_sat xs[i]
 have hI2:=isI_sat ys[i]
 obtain ⟨ty,fr,es,l⟩:=k1
 rw [e1,e2]
 generalize dotS (xs.take i) (ys.take i)=D at *
 obtain ⟨⟨bD0,bD1⟩,⟨bp0,bp1⟩,bs0,bs1⟩:=dot_bds hi hm b0 b1
 obtain ⟨i2a,i2b⟩:=wHi_inI D bD0 bD1
 obtain ⟨l2a,l2b⟩:=wLo_in D
 obtain ⟨i3a,i3b⟩:=wHi_inI (satV xs[i]*satV ys[i]) bp0 bp1
 obtain ⟨l3a,l3b⟩:=wLo_in (satV xs[i]*satV ys[i])
 have j0:(0:Int)≤(i:Int):=Int.natCast_nonneg i
 have j1:(i:Int)<(na:Int):=Int.ofNat_lt.2 (Nat.lt_of_lt_of_le hi hma)
 have j2:(i:Int)<(nn:Int):=Int.ofNat_lt.2 (Nat.lt_of_lt_of_le hi hmb)
 have j3:(i:Int)<(m:Int):=Int.ofNat_lt.2 hi
 refine To.run (z:=Zl) sound18 (slots:=[0,1,2,3,9,25,26]) (blks:=[0,1,3]) (vs:=[A0,I s,SLX 1 oa na ca,SLX 1 ob nn cb,P3,I m,I ((i:Int)+1)])
  (bs:=[flag 61 (((hb||dotFl (xs.take i) (ys.take i))||satH xs[i])||satH ys[i]),⟨ty,fr,es,l⟩,wB (D+satV xs[i]*satV ys[i])]) (nbB:=4)
  (fun dead=>dot_one_c dead (hb||dotFl (xs.take i) (ys.take i)) s oa na ca ob nn cb ty fr es l (wHi D) (wLo D) m i) rfl (by rw [e4];rfl) (by rw [e3,hx.1,hy.1];simp only [wVal_mk];rfl) ?_ (kst_ok rfl (memOK3' (Nat.le_refl _) rfl (okL_mono noP_below hok) rfl)) (Nat.le_refl _)
 rw [e3,hx.1,hx.2,hy.1,hy.2,hI,hI2]
 simp only [wVal_mk,all_tt,isI_iff,isU_iff,isW_iff,Bool.and_eq_true,decide_eq_true_eq]
 repeat' apply And.intro
 all_goals first | exact ae_nil | exact True.intro | assumption
theorem dEndone (k1:Blk) (s:Int) (oa na ca ob nn cb:Nat) (hok:okL noP k1.cells=true) (h:Bool) (v:Int) (m:Nat):To Tryz.prog 53 (c1 (c1 (c2 (c1 doBd)))) (dAone k1 s oa na ca ob nn cb h v m m) (.exit 0) (dBone k1 s h v):=by
 obtain ⟨ty,fr,es,l⟩:=k1
 refine To.exec (z:=Zl) sound18 (slots:=[0,1,9]) (blks:=[0,1,3]) (vs:=[A0,I s,P3]) (bs:=[flag 61 h,⟨ty,fr,es,l⟩,wB v]) (nbB:=4) (fun dead=>dot_one_d dead h s oa na ca ob nn cb ty fr es l (wHi v) (wLo v) m m) ?_ (kst_ok rfl (memOK3' (Nat.le_refl _) rfl (okL_mono noP_below hok) rfl)) (Nat.le_refl _)
 simp
theorem dRdone (k1:Blk) (s:Int) (oa na ca ob nn cb:Nat) (xs ys:List Int) (hx:SlAt 1 k1 oa na xs) (hy:SlAt 1 k1 ob nn ys) (hb:Bool) (m:Nat) (hm:m≤100) (hma:m≤na) (hmb:m≤nn):∀(j i:Nat),i+j=m→
  Rd Tryz.prog 53 (c1 (c1 (c2 (c1 doBd)))) (j+1) (dAone k1 s oa na ca ob nn cb (hb||dotFl (xs.take i) (ys.take i)) (dotS (xs.take i) (ys.take i)) m i) (.exit 0) (dBone k1 s (hb||dotFl (xs.take m) (ys.take m)) (dotS (xs.take m) (ys.take m)))
 | 0,i,h=>by
  have hi:i=m:=by omega
  subst hi
  exact Rd.last (by simp) (dEndone k1 s oa na ca ob nn cb hx.2.2 _ _ i)
 | j+1,i,h=>Rd.next (dStepone k1 s oa na ca ob nn cb xs ys hx hy hb m hm hma hmb i (by omega)) (dRdone k1 s oa na ca ob nn cb xs ys hx hy hb m hm hma hmb j (i+1) (by omega))
theorem dInone (k1:Blk) (s:Int) (h0:0≤s) (h1:s≤120) (oa na ca ob nn cb:Nat) (xs ys:List Int) (hx:SlAt 1 k1 oa na xs) (hy:SlAt 1 k1 ob nn ys) (hb:Bool) (E:Env) (w:World) (hrel:Rel E (getM [(0,flag 61 hb),(1,k1)]) w):
  Calls Tryz.prog 81 ((A0::([I s]++[SLX 1 oa na ca,SLX 1 ob nn cb])).map (LV.den E)).toArray w fun e w'=>e = .returned ((I (dotV s xs ys)).den E0)∧Lcl E [(0,flag 61 hb),(1,k1)] [(0,flag 61 (hb||dotH s xs ys)),(1,k1)] w w':=by
 have hxl:xs.length=na:=by have:=hx.1;omega
 have hyl:ys.length=nn:=by have:=hy.1;omega
 have hok:=hx.2.2
 have hok2:=hy.2.2
 have hm:min (min na nn) 100≤100:=by omega
 have hR:=dRdone k1 s oa na ca ob nn cb xs ys hx hy hb (min (min na nn) 100) (by omega) (by omega) (by omega) (min (min na nn) 100) 0 (by omega)
 have hmin:=dot_min xs ys (min (min na nn) 100) 100 (by omega) (by omega)
 rw [hmin.1,hmin.2] at hR
 have eI:(if (100:Int)<if (nn:Int)<(na:Int) then (nn:Int) else (na:Int) then 100 else if (nn:Int)<(na:Int) then (nn:Int) else (na:Int))=((min (min na nn) 100:Nat):Int):=by (repeat' split) <;> omega
 generalize min (min na nn) 100=m at *
 have b0:=dotS_bd (xs.take 100) (ys.take 100)
 rw [List.length_take] at b0
 have hV:dotV s xs ys=rndS (dotS (xs.take 100) (ys.take 100)) s:=rfl
 have hH:(hb||dotH s xs ys)=((hb||dotFl (xs.take 100) (ys.take 100))||rndH (dotS (xs.take 100) (ys.take 100)) s):=by unfold dotH;rw [Bool.or_assoc]
 rw [hV,hH]
 generalize dotS (xs.take 100) (ys.take 100)=D at *
 obtain ⟨bD0,bD1⟩:=dot_bdn (k:=0) b0
 have hi2:=wHi_inI D bD0 bD1
 have hl2:=wLo_in D
 have hs1:decide (s>120)=false:=decide_eq_false (by omega)
 have hs0:decide (s<0)=false:=decide_eq_false (by omega)
 obtain ⟨ty,fr,es,l⟩:=k1
 refine lcl_of_To (c:=bodyF Tryz.prog 81) (e:= .ret) (nb:=3) (B:=⟨[(8,I (rndS D s))],[(0,flag 61 ((hb||dotFl (xs.take 100) (ys.take 100))||rndH D s)),(1,⟨ty,fr,es,l⟩)],4⟩) Tryz.func81 (by kernel_rfl) (Nat.le_of_ble_eq_true (by kernel_rfl)) (Nat.le_of_ble_eq_true (by kernel_rfl))
  (fun u hu=> ?_) (memOK2 (Nat.le_of_ble_eq_true rfl) rfl (okL_mono noP_below hok)) ?_ (.inr rfl) (fun dead=>by kernel_rfl) rfl (fun i b hib=> ?_) E w hrel
 ·simp only [List.cons_append,List.nil_append,List.mem_cons,List.not_mem_nil,or_false] at hu
  rcases hu with rfl | rfl | rfl | rfl <;> rfl
 ·refine To.spineR (z:=Zl) sound18 (k:=3) (slots:=[0,1,2,3,9]) (blks:=[0,1,3]) (vs:=[A0,I s,SLX 1 oa na ca,SLX 1 ob nn cb,P3]) (bs:=[flag 61 hb,⟨ty,fr,es,l⟩,wB 0]) (nbB:=4) (by kernel_rfl) (fun dead=>dot_one_a dead hb s oa na ca ob nn cb ty fr es l) rfl rfl rfl (by rw [hs1,hs0];simp) (kst_ok rfl (memOK3' (Nat.le_refl _) rfl (okL_mono noP_below hok) rfl)) (Nat.le_succ 3) ?_
  refine To.seq (by kernel_rfl) (To.seq (by kernel_rfl) (To.run (z:=Zl) sound18 (slots:=[0,1,2,3,9,25,26]) (blks:=[0,1,3]) (vs:=[A0,I s,SLX 1 oa na ca,SLX 1 ob nn cb,P3,I m,I 0]) (bs:=[flag 61 hb,⟨ty,fr,es,l⟩,wB 0]) (nbB:=4) (fun dead=>dot_one_b dead hb s oa na ca ob nn cb ty fr es l 0 0) rfl (by simp only [eI];rfl) rfl ae_nil (kst_ok rfl (memOK3' (Nat.le_refl _) rfl (okL_mono noP_below hok) rfl)) (Nat.le_refl _))
   (To.block (id:=0) (by kernel_rfl) (To.loop (m:=m+1) (by kernel_rfl) ?_) (.inl rfl))) (C:=_) (B:=dBone ⟨ty,fr,es,l⟩ s (hb||dotFl (xs.take 100) (ys.take 100)) D) ?_
  ·simp only [List.take_zero,dotFl,Bool.or_false,dotS] at hR
   exact hR
  ·refine To.run (z:=Zl) sound18 (slots:=[8]) (blks:=[0,1]) (vs:=[I (rndS D s)]) (bs:=[flag 61 ((hb||dotFl (xs.take 100) (ys.take 100))||rndH D s),⟨ty,fr,es,l⟩]) (nbB:=4) (fun dead=>dot_one_e dead (hb||dotFl (xs.take 100) (ys.take 100)) s oa na ca ob nn cb ty fr es l (wHi D) (wLo D)) rfl ?_ ?_ ?_ (kst_ok rfl (memOK2 (Nat.le_of_ble_eq_true rfl) rfl (okL_mono noP_below hok))) (Nat.le_refl _)
   ·rw [wVal_mk];rfl
   ·rw [wVal_mk];rfl
   ·simp only [all_tt,isI_iff,isU_iff]
    exact ⟨hi2,hl2,ae_nil⟩
 ·rcases get2 hib with ⟨rfl,rfl⟩ | ⟨rfl,rfl⟩
  ·exact ⟨rfl,by decide,rfl⟩
  ·exact ⟨rfl,by decide,okL_mono noP_below hok⟩
theorem sumDot:SumOK Tryz.prog 81 (acSum 61 1 fdotS):=by
 refine acSum2_ok (own_of sound18 Tryz.func81 (by kernel_rfl)) (fun avs hb r h=> ?_) fun pre xs ys hb v h' cs hF hcc hp hv=> ?_
 ·unfold fdotS at h
  split at h
  ·exact ⟨[_],_,_,rfl⟩
  ·cases h
 ·have hpre:∃s,pre=[I s]:=by
   match pre with
   | []=>simp [fdotS] at hF
   | [p]=>
    simp only [List.map_cons,List.map_nil,List.cons_append,List.nil_append] at hF
    unfold fdotS at hF
    split at hF
    ·rename_i he
     simp only [List.cons.injEq,AV.pl.injEq] at he
     obtain ⟨e,-⟩:=he
     exact ⟨_,by rw [e];rfl⟩
    ·cases hF
   | p::q::r=>simp [fdotS] at hF
  obtain ⟨s,rfl⟩:=hpre
  have hF':some (I (dotV s xs ys),hb||dotH s xs ys,[])=some (v,h',cs):=hF
  cases hF'
  have hargs:∀(p q:LV) (nb:Nat),p.ok (below nb)=true→q.ok (below nb)=true→1≤nb→∀u∈A0::([I s]++[p,q]),u.ok (below nb)=true:=by
   intro p q nb hp hq hn u hu
   simp only [List.cons_append,List.nil_append,List.mem_cons,List.not_mem_nil,or_false] at hu
   rcases hu with rfl | rfl | rfl | rfl
   ·simp [A0,LV.ok,V1.ok,At.ok,below,nblt];omega
   ·rfl
   ·exact hp
   ·exact hq
  have hs:s<0∨s>120∨(0≤s∧s≤120):=by omega
  refine ⟨fun k1 oa na ca k2 ob nn cb hx hy E w hrel=> ?_,fun k1 oa na ca ob nn cb hx hy E w hrel=> ?_,fun hx k1 ob nn cb hy E w hrel=> ?_,fun hy k1 oa na ca hx E w hrel=> ?_,fun hx hy E w hrel=> ?_⟩
  ·have hok:=hx.2.2
   have hok2:=hy.2.2
   obtain ⟨ty,fr,es,l⟩:=k1
   obtain ⟨ty2,fr2,es2,l2⟩:=k2
   rcases hs with h | h | ⟨h0,h1⟩
   ·have hd:=dot_out (.inl h) xs ys hb
    rw [←hd.1,←hd.2]
    refine lcl3 sound18 (dn_two_neg hb s oa na ca ob nn cb ty fr es l ty2 fr2 es2 l2) (fun i b hib=> ?_) (cs_neg h) (memOK3 (Nat.le_refl _) rfl (okL_mono noP_below hok) (okL_mono noP_below hok2)) (hargs _ _ _ rfl rfl (by decide)) rfl E w hrel
    ·rcases get3 hib with ⟨rfl,rfl⟩ | ⟨rfl,rfl⟩ | ⟨rfl,rfl⟩
     ·exact ⟨.inl ⟨rfl,rfl⟩,by decide,rfl⟩
     ·exact ⟨.inr (.inl ⟨rfl,rfl⟩),by decide,okL_mono noP_below hok⟩
     ·exact ⟨.inr (.inr ⟨rfl,rfl⟩),by decide,okL_mono noP_below hok2⟩
   ·have hd:=dot_out (.inr h) xs ys hb
    rw [←hd.1,←hd.2]
    refine lcl3 sound18 (dn_two_big hb s oa na ca ob nn cb ty fr es l ty2 fr2 es2 l2) (fun i b hib=> ?_) (cs_big h) (memOK3 (Nat.le_refl _) rfl (okL_mono noP_below hok) (okL_mono noP_below hok2)) (hargs _ _ _ rfl rfl (by decide)) rfl E w hrel
    ·rcases get3 hib with ⟨rfl,rfl⟩ | ⟨rfl,rfl⟩ | ⟨rfl,rfl⟩
     ·exact ⟨.inl ⟨rfl,rfl⟩,by decide,rfl⟩
     ·exact ⟨.inr (.inl ⟨rfl,rfl⟩),by decide,okL_mono noP_below hok⟩
     ·exact ⟨.inr (.inr ⟨rfl,rfl⟩),by decide,okL_mono noP_below hok2⟩
   ·exact dIntwo ⟨ty,fr,es,l⟩ ⟨ty2,fr2,es2,l2⟩ s h0 h1 oa na ca ob nn cb xs ys hx hy hb E w hrel
  ·have hok:=hx.2.2
   obtain ⟨ty,fr,es,l⟩:=k1
   rcases hs with h | h | ⟨h0,h1⟩
   ·have hd:=dot_out (.inl h) xs ys hb
    rw [←hd.1,←hd.2]
    refine lcl3 sound18 (dn_one_neg hb s oa na ca ob nn cb ty fr es l 0 (0,0) 0 []) (fun i b hib=> ?_) (cs_neg h) (memOK2 (Nat.le_of_ble_eq_true rfl) rfl (okL_mono noP_below hok)) (hargs _ _ _ rfl rfl (by decide)) rfl E w hrel
    ·rcases get2 hib with ⟨rfl,rfl⟩ | ⟨rfl,rfl⟩
     ·exact ⟨.inl ⟨rfl,rfl⟩,by decide,rfl⟩
     ·exact ⟨.inr (.inl ⟨rfl,rfl⟩),by decide,okL_mono noP_below hok⟩
   ·have hd:=dot_out (.inr h) xs ys hb
    rw [←hd.1,←hd.2]
    refine lcl3 sound18 (dn_one_big hb s oa na ca ob nn cb ty fr es l 0 (0,0) 0 []) (fun i b hib=> ?_) (cs_big h) (memOK2 (Nat.le_of_ble_eq_true rfl) rfl (okL_mono noP_below hok)) (hargs _ _ _ rfl rfl (by decide)) rfl E w hrel
    ·rcases get2 hib with ⟨rfl,rfl⟩ | ⟨rfl,rfl⟩
     ·exact ⟨.inl ⟨rfl,rfl⟩,by decide,rfl⟩
     ·exact ⟨.inr (.inl ⟨rfl,rfl⟩),by decide,okL_mono noP_below hok⟩
   ·exact dInone ⟨ty,fr,es,l⟩ s h0 h1 oa na ca ob nn cb xs ys hx hy hb E w hrel
  ·have hok:=hy.2.2
   obtain ⟨ty,fr,es,l⟩:=k1
   rcases hs with h | h | ⟨h0,h1⟩
   ·have hd:=dot_out (.inl h) xs ys hb
    rw [←hd.1,←hd.2]
    refine lcl3 sound18 (dn_right_neg hb s 0 0 0 ob nn cb ty fr es l 0 (0,0) 0 []) (fun i b hib=> ?_) (cs_neg h) (memOK2 (Nat.le_of_ble_eq_true rfl) rfl (okL_mono noP_below hok)) (hargs _ _ _ rfl rfl (by decide)) rfl E w hrel
    ·rcases get2 hib with ⟨rfl,rfl⟩ | ⟨rfl,rfl⟩
     ·exact ⟨.inl ⟨rfl,rfl⟩,by decide,rfl⟩
     ·exact ⟨.inr (.inl ⟨rfl,rfl⟩),by decide,okL_mono noP_below hok⟩
   ·have hd:=dot_out (.inr h) xs ys hb
    rw [←hd.1,←hd.2]
    refine lcl3 sound18 (dn_right_big hb s 0 0 0 ob nn cb ty fr es l 0 (0,0) 0 []) (fun i b hib=> ?_) (cs_big h) (memOK2 (Nat.le_of_ble_eq_true rfl) rfl (okL_mono noP_below hok)) (hargs _ _ _ rfl rfl (by decide)) rfl E w hrel
    ·rcases get2 hib with ⟨rfl,rfl⟩ | ⟨rfl,rfl⟩
     ·exact ⟨.inl ⟨rfl,rfl⟩,by decide,rfl⟩
     ·exact ⟨.inr (.inl ⟨rfl,rfl⟩),by decide,okL_mono noP_below hok⟩
   ·have hd:=dot_nil (s:=s) (xs:=xs) (ys:=ys) (.inl hx) hb
    rw [←hd.1,←hd.2]
    refine lcl3 sound18 (dn_right_in hb s 0 0 0 ob nn cb ty fr es l 0 (0,0) 0 []) (fun i b hib=> ?_) (cs_in (decide_eq_false (by (repeat' split) <;> omega)) h0 h1) (memOK2 (Nat.le_of_ble_eq_true rfl) rfl (okL_mono noP_below hok)) (hargs _ _ _ rfl rfl (by decide)) rfl E w hrel
    ·rcases get2 hib with ⟨rfl,rfl⟩ | ⟨rfl,rfl⟩
     ·exact ⟨.inl ⟨rfl,rfl⟩,by decide,rfl⟩
     ·exact ⟨.inr (.inl ⟨rfl,rfl⟩),by decide,okL_mono noP_below hok⟩
  ·have hok:=hx.2.2
   obtain ⟨ty,fr,es,l⟩:=k1
   rcases hs with h | h | ⟨h0,h1⟩
   ·have hd:=dot_out (.inl h) xs ys hb
    rw [←hd.1,←hd.2]
    refine lcl3 sound18 (dn_left_neg hb s oa na ca 0 0 0 ty fr es l 0 (0,0) 0 []) (fun i b hib=> ?_) (cs_neg h) (memOK2 (Nat.le_of_ble_eq_true rfl) rfl (okL_mono noP_below hok)) (hargs _ _ _ rfl rfl (by decide)) rfl E w hrel
    ·rcases get2 hib with ⟨rfl,rfl⟩ | ⟨rfl,rfl⟩
     ·exact ⟨.inl ⟨rfl,rfl⟩,by decide,rfl⟩
     ·exact ⟨.inr (.inl ⟨rfl,rfl⟩),by decide,okL_mono noP_below hok⟩
   ·have hd:=dot_out (.inr h) xs ys hb
    rw [←hd.1,←hd.2]
    refine lcl3 sound18 (dn_left_big hb s oa na ca 0 0 0 ty fr es l 0 (0,0) 0 []) (fun i b hib=> ?_) (cs_big h) (memOK2 (Nat.le_of_ble_eq_true rfl) rfl (okL_mono noP_below hok)) (hargs _ _ _ rfl rfl (by decide)) rfl E w hrel
    ·rcases get2 hib with ⟨rfl,rfl⟩ | ⟨rfl,rfl⟩
     ·exact ⟨.inl ⟨rfl,rfl⟩,by decide,rfl⟩
     ·exact ⟨.inr (.inl ⟨rfl,rfl⟩),by decide,okL_mono noP_below hok⟩
   ·have hd:=dot_nil (s:=s) (xs:=xs) (ys:=ys) (.inr hy) hb
    rw [←hd.1,←hd.2]
    refine lcl3 sound18 (dn_left_in hb s oa na ca 0 0 0 ty fr es l 0 (0,0) 0 []) (fun i b hib=> ?_) (cs_in (decide_eq_false (by (repeat' split) <;> omega)) h0 h1) (memOK2 (Nat.le_of_ble_eq_true rfl) rfl (okL_mono noP_below hok)) (hargs _ _ _ rfl rfl (by decide)) rfl E w hrel
    ·rcases get2 hib with ⟨rfl,rfl⟩ | ⟨rfl,rfl⟩
     ·exact ⟨.inl ⟨rfl,rfl⟩,by decide,rfl⟩
     ·exact ⟨.inr (.inl ⟨rfl,rfl⟩),by decide,okL_mono noP_below hok⟩
  ·have hok:=True.intro
   have l:List At:=[]
   rcases hs with h | h | ⟨h0,h1⟩
   ·have hd:=dot_out (.inl h) xs ys hb
    rw [←hd.1,←hd.2]
    refine lcl3 sound18 (dn_none_neg hb s 0 0 0 0 0 0 0 (0,0) 0 [] 0 (0,0) 0 []) (fun i b hib=> ?_) (cs_neg h) (memOK1 (Nat.le_of_ble_eq_true rfl) rfl) (hargs _ _ _ rfl rfl (by decide)) rfl E w hrel
    ·obtain ⟨rfl,rfl⟩:=get1 hib
     exact ⟨.inl ⟨rfl,rfl⟩,by decide,rfl⟩
   ·have hd:=dot_out (.inr h) xs ys hb
    rw [←hd.1,←hd.2]
    refine lcl3 sound18 (dn_none_big hb s 0 0 0 0 0 0 0 (0,0) 0 [] 0 (0,0) 0 []) (fun i b hib=> ?_) (cs_big h) (memOK1 (Nat.le_of_ble_eq_true rfl) rfl) (hargs _ _ _ rfl rfl (by decide)) rfl E w hrel
    ·obtain ⟨rfl,rfl⟩:=get1 hib
     exact ⟨.inl ⟨rfl,rfl⟩,by decide,rfl⟩
   ·have hd:=dot_nil (s:=s) (xs:=xs) (ys:=ys) (.inl hx) hb
    rw [←hd.1,←hd.2]
    refine lcl3 sound18 (dn_none_in hb s 0 0 0 0 0 0 0 (0,0) 0 [] 0 (0,0) 0 []) (fun i b hib=> ?_) (cs_in (decide_eq_false (by (repeat' split) <;> omega)) h0 h1) (memOK1 (Nat.le_of_ble_eq_true rfl) rfl) (hargs _ _ _ rfl rfl (by decide)) rfl E w hrel
    ·obtain ⟨rfl,rfl⟩:=get1 hib
     exact ⟨.inl ⟨rfl,rfl⟩,by decide,rfl⟩
def S21:FuncId→Option SumK:=more S18 81 (acSum 61 1 fdotS)
theorem sound21:Sound Tryz.prog S21:=sound18.more sumDot
end Go.Proofs.YtnlhpaidmiogbaaGreat

/- The local evaluator: summaries of closures over a flag's pointer, and over numbers. -/
namespace Go.Lr
open Go.RowKit
section
variable {P:Program} {S:FuncId→Option SumK} {z:Md}
def capsOf:List LV→Option (List LV×List Nat)
 | []=>some ([],[])
 | .v (.one (.ptr b 0))::l=>match capsOf l with
  | some ([],r)=>some ([],b::r)
  | _=>none
 | x::l=>match x.ok noP with
  | true=>match capsOf l with
   | some (p,r)=>some (x::p,r)
   | none=>none
  | false=>none
def ptrsL:List Nat→List LV
 | []=>[]
 | b::l=> .v (.one (.ptr b 0))::ptrsL l
theorem capsOf_spec:∀{args pl:List LV} {r:List Nat},capsOf args=some (pl,r)→args=pl++ptrsL r∧plainVs pl=true:=by
 intro args
 induction args with
 | nil=>intro pl r h;simp only [capsOf] at h;cases h;exact ⟨rfl,rfl⟩
 | cons x l ih=>
  intro pl r h
  unfold capsOf at h
  split at h
  ·rename_i e;cases e
  ·rename_i b l' e
   cases e
   split at h
   ·rename_i r' hr
    cases h
    obtain ⟨i1,-⟩:=ih hr
    exact ⟨by rw [i1];rfl,rfl⟩
   ·cases h
  ·rename_i x' l' _ e
   cases e
   split at h
   ·rename_i hx
    split at h
    ·rename_i p r' hr
     cases h
     obtain ⟨i1,i2⟩:=ih hr
     exact ⟨by rw [i1];rfl,by simp only [plainVs,hx,i2]⟩
    ·cases h
   ·cases h
def isCell (k:Blk) (c:Nat):Bool:=
 match k.cells with
 | [.ptr b 0]=>Nat.beq b c
 | _=>false
theorem isCell_spec {k:Blk} {c:Nat} (h:isCell k c=true):k.cells=[.ptr c 0]:=by
 unfold isCell at h
 split at h
 ·rename_i b hb
  rw [nbeq] at h
  have:b=c:=by simpa using h
  subst this;exact hb
 ·cases h
def clSum (ty:TypeId) (F:List LV→List (List At)→Bool→Option (LV×Bool×List (Bool×Bool))):List LV→List (Nat×LV)→Option Tch:=fun args pk=>
 match capsOf args,pk with
 | some (pl,cc::rest),[(_,.v (.one (.ptr acc 0)))]=>match memB (cc::rest) acc,memB rest cc with
  | false,false=>match rest with
   | []=>some ⟨[cc],[acc],fun rdB wB _=>match rdB,wB with
    | [kc],[⟨t,(0,0),0,[.bool h]⟩]=>match Nat.beq t ty,isCell kc acc with
     | true,true=>match F pl [] h with
      | some (v,h',cs)=>match v.ok noP with
       | true=>some ⟨v,[flag ty h'],[],cs⟩
       | false=>none
      | none=>none
     | _,_=>none
    | _,_=>none⟩
   | [d]=>some ⟨[cc,d],[acc],fun rdB wB _=>match rdB,wB with
    | [kc,kd],[⟨t,(0,0),0,[.bool h]⟩]=>match Nat.beq t ty,isCell kc acc,okL noP kd.cells with
     | true,true,true=>match F pl [kd.cells] h with
      | some (v,h',cs)=>match v.ok noP with
       | true=>some ⟨v,[flag ty h'],[],cs⟩
       | false=>none
      | none=>none
     | _,_,_=>none
    | _,_=>none⟩
   | _=>none
  | _,_=>none
 | _,_=>none
theorem call_upP {f:FuncId} (ho:Own P f) {args args':List LV} {m m':Mem} {ren:Nat→Nat} {g:Nat→Option Blk} {nb c:Nat} {ty:TypeId} {h h':Bool} {v:LV} {E E1:Env} {w:World}
  (hE:∀i,E1 i=E (ren i)) (hrel:Rel E g w) (hc:g c=some (flag ty h)) (h0:getM m' 0=some (flag ty h')) (hren0:ren 0=c)
  (hm:∀i b,getM m i=some b→∃b',g (ren i)=some b'∧b'.ty=b.ty∧b'.fr=b.fr∧b'.es=b.es∧b'.cells.map (At.den E)=b.cells.map (At.den E1))
  (hm':∀i b,i≠0→getM m i=some b→getM m' i=some b)
  (hargs:args.map (LV.den E)=args'.map (LV.den E1)) (hv:v.ok noP=true)
  (hcall:Calls P f (args'.map (LV.den E1)).toArray w fun e w'=>e = .returned (v.den E0)∧Lcl E1 m m' w w'):
  CallOK P f (args.map (LV.den E)).toArray w fun u w'=>∃E',u=v.den E'∧Post w E g nb ⟨v,[(c,some (flag ty h'))],[],[],[]⟩ E' w':=by
 obtain ⟨fn,f1,f2,f3⟩:=ho
 rw [hargs]
 refine .inl ⟨fn,f1,f2,f3,hcall.mono ?_⟩
 rintro e w' ⟨rfl,hl⟩
 refine ⟨_,rfl,E,(den_noP hv).symm,post_lcl hrel hc hl.os hl.tape hl.output hl.size ?_ (fun i b hi hib=> ?_) fun b hb hne=>hl.frame b hb fun i hi=> ?_⟩
 ·exact blkAt_ren (E:=E1) (i:=0) rfl (by rw [hE,hren0]) (hl.blk 0 _ h0)
 ·by_cases hex:∃j,(getM m j).isSome∧ren j=i
  ·obtain ⟨j,hj,rfl⟩:=hex
   obtain ⟨b',hb'⟩:=Option.isSome_iff_exists.1 hj
   obtain ⟨b2,q1,q2,q3,q4,q5⟩:=hm j b' hb'
   have:b2=b:=by rw [hib] at q1;cases q1;rfl
   subst this
   have hj0:j≠0:=fun e=>hi (by rw [e,hren0])
   obtain ⟨r,g1,g2,g3⟩:=hl.blk j _ (hm' j _ hj0 hb')
   have hlen:b2.cells.length=b'.cells.length:=by
    have:=congrArg List.length q5
    simpa using this
   exact ⟨r,by rw [←hE j,g1,q2,q3,q5],fun he=>g2 (by rw [←q4];exact he),fun he=>by rw [hlen,q4,←hE j];exact g3 (by rw [←q4];exact he)⟩
  ·obtain ⟨r,g1,g2,g3⟩:=hrel.blk i b hib
   refine ⟨r, ?_,g2,g3⟩
   rw [hl.frame _ (Array.getElem?_eq_some_iff.1 g1).1 fun j hj e=>hex ⟨j,hj, ?_⟩]
   ·exact g1
   ·obtain ⟨b',hb'⟩:=Option.isSome_iff_exists.1 hj
    obtain ⟨b2,q1,-⟩:=hm j b' hb'
    rw [hE] at e
    exact hrel.inj _ _ (by rw [q1];rfl) (by rw [hib];rfl) e
 ·obtain ⟨b',hb'⟩:=Option.isSome_iff_exists.1 hi
  obtain ⟨b2,q1,-⟩:=hm i b' hb'
  rw [hE]
  exact hne _ (by rw [q1];rfl)
theorem relP {E E1:Env} {g:Nat→Option Blk} {w:World} {ren:Nat→Nat} {m:Mem} (hrel:Rel E g w) (hE:∀i,E1 i=E (ren i))
  (hm:∀i b,getM m i=some b→∃b',g (ren i)=some b'∧b'.ty=b.ty∧b'.fr=b.fr∧b'.es=b.es∧b'.cells.map (At.den E)=b.cells.map (At.den E1))
  (hi:∀i j,(getM m i).isSome→(getM m j).isSome→ren i=ren j→i=j):Rel E1 (getM m) w:=by
 refine ⟨fun i b hib=> ?_,fun i j h1 h2 he=> ?_⟩
 ·obtain ⟨b',q1,q2,q3,q4,q5⟩:=hm i b hib
  obtain ⟨r,g1,g2,g3⟩:=hrel.blk _ _ q1
  have hlen:b'.cells.length=b.cells.length:=by
   have:=congrArg List.length q5
   simpa using this
  exact ⟨r,by rw [hE,g1,q2,q3,q5],fun hz=>g2 (by rw [q4];exact hz),fun hz=>by rw [←hlen,←q4,hE];exact g3 (by rw [q4];exact hz)⟩
 ·obtain ⟨b1,e1⟩:=Option.isSome_iff_exists.1 h1
  obtain ⟨b2,e2⟩:=Option.isSome_iff_exists.1 h2
  obtain ⟨c1,q1,-⟩:=hm i b1 e1
  obtain ⟨c2,q2,-⟩:=hm j b2 e2
  rw [hE,hE] at he
  exact hi i j h1 h2 (hrel.inj _ _ (by rw [q1];rfl) (by rw [q2];rfl) he)
def PT (b:Nat):LV:= .v (.one (.ptr b 0))
def pcell (ty:TypeId) (fr:Nat×Nat) (es:Nat):Blk:=⟨ty,fr,es,[.ptr 0 0]⟩
theorem clSum_ok {f:FuncId} (ho:Own P f) {ty:TypeId} {F:List LV→List (List At)→Bool→Option (LV×Bool×List (Bool×Bool))}
  (h1:∀(pl:List LV) (hb:Bool) (v:LV) (h':Bool) (cs:List (Bool×Bool)),F pl [] hb=some (v,h',cs)→(∀c∈cs,c.1=c.2)→plainVs pl=true→v.ok noP=true→∀(tc:TypeId) (fc:Nat×Nat) (ec:Nat) (E:Env) (w:World),
   Rel E (getM [(0,flag ty hb),(1,pcell tc fc ec)]) w→Calls P f ((pl++[PT 1]).map (LV.den E)).toArray w fun e w'=>e = .returned (v.den E0)∧Lcl E [(0,flag ty hb),(1,pcell tc fc ec)] [(0,flag ty h'),(1,pcell tc fc ec)] w w')
  (h2:∀(pl:List LV) (kd:Blk) (hb:Bool) (v:LV) (h':Bool) (cs:List (Bool×Bool)),F pl [kd.cells] hb=some (v,h',cs)→(∀c∈cs,c.1=c.2)→plainVs pl=true→v.ok noP=true→okL noP kd.cells=true→∀(tc:TypeId) (fc:Nat×Nat) (ec:Nat) (E:Env) (w:World),
   Rel E (getM [(0,flag ty hb),(1,pcell tc fc ec),(2,kd)]) w→Calls P f ((pl++[PT 1,PT 2]).map (LV.den E)).toArray w fun e w'=>e = .returned (v.den E0)∧Lcl E [(0,flag ty hb),(1,pcell tc fc ec),(2,kd)] [(0,flag ty h'),(1,pcell tc fc ec),(2,kd)] w w'):
  PeekOK P f (clSum ty F):=by
 intro args t g nb p rdB wrB ans ws E w hs hr hw _ hgo hz hc hrel hg hargs hn
 unfold clSum at hs
 split at hs
 ·rename_i pl cc rest b0 acc hcap hpk
  obtain ⟨rfl,hpl⟩:=capsOf_spec hcap
  have hpl':=plainVs_iff.1 hpl
  split at hs
  ·rename_i hm1 hm2
   have na:acc ∉ cc::rest:=memB_false hm1
   have nc:cc ∉ rest:=memB_false hm2
   split at hs
   ·cases hs
    simp only at hgo hw hr
    split at hgo
    ·rename_i kc t' hb
     split at hgo
     ·rename_i hty hcell
      rw [nbeq] at hty
      have hty':t'=ty:=by simpa using hty
      subst hty'
      have hkc:=isCell_spec hcell
      split at hgo
      ·rename_i v h' cs hF
       split at hgo
       ·rename_i hv
        cases hgo
        obtain ⟨ka,r',hka,hr',hrr⟩:=liveAll_cons hw
        cases liveAll_nil hr'
        cases hrr
        obtain ⟨kc',r2,hkc',hr2,hrr2⟩:=liveAll_cons hr
        cases liveAll_nil hr2
        cases hrr2
        simp only [zipW] at hz
        cases hz
        have hf0:(⟨t',(0,0),0,[.bool hb]⟩:Blk)=flag t' hb:=rfl
        rw [hf0] at hka
        generalize hE1:(fun i=>E (ren2 acc cc i))=E1
        have hE:∀i,E1 i=E (ren2 acc cc i):=fun i=>by rw [←hE1]
        have hm:∀i b,getM [(0,flag t' hb),(1,pcell kc.ty kc.fr kc.es)] i=some b→∃b',g (ren2 acc cc i)=some b'∧b'.ty=b.ty∧b'.fr=b.fr∧b'.es=b.es∧b'.cells.map (At.den E)=b.cells.map (At.den E1):=by
         intro i b hib
         rcases get2 hib with ⟨rfl,rfl⟩ | ⟨rfl,rfl⟩
         ·exact ⟨_,hka,rfl,rfl,rfl,rfl⟩
         ·refine ⟨_,hkc',rfl,rfl,rfl, ?_⟩
          rw [hkc]
          simp only [pcell,List.map_cons,List.map_nil,At.den,hE,ren2]
        have hcl:=h1 pl hb v h' cs hF hc hpl hv kc.ty kc.fr kc.es E1 w (relP hrel hE hm fun i j hi hj he=>by
         obtain ⟨bi,hbi⟩:=Option.isSome_iff_exists.1 hi
         obtain ⟨bj,hbj⟩:=Option.isSome_iff_exists.1 hj
         have hne:acc≠cc:=fun e=>na (by rw [e];simp)
         rcases get2 hbi with ⟨rfl,-⟩ | ⟨rfl,-⟩ <;> rcases get2 hbj with ⟨rfl,-⟩ | ⟨rfl,-⟩
         ·rfl
         ·exact absurd he hne
         ·exact absurd he.symm hne
         ·rfl)
        refine call_upP ho hE hrel hka rfl rfl hm (fun i q h0 hq=> ?_) ?_ hv hcl
        ·rw [getM_cons,if_neg h0] at hq ⊢;exact hq
        ·simp only [ptrsL,List.map_append,List.map_cons,List.map_nil]
         rw [denL_noP hpl',denL_noP (E:=E1) hpl']
         simp only [PT,LV.den,V1.den,At.den,hE,ren2]
       ·cases hgo
      ·cases hgo
     ·cases hgo
    ·cases hgo
   ·rename_i d
    cases hs
    simp only at hgo hw hr
    split at hgo
    ·rename_i kc kd t' hb
     split at hgo
     ·rename_i hty hcell hkd
      rw [nbeq] at hty
      have hty':t'=ty:=by simpa using hty
      subst hty'
      have hkc:=isCell_spec hcell
      split at hgo
      ·rename_i v h' cs hF
       split at hgo
       ·rename_i hv
        cases hgo
        obtain ⟨ka,r',hka,hr',hrr⟩:=liveAll_cons hw
        cases liveAll_nil hr'
        cases hrr
        obtain ⟨kc',r2,hkc',hr2,hrr2⟩:=liveAll_cons hr
        cases hrr2
        obtain ⟨kd',r3,hkd',hr3,hrr3⟩:=liveAll_cons hr2
        cases liveAll_nil hr3
        cases hrr3
        simp only [zipW] at hz
        cases hz
        have hf0:(⟨t',(0,0),0,[.bool hb]⟩:Blk)=flag t' hb:=rfl
        rw [hf0] at hka
        generalize hE1:(fun i=>E (ren3 acc cc d i))=E1
        have hE:∀i,E1 i=E (ren3 acc cc d i):=fun i=>by rw [←hE1]
        have hm:∀i b,getM [(0,flag t' hb),(1,pcell kc.ty kc.fr kc.es),(2,kd)] i=some b→∃b',g (ren3 acc cc d i)=some b'∧b'.ty=b.ty∧b'.fr=b.fr∧b'.es=b.es∧b'.cells.map (At.den E)=b.cells.map (At.den E1):=by
         intro i b hib
         rcases get3 hib with ⟨rfl,rfl⟩ | ⟨rfl,rfl⟩ | ⟨rfl,rfl⟩
         ·exact ⟨_,hka,rfl,rfl,rfl,rfl⟩
         ·refine ⟨_,hkc',rfl,rfl,rfl, ?_⟩
          rw [hkc]
          simp only [pcell,List.map_cons,List.map_nil,At.den,hE,ren3]
         ·exact ⟨_,hkd',rfl,rfl,rfl,by rw [denA_noP hkd,denA_noP (E:=E1) hkd]⟩
        have hcl:=h2 pl kd hb v h' cs hF hc hpl hv hkd kc.ty kc.fr kc.es E1 w (relP hrel hE hm fun i j hi hj he=>by
         obtain ⟨bi,hbi⟩:=Option.isSome_iff_exists.1 hi
         obtain ⟨bj,hbj⟩:=Option.isSome_iff_exists.1 hj
         have n1:acc≠cc:=fun e=>na (by rw [e];simp)
         have n2:acc≠d:=fun e=>na (by rw [e];simp)
         have n3:cc≠d:=fun e=>nc (by rw [e];simp)
         rcases get3 hbi with ⟨rfl,-⟩ | ⟨rfl,-⟩ | ⟨rfl,-⟩ <;> rcases get3 hbj with ⟨rfl,-⟩ | ⟨rfl,-⟩ | ⟨rfl,-⟩
         ·rfl
         ·exact absurd he n1
         ·exact absurd he n2
         ·exact absurd he.symm n1
         ·rfl
         ·exact absurd he n3
         ·exact absurd he.symm n2
         ·exact absurd he.symm n3
         ·rfl)
        refine call_upP ho hE hrel hka rfl rfl hm (fun i q h0 hq=> ?_) ?_ hv hcl
        ·rw [getM_cons,if_neg h0] at hq ⊢;exact hq
        ·simp only [ptrsL,List.map_append,List.map_cons,List.map_nil]
         rw [denL_noP hpl',denL_noP (E:=E1) hpl']
         simp only [PT,LV.den,V1.den,At.den,hE,ren3]
       ·cases hgo
      ·cases hgo
     ·cases hgo
    ·cases hgo
   ·cases hs
  ·cases hs
 ·cases hs
end
end Go.Lr

/- The closures of quat and rot: their runs, their summaries. -/
namespace Go.Proofs.YtnlhpaidmiogbaaGreat
open Go.Lr
set_option linter.unusedVariables false
set_option linter.unusedSimpArgs false
def C4 (a0 a1 a2 a3:Int):List At:=[.int .i64 a0,.int .i64 a1,.int .i64 a2,.int .i64 a3]
theorem cl4_ok {f:FuncId} (ho:Own Tryz.prog f) {ty:TypeId} {V:Int→Int→Int→Int→Int→Int→Int→Int→Int} {H:Int→Int→Int→Int→Int→Int→Int→Int→Bool} {S:FuncId→Option SumK} (hs:Sound Tryz.prog S) {n:Nat}
  {F:List LV→List (List At)→Bool→Option (LV×Bool×List (Bool×Bool))}
  (hF:∀pl cl hb r,F pl cl hb=some r→∃w x y z a0 a1 a2 a3,pl=[I w,I x,I y,I z]∧cl=[C4 a0 a1 a2 a3]∧r=(I (V w x y z a0 a1 a2 a3),hb||H w x y z a0 a1 a2 a3,[]))
  (hr:∀w x y z a0 a1 a2 a3 hb tc fc ec td fd ed,(runF Tryz.prog S Zl n f [I w,I x,I y,I z,PT 1,PT 2] [(0,flag ty hb),(1,pcell tc fc ec),(2,⟨td,fd,ed,C4 a0 a1 a2 a3⟩)] 3 []).map (fun r=>(r.1,getM r.2.1 0,getM r.2.1 1,getM r.2.1 2,r.2.2.2)) =
   some (I (V w x y z a0 a1 a2 a3),some (flag ty (hb||H w x y z a0 a1 a2 a3)),some (pcell tc fc ec),some ⟨td,fd,ed,C4 a0 a1 a2 a3⟩,[])):PeekOK Tryz.prog f (clSum ty F):=by
 refine clSum_ok ho (fun pl hb v h' cs hf _ _ _=> ?_) fun pl kd hb v h' cs hf hc _ _ hok tc fc ec E w hrel=> ?_
 ·obtain ⟨w,x,y,z,a0,a1,a2,a3,-,h,-⟩:=hF _ _ _ _ hf
  cases h
 ·obtain ⟨w',x,y,z,a0,a1,a2,a3,rfl,h,h'⟩:=hF _ _ _ _ hf
  cases h'
  obtain ⟨td,fd,ed,l⟩:=kd
  simp only [List.cons.injEq,and_true] at h
  subst h
  refine lcl3 hs (hr w' x y z a0 a1 a2 a3 hb tc fc ec td fd ed) (fun i b hib=> ?_) ae_nil rfl (fun u hu=> ?_) rfl E w hrel
  ·rcases get3 hib with ⟨rfl,rfl⟩ | ⟨rfl,rfl⟩ | ⟨rfl,rfl⟩
   ·exact ⟨.inl ⟨rfl,rfl⟩,by decide,rfl⟩
   ·exact ⟨.inr (.inl ⟨rfl,rfl⟩),by decide,rfl⟩
   ·exact ⟨.inr (.inr ⟨rfl,rfl⟩),by decide,rfl⟩
  ·simp only [List.cons_append,List.nil_append,List.mem_cons,List.not_mem_nil,or_false] at hu
   rcases hu with rfl | rfl | rfl | rfl | rfl | rfl <;> rfl
theorem cl0_ok {f:FuncId} (ho:Own Tryz.prog f) {ty:TypeId} {V:Int→Int→Int→Int→Int} {H:Int→Int→Int→Int→Bool} {S:FuncId→Option SumK} (hs:Sound Tryz.prog S) {n:Nat}
  {F:List LV→List (List At)→Bool→Option (LV×Bool×List (Bool×Bool))}
  (hF:∀pl cl hb r,F pl cl hb=some r→∃w x y z,pl=[I w,I x,I y,I z]∧cl=[]∧r=(I (V w x y z),hb||H w x y z,[]))
  (hr:∀w x y z hb tc fc ec,(runF Tryz.prog S Zl n f [I w,I x,I y,I z,PT 1] [(0,flag ty hb),(1,pcell tc fc ec)] 2 []).map (fun r=>(r.1,getM r.2.1 0,getM r.2.1 1,(none:Option Blk),r.2.2.2)) =
   some (I (V w x y z),some (flag ty (hb||H w x y z)),some (pcell tc fc ec),none,[])):PeekOK Tryz.prog f (clSum ty F):=by
 refine clSum_ok ho (fun pl hb v h' cs hf hc _ _ tc fc ec E w hrel=> ?_) fun pl kd hb v h' cs hf _ _ _ _=> ?_
 ·obtain ⟨w',x,y,z,rfl,-,h'⟩:=hF _ _ _ _ hf
  cases h'
  have hq:=hr w' x y z hb tc fc ec
  cases hrun:runF Tryz.prog S Zl n f [I w',I x,I y,I z,PT 1] [(0,flag ty hb),(1,pcell tc fc ec)] 2 [] with
  | none=>rw [hrun] at hq;cases hq
  | some q=>
   obtain ⟨v',m2,nb',cs'⟩:=q
   rw [hrun] at hq
   simp only [Option.map_some,Option.some.injEq,Prod.mk.injEq,and_true,true_and] at hq
   obtain ⟨rfl,e0,e1,rfl⟩:=hq
   refine lcl_of_run hs hrun (fun i b hib=> ?_) ae_nil rfl (fun u hu=> ?_) rfl E w hrel
   ·rcases get2 hib with ⟨rfl,rfl⟩ | ⟨rfl,rfl⟩
    ·exact ⟨e0,by decide,rfl⟩
    ·exact ⟨e1,by decide,rfl⟩
   ·simp only [List.cons_append,List.nil_append,List.mem_cons,List.not_mem_nil,or_false] at hu
    rcases hu with rfl | rfl | rfl | rfl | rfl <;> rfl
 ·obtain ⟨w,x,y,z,-,h,-⟩:=hF _ _ _ _ hf
  cases h
def q1V (w x y z a0 a1 a2 a3:Int):Int:=dotV 30 [a0,a1,a2,a3] [w,x,y,z]
def q1H (w x y z a0 a1 a2 a3:Int):Bool:=dotH 30 [a0,a1,a2,a3] [w,x,y,z]
def q1F:List LV→List (List At)→Bool→Option (LV×Bool×List (Bool×Bool))
 | [.v (.one (.int .i64 w)),.v (.one (.int .i64 x)),.v (.one (.int .i64 y)),.v (.one (.int .i64 z))],[[.int .i64 a0,.int .i64 a1,.int .i64 a2,.int .i64 a3]],hb=>some (I (q1V w x y z a0 a1 a2 a3),hb||q1H w x y z a0 a1 a2 a3,[])
 | _,_,_=>none
def s1V (w x y z a0 a1 a2 a3:Int):Int:=dotV 30 [a0,a1,a2,a3] [wr .i64 (w*a0),wr .i64 (x*a1),wr .i64 (y*a2),wr .i64 (z*a3)]
def s1H (w x y z a0 a1 a2 a3:Int):Bool:=dotH 30 [a0,a1,a2,a3] [wr .i64 (w*a0),wr .i64 (x*a1),wr .i64 (y*a2),wr .i64 (z*a3)]
def s1F:List LV→List (List At)→Bool→Option (LV×Bool×List (Bool×Bool))
 | [.v (.one (.int .i64 w)),.v (.one (.int .i64 x)),.v (.one (.int .i64 y)),.v (.one (.int .i64 z))],[[.int .i64 a0,.int .i64 a1,.int .i64 a2,.int .i64 a3]],hb=>some (I (s1V w x y z a0 a1 a2 a3),hb||s1H w x y z a0 a1 a2 a3,[])
 | _,_,_=>none
def t1V (a b d e:Int):Int:=dotV 30 [a,a,d,d] [b,b,e,e]
def t1H (a b d e:Int):Bool:=dotH 30 [a,a,d,d] [b,b,e,e]
def t1F:List LV→List (List At)→Bool→Option (LV×Bool×List (Bool×Bool))
 | [.v (.one (.int .i64 a)),.v (.one (.int .i64 b)),.v (.one (.int .i64 d)),.v (.one (.int .i64 e))],[],hb=>some (I (t1V a b d e),hb||t1H a b d e,[])
 | _,_,_=>none
theorem sumQ1:PeekOK Tryz.prog 195 (clSum 61 q1F):=by
 refine cl4_ok (n:=2000) (own_of sound21 Tryz.func195 (by kernel_rfl)) sound21 (V:=q1V) (H:=q1H) (fun pl cl hb r h=> ?_) fun w x y z a0 a1 a2 a3 hb tc fc ec td fd ed=>by kernel_rfl
 unfold q1F at h
 split at h
 ·cases h;exact ⟨_,_,_,_,_,_,_,_,rfl,rfl,rfl⟩
 ·cases h
theorem sumS1:PeekOK Tryz.prog 82 (clSum 61 s1F):=by
 refine cl4_ok (n:=2000) (own_of sound21 Tryz.func82 (by kernel_rfl)) sound21 (V:=s1V) (H:=s1H) (fun pl cl hb r h=> ?_) fun w x y z a0 a1 a2 a3 hb tc fc ec td fd ed=>by kernel_rfl
 unfold s1F at h
 split at h
 ·cases h;exact ⟨_,_,_,_,_,_,_,_,rfl,rfl,rfl⟩
 ·cases h
theorem sumT1:PeekOK Tryz.prog 83 (clSum 61 t1F):=by
 refine cl0_ok (n:=2000) (own_of sound21 Tryz.func83 (by kernel_rfl)) sound21 (V:=t1V) (H:=t1H) (fun pl cl hb r h=> ?_) fun a b d e hb tc fc ec=>by kernel_rfl
 unfold t1F at h
 split at h
 ·cases h;exact ⟨_,_,_,_,rfl,rfl,rfl⟩
 ·cases h
def S21q:FuncId→Option SumK:=moreP S21 195 (clSum 61 q1F)
theorem sound21q:Sound Tryz.prog S21q:=sound21.moreP sumQ1
def S22:FuncId→Option SumK:=moreP (moreP S21q 82 (clSum 61 s1F)) 83 (clSum 61 t1F)
theorem sound22:Sound Tryz.prog S22:=(sound21q.moreP sumS1).moreP sumT1
end Go.Proofs.YtnlhpaidmiogbaaGreat

/- qsat, rof, qone: runs and summaries (printed). -/
namespace Go.Proofs.YtnlhpaidmiogbaaGreat
open Go.Lr
set_option linter.unusedVariables false
set_option linter.unusedSimpArgs false
theorem qsatR1 (a0 a1 a2 a3:Int) (hb:Bool):(runF Tryz.prog S22 Zl 2000 134 [A0,.v (.agg [.int .i64 a0,.int .i64 a1,.int .i64 a2,.int .i64 a3])] [(0,flag 61 hb)] 1 [none,none,none,none,none]).map acc3=some (LV.v (V1.agg [At.int IntKind.i64 (satV a0),At.int IntKind.i64 (satV a1),At.int IntKind.i64 (satV a2),At.int IntKind.i64 (satV a3)]),some { ty:=61,fr:=(0,0),es:=0,cells:=[At.bool (hb||satH a0||satH a1||satH a2||satH a3)] },[]):=by kernel_rfl
def qsatT (a0 a1 a2 a3:Int) (hb:Bool):Option (LV×Bool×List (Bool×Bool)):=some (LV.v (V1.agg [At.int IntKind.i64 (satV a0),At.int IntKind.i64 (satV a1),At.int IntKind.i64 (satV a2),At.int IntKind.i64 (satV a3)]),(hb||satH a0||satH a1||satH a2||satH a3),[])
def qsatF:List LV→Bool→Option (LV×Bool×List (Bool×Bool))
 | [.v (.agg [.int .i64 a0,.int .i64 a1,.int .i64 a2,.int .i64 a3])],hb=>qsatT a0 a1 a2 a3 hb
 | _,_=>none
theorem sumqsat:SumOK Tryz.prog 134 (accSum 61 qsatF):=by
 refine accSum_run (z:=Zl) sound22 (own_of sound22 Tryz.func134 (by kernel_rfl)) fun args hb v h' cs hF hc=> ?_
 unfold qsatF at hF
 split at hF
 ·rename_i a0 a1 a2 a3
  unfold qsatT at hF
  cases hF
  exact ⟨rfl,2000,[none,none,none,none,none],_,qsatR1 a0 a1 a2 a3 hb,ae_nil⟩
 ·cases hF
theorem rofR1 (a0 a1 a2 a3:Int) (hb:Bool):(runF Tryz.prog S22 Zl 2000 38 [A0,.v (.agg [.int .i64 a0,.int .i64 a1,.int .i64 a2,.int .i64 a3])] [(0,flag 61 hb)] 1 [none,none,none,none,none]).map acc3=some (LV.v (V1.agg [At.int IntKind.i64 (s1V 1 1 (-1) (-1) (satV a0) (satV a1) (satV a2) (satV a3)),At.int IntKind.i64 (t1V (satV a1) (satV a2) (wr IntKind.i64 (0 - satV a0)) (satV a3)),At.int IntKind.i64 (t1V (satV a1) (satV a3) (satV a0) (satV a2)),At.int IntKind.i64 (t1V (satV a1) (satV a2) (satV a0) (satV a3)),At.int IntKind.i64 (s1V 1 (-1) 1 (-1) (satV a0) (satV a1) (satV a2) (satV a3)),At.int IntKind.i64 (t1V (satV a2) (satV a3) (wr IntKind.i64 (0 - satV a0)) (satV a1)),At.int IntKind.i64 (t1V (satV a1) (satV a3) (wr IntKind.i64 (0 - satV a0)) (satV a2)),At.int IntKind.i64 (t1V (satV a2) (satV a3) (satV a0) (satV a1)),At.int IntKind.i64 (s1V 1 (-1) (-1) 1 (satV a0) (satV a1) (satV a2) (satV a3))]),some { ty:=61,fr:=(0,0),es:=0,cells:=[At.bool (hb||satH a0||satH a1||satH a2||satH a3||s1H 1 1 (-1) (-1) (satV a0) (satV a1) (satV a2) (satV a3)||t1H (satV a1) (satV a2) (wr IntKind.i64 (0 - satV a0)) (satV a3)||t1H (satV a1) (satV a3) (satV a0) (satV a2)||t1H (satV a1) (satV a2) (satV a0) (satV a3)||s1H 1 (-1) 1 (-1) (satV a0) (satV a1) (satV a2) (satV a3)||t1H (satV a2) (satV a3) (wr IntKind.i64 (0 - satV a0)) (satV a1)||t1H (satV a1) (satV a3) (wr IntKind.i64 (0 - satV a0)) (satV a2)||t1H (satV a2) (satV a3) (satV a0) (satV a1)||s1H 1 (-1) (-1) 1 (satV a0) (satV a1) (satV a2) (satV a3))] },[]):=by kernel_rfl
def rofT (a0 a1 a2 a3:Int) (hb:Bool):Option (LV×Bool×List (Bool×Bool)):=some (LV.v (V1.agg [At.int IntKind.i64 (s1V 1 1 (-1) (-1) (satV a0) (satV a1) (satV a2) (satV a3)),At.int IntKind.i64 (t1V (satV a1) (satV a2) (wr IntKind.i64 (0 - satV a0)) (satV a3)),At.int IntKind.i64 (t1V (satV a1) (satV a3) (satV a0) (satV a2)),At.int IntKind.i64 (t1V (satV a1) (satV a2) (satV a0) (satV a3)),At.int IntKind.i64 (s1V 1 (-1) 1 (-1) (satV a0) (satV a1) (satV a2) (satV a3)),At.int IntKind.i64 (t1V (satV a2) (satV a3) (wr IntKind.i64 (0 - satV a0)) (satV a1)),At.int IntKind.i64 (t1V (satV a1) (satV a3) (wr IntKind.i64 (0 - satV a0)) (satV a2)),At.int IntKind.i64 (t1V (satV a2) (satV a3) (satV a0) (satV a1)),At.int IntKind.i64 (s1V 1 (-1) (-1) 1 (satV a0) (satV a1) (satV a2) (satV a3))]),(hb||satH a0||satH a1||satH a2||satH a3||s1H 1 1 (-1) (-1) (satV a0) (satV a1) (satV a2) (satV a3)||t1H (satV a1) (satV a2) (wr IntKind.i64 (0 - satV a0)) (satV a3)||t1H (satV a1) (satV a3) (satV a0) (satV a2)||t1H (satV a1) (satV a2) (satV a0) (satV a3)||s1H 1 (-1) 1 (-1) (satV a0) (satV a1) (satV a2) (satV a3)||t1H (satV a2) (satV a3) (wr IntKind.i64 (0 - satV a0)) (satV a1)||t1H (satV a1) (satV a3) (wr IntKind.i64 (0 - satV a0)) (satV a2)||t1H (satV a2) (satV a3) (satV a0) (satV a1)||s1H 1 (-1) (-1) 1 (satV a0) (satV a1) (satV a2) (satV a3)),[])
def rofF:List LV→Bool→Option (LV×Bool×List (Bool×Bool))
 | [.v (.agg [.int .i64 a0,.int .i64 a1,.int .i64 a2,.int .i64 a3])],hb=>rofT a0 a1 a2 a3 hb
 | _,_=>none
theorem sumrof:SumOK Tryz.prog 38 (accSum 61 rofF):=by
 refine accSum_run (z:=Zl) sound22 (own_of sound22 Tryz.func38 (by kernel_rfl)) fun args hb v h' cs hF hc=> ?_
 unfold rofF at hF
 split at hF
 ·rename_i a0 a1 a2 a3
  unfold rofT at hF
  cases hF
  exact ⟨rfl,2000,[none,none,none,none,none],_,rofR1 a0 a1 a2 a3 hb,ae_nil⟩
 ·cases hF
theorem qoneR1 :(runF Tryz.prog S22 Zl 2000 115 [] [] 0 []).map (fun r=>(r.1,r.2.2.2))=some (LV.v (V1.agg [At.int IntKind.i64 1073741824,At.int IntKind.i64 0,At.int IntKind.i64 0,At.int IntKind.i64 0]),[]):=by kernel_rfl
def qoneT :Option (LV×List (Bool×Bool)):=some (LV.v (V1.agg [At.int IntKind.i64 1073741824,At.int IntKind.i64 0,At.int IntKind.i64 0,At.int IntKind.i64 0]),[])
def qoneF:List LV→Option (LV×List (Bool×Bool))
 | []=>qoneT
 | _=>none
theorem sumqone:SumOK Tryz.prog 115 (pureSum qoneF):=by
 refine pureSum_run (z:=Zl) sound22 (own_of sound22 Tryz.func115 (by kernel_rfl)) fun args v cs hF hc=> ?_
 unfold qoneF at hF
 split at hF
 ·unfold qoneT at hF
  cases hF
  exact ⟨2000,[],_,qoneR1 ,ae_nil⟩
 ·cases hF
def S23:FuncId→Option SumK:=(more (more (more S22 134 (accSum 61 qsatF)) 38 (accSum 61 rofF)) 115 (pureSum qoneF))
theorem sound23:Sound Tryz.prog S23:=(((sound22.more sumqsat).more sumrof).more sumqone)
end Go.Proofs.YtnlhpaidmiogbaaGreat

/- Summaries that the evaluator makes by running the callee. -/
namespace Go.Proofs.YtnlhpaidmiogbaaGreat
open Go.Lr
noncomputable def T0:FuncId→Option SumK:=S23
theorem soundT0:Sound Tryz.prog T0:=sound23
noncomputable def T1:FuncId→Option SumK:=more T0 186 (autoP Tryz.prog T0 Zl 2000 186)
theorem soundT1:Sound Tryz.prog T1:=soundT0.more (autoP_ok soundT0 (own_of soundT0 Tryz.func186 (by kernel_rfl)))
noncomputable def T2:FuncId→Option SumK:=more T1 127 (autoP Tryz.prog T1 Zl 2000 127)
theorem soundT2:Sound Tryz.prog T2:=soundT1.more (autoP_ok soundT1 (own_of soundT1 Tryz.func127 (by kernel_rfl)))
noncomputable def T3:FuncId→Option SumK:=more T2 126 (autoP Tryz.prog T2 Zl 2000 126)
theorem soundT3:Sound Tryz.prog T3:=soundT2.more (autoP_ok soundT2 (own_of soundT2 Tryz.func126 (by kernel_rfl)))
noncomputable def T4:FuncId→Option SumK:=more T3 125 (autoP Tryz.prog T3 Zl 2000 125)
theorem soundT4:Sound Tryz.prog T4:=soundT3.more (autoP_ok soundT3 (own_of soundT3 Tryz.func125 (by kernel_rfl)))
noncomputable def T5:FuncId→Option SumK:=more T4 117 (autoP Tryz.prog T4 Zl 2000 117)
theorem soundT5:Sound Tryz.prog T5:=soundT4.more (autoP_ok soundT4 (own_of soundT4 Tryz.func117 (by kernel_rfl)))
noncomputable def T6:FuncId→Option SumK:=more T5 148 (autoP Tryz.prog T5 Zl 2000 148)
theorem soundT6:Sound Tryz.prog T6:=soundT5.more (autoP_ok soundT5 (own_of soundT5 Tryz.func148 (by kernel_rfl)))
noncomputable def T7:FuncId→Option SumK:=T6
theorem soundT7:Sound Tryz.prog T7:=soundT6
noncomputable def T8:FuncId→Option SumK:=T7
theorem soundT8:Sound Tryz.prog T8:=soundT7
noncomputable def T9:FuncId→Option SumK:=T8
theorem soundT9:Sound Tryz.prog T9:=soundT8
noncomputable def T10:FuncId→Option SumK:=more T9 217 (autoM Tryz.prog T9 Zl 2000 217)
theorem soundT10:Sound Tryz.prog T10:=soundT9.more (autoM_ok soundT9 (own_of soundT9 Tryz.func217 (by kernel_rfl)))
noncomputable def T11:FuncId→Option SumK:=more T10 178 (autoP Tryz.prog T10 Zl 2000 178)
theorem soundT11:Sound Tryz.prog T11:=soundT10.more (autoP_ok soundT10 (own_of soundT10 Tryz.func178 (by kernel_rfl)))
noncomputable def T12:FuncId→Option SumK:=T11
theorem soundT12:Sound Tryz.prog T12:=soundT11
noncomputable def T13:FuncId→Option SumK:=more T12 150 (autoM Tryz.prog T12 Zl 2000 150)
theorem soundT13:Sound Tryz.prog T13:=soundT12.more (autoM_ok soundT12 (own_of soundT12 Tryz.func150 (by kernel_rfl)))
noncomputable def T14:FuncId→Option SumK:=T13
theorem soundT14:Sound Tryz.prog T14:=soundT13
noncomputable def T15:FuncId→Option SumK:=more T14 85 (autoM Tryz.prog T14 Zl 2000 85)
theorem soundT15:Sound Tryz.prog T15:=soundT14.more (autoM_ok soundT14 (own_of soundT14 Tryz.func85 (by kernel_rfl)))
noncomputable def T16:FuncId→Option SumK:=more T15 196 (autoM Tryz.prog T15 Zl 2000 196)
theorem soundT16:Sound Tryz.prog T16:=soundT15.more (autoM_ok soundT15 (own_of soundT15 Tryz.func196 (by kernel_rfl)))
noncomputable def T17:FuncId→Option SumK:=more T16 177 (autoM Tryz.prog T16 Zl 2000 177)
theorem soundT17:Sound Tryz.prog T17:=soundT16.more (autoM_ok soundT16 (own_of soundT16 Tryz.func177 (by kernel_rfl)))
noncomputable def T18:FuncId→Option SumK:=more T17 151 (autoM Tryz.prog T17 Zl 2000 151)
theorem soundT18:Sound Tryz.prog T18:=soundT17.more (autoM_ok soundT17 (own_of soundT17 Tryz.func151 (by kernel_rfl)))
noncomputable def T19:FuncId→Option SumK:=T18
theorem soundT19:Sound Tryz.prog T19:=soundT18
noncomputable def T20:FuncId→Option SumK:=more T19 153 (autoM Tryz.prog T19 Zl 2000 153)
theorem soundT20:Sound Tryz.prog T20:=soundT19.more (autoM_ok soundT19 (own_of soundT19 Tryz.func153 (by kernel_rfl)))
noncomputable def T21:FuncId→Option SumK:=T20
theorem soundT21:Sound Tryz.prog T21:=soundT20
noncomputable def T22:FuncId→Option SumK:=more T21 37 (autoM Tryz.prog T21 Zl 2000 37)
theorem soundT22:Sound Tryz.prog T22:=soundT21.more (autoM_ok soundT21 (own_of soundT21 Tryz.func37 (by kernel_rfl)))
noncomputable def T23:FuncId→Option SumK:=more T22 40 (autoM Tryz.prog T22 Zl 2000 40)
theorem soundT23:Sound Tryz.prog T23:=soundT22.more (autoM_ok soundT22 (own_of soundT22 Tryz.func40 (by kernel_rfl)))
noncomputable def T24:FuncId→Option SumK:=more T23 84 (autoP Tryz.prog T23 Zl 2000 84)
theorem soundT24:Sound Tryz.prog T24:=soundT23.more (autoP_ok soundT23 (own_of soundT23 Tryz.func84 (by kernel_rfl)))
noncomputable def T25:FuncId→Option SumK:=more T24 111 (autoM Tryz.prog T24 Zl 2000 111)
theorem soundT25:Sound Tryz.prog T25:=soundT24.more (autoM_ok soundT24 (own_of soundT24 Tryz.func111 (by kernel_rfl)))
noncomputable def T26:FuncId→Option SumK:=more T25 53 (autoM Tryz.prog T25 Zl 2000 53)
theorem soundT26:Sound Tryz.prog T26:=soundT25.more (autoM_ok soundT25 (own_of soundT25 Tryz.func53 (by kernel_rfl)))
noncomputable def T27:FuncId→Option SumK:=more T26 54 (autoM Tryz.prog T26 Zl 2000 54)
theorem soundT27:Sound Tryz.prog T27:=soundT26.more (autoM_ok soundT26 (own_of soundT26 Tryz.func54 (by kernel_rfl)))
noncomputable def T28:FuncId→Option SumK:=more T27 244 (autoM Tryz.prog T27 Zl 2000 244)
theorem soundT28:Sound Tryz.prog T28:=soundT27.more (autoM_ok soundT27 (own_of soundT27 Tryz.func244 (by kernel_rfl)))
noncomputable def T29:FuncId→Option SumK:=T28
theorem soundT29:Sound Tryz.prog T29:=soundT28
noncomputable def T30:FuncId→Option SumK:=more T29 245 (autoM Tryz.prog T29 Zl 2000 245)
theorem soundT30:Sound Tryz.prog T30:=soundT29.more (autoM_ok soundT29 (own_of soundT29 Tryz.func245 (by kernel_rfl)))
noncomputable def T31:FuncId→Option SumK:=more T30 222 (autoM Tryz.prog T30 Zl 2000 222)
theorem soundT31:Sound Tryz.prog T31:=soundT30.more (autoM_ok soundT30 (own_of soundT30 Tryz.func222 (by kernel_rfl)))
noncomputable def T32:FuncId→Option SumK:=more T31 223 (autoM Tryz.prog T31 Zl 2000 223)
theorem soundT32:Sound Tryz.prog T32:=soundT31.more (autoM_ok soundT31 (own_of soundT31 Tryz.func223 (by kernel_rfl)))
noncomputable def T33:FuncId→Option SumK:=more T32 194 (autoM Tryz.prog T32 Zl 2000 194)
theorem soundT33:Sound Tryz.prog T33:=soundT32.more (autoM_ok soundT32 (own_of soundT32 Tryz.func194 (by kernel_rfl)))
noncomputable def T34:FuncId→Option SumK:=T33
theorem soundT34:Sound Tryz.prog T34:=soundT33
noncomputable def T35:FuncId→Option SumK:=more T34 39 (autoM Tryz.prog T34 Zl 2000 39)
theorem soundT35:Sound Tryz.prog T35:=soundT34.more (autoM_ok soundT34 (own_of soundT34 Tryz.func39 (by kernel_rfl)))
noncomputable def T36:FuncId→Option SumK:=more T35 155 (autoM Tryz.prog T35 Zl 2000 155)
theorem soundT36:Sound Tryz.prog T36:=soundT35.more (autoM_ok soundT35 (own_of soundT35 Tryz.func155 (by kernel_rfl)))
noncomputable def T37:FuncId→Option SumK:=moreG T36 235 (autoA Tryz.prog T36 Zl 2000 235)
theorem soundT37:Sound Tryz.prog T37:=soundT36.moreG (autoA_ok soundT36 (own_of soundT36 Tryz.func235 (by kernel_rfl)))
noncomputable def T38:FuncId→Option SumK:=moreG T37 147 (autoA Tryz.prog T37 Zl 2000 147)
theorem soundT38:Sound Tryz.prog T38:=soundT37.moreG (autoA_ok soundT37 (own_of soundT37 Tryz.func147 (by kernel_rfl)))
noncomputable def T39:FuncId→Option SumK:=more T38 204 (autoM Tryz.prog T38 Zl 2000 204)
theorem soundT39:Sound Tryz.prog T39:=soundT38.more (autoM_ok soundT38 (own_of soundT38 Tryz.func204 (by kernel_rfl)))
noncomputable def T40:FuncId→Option SumK:=more T39 236 (autoM Tryz.prog T39 Zl 2000 236)
theorem soundT40:Sound Tryz.prog T40:=soundT39.more (autoM_ok soundT39 (own_of soundT39 Tryz.func236 (by kernel_rfl)))
noncomputable def T41:FuncId→Option SumK:=more T40 221 (autoM Tryz.prog T40 Zl 2000 221)
theorem soundT41:Sound Tryz.prog T41:=soundT40.more (autoM_ok soundT40 (own_of soundT40 Tryz.func221 (by kernel_rfl)))
noncomputable def T42:FuncId→Option SumK:=more T41 220 (autoM Tryz.prog T41 Zl 2000 220)
theorem soundT42:Sound Tryz.prog T42:=soundT41.more (autoM_ok soundT41 (own_of soundT41 Tryz.func220 (by kernel_rfl)))
noncomputable def T43:FuncId→Option SumK:=more T42 205 (autoM Tryz.prog T42 Zl 2000 205)
theorem soundT43:Sound Tryz.prog T43:=soundT42.more (autoM_ok soundT42 (own_of soundT42 Tryz.func205 (by kernel_rfl)))
noncomputable def S24:FuncId→Option SumK:=T43
theorem sound24:Sound Tryz.prog S24:=soundT43
end Go.Proofs.YtnlhpaidmiogbaaGreat

/- Facts of rounding, dividing, roots, clamping: plain. -/
namespace Go.Proofs.YtnlhpaidmiogbaaGreat
open Go.Lr
set_option linter.unusedVariables false
theorem sat_sat (a:Int):satV (satV a)=satV a:=by have:=sat_bd a;exact sat_in this.1 this.2
theorem rnd_pos {w:Int} (h:0≤w) (s:Nat):rndV w s=(w+halfP s)/pow2 s:=by
 unfold rndV sgn
 rw [absV_pos h]
 have:¬w<0:=by omega
 simp [this]
theorem rnd_neg {w:Int} (h:w≤0) (s:Nat):rndV w s = -((-w+halfP s)/pow2 s):=by
 by_cases h0:w=0
 ·subst h0
  rw [rnd_pos (Int.le_refl 0)]
  have h1:=halfP_le s
  have h2:=pow2_pos s
  have h3:halfP s<pow2 s:=by
   cases s with
   | zero=>decide
   | succ n=>have:=pow2_pos n;show pow2 n<_;rw [pow2_succ];omega
  have e:(0+halfP s)/pow2 s=0:=Int.ediv_eq_zero_of_lt (by omega) (by omega)
  rw [e,Int.neg_zero,e,Int.neg_zero]
 ·unfold rndV sgn
  rw [absV_neg h]
  have:w<0:=by omega
  simp [this]
theorem halfP_two (s:Nat):2*halfP s≤pow2 s∧(s=0∧halfP s=0∧pow2 s=1∨2*halfP s=pow2 s):=by
 cases s with
 | zero=>exact ⟨by decide,.inl ⟨rfl,rfl,rfl⟩⟩
 | succ n=>rw [pow2_succ];exact ⟨Int.le_refl _,.inr rfl⟩
theorem rnd_bd (w:Int) (s:Nat): -(pow2 s)≤2*(rndV w s*pow2 s - w)∧2*(rndV w s*pow2 s - w)≤pow2 s:=by
 have hp:=pow2_pos s
 have hh:=halfP_two s
 have h1:=(halfP_le s).1
 have key:∀u:Int,0≤u→ -(pow2 s)≤2*((u+halfP s)/pow2 s*pow2 s - u)∧2*((u+halfP s)/pow2 s*pow2 s - u)≤pow2 s:=by
  intro u hu
  have e:=Int.emod_add_mul_ediv (u+halfP s) (pow2 s)
  have a:=Int.emod_nonneg (u+halfP s) (show pow2 s≠0 by omega)
  have b:=Int.emod_lt_of_pos (u+halfP s) hp
  rw [Int.mul_comm (pow2 s)] at e
  generalize (u+halfP s)/pow2 s*pow2 s=q at *
  generalize (u+halfP s)%pow2 s=r at *
  omega
 by_cases h:0≤w
 ·rw [rnd_pos h];exact key w h
 ·rw [rnd_neg (by omega)]
  have:=key (-w) (by omega)
  rw [Int.neg_mul]
  omega
theorem quo_bd {a b:Int} (ha:0≤a) (hb:0<b): -b≤2*(quoR a b*b - a)∧2*(quoR a b*b - a)≤b:=by
 have e:=Int.emod_add_mul_ediv a b
 have h0:=Int.emod_nonneg a (show b≠0 by omega)
 have h1:=Int.emod_lt_of_pos a hb
 rw [Int.mul_comm b] at e
 unfold quoR
 split
 ·have e2:(a/b+1)*b=a/b*b+b:=by grind
  rw [e2];omega
 ·omega
theorem div_pos {a b:Int} (ha:0≤a) (hb:0<b):divV a b=quoR a b:=by
 unfold divV
 rw [absV_pos ha,absV_pos (by omega)]
 have h1:¬a<0:=by omega
 have h2:¬b<0:=by omega
 simp [h1,h2,sgn]
theorem root_ge {N m:Int} (h0:0≤N) (h1:N<340282366920938463463374607431768211456) (h:m≤0∨m*m - m<N):m≤rootW N:=by
 obtain ⟨a,b,c⟩:=rootW_spec h0 h1
 generalize rootW N=r at *
 rcases h with h | h
 ·omega
 ·rcases Int.lt_or_le r m with hlt | hle
  ·exfalso
   have e:r*r+r=r*(r+1):=by grind
   have:r*(r+1)≤(m - 1)*m:=Int.mul_le_mul (by omega) (by omega) (by omega) (by omega)
   have e2:(m - 1)*m=m*m - m:=by grind
   omega
  ·exact hle
end Go.Proofs.YtnlhpaidmiogbaaGreat

/- Plain facts that the second answer's texts brought. -/
namespace Go.Proofs.YtnlhpaidmiogbaaGreat
open Go.Lr
set_option linter.unusedVariables false
set_option linter.unusedSimpArgs false
theorem land1 (x:Int) (h0:0≤x) (h1:x<18446744073709551616):Int.ofNat ((u64 x).toNat.land (u64 1).toNat)=x%2:=by
 have e:(u64 1).toNat=2 ^ 1 - 1:=by decide
 rw [u64_in h0 h1,e]
 show ((x.toNat &&& (2 ^ 1 - 1):Nat):Int)=_
 rw [Nat.and_two_pow_sub_one_eq_mod]
 omega
theorem quoR_zero {d:Int} (h:0<d):quoR 0 d=0:=by
 unfold quoR
 rw [Int.zero_emod,Int.zero_ediv,if_neg (by omega)]
end Go.Proofs.YtnlhpaidmiogbaaGreat

/- trig.Wrap: its runs, and what it comes to. -/
namespace Go.Proofs.YtnlhpaidmiogbaaGreat
open Go.Lr
set_option linter.unusedVariables false
set_option linter.unusedSimpArgs false
theorem twrapR1 (a:Int):(runF Tryz.prog S23 Zl 2000 84 [.v (.one (.int .i64 a))] [] 0 [some true]).map (fun r=>(r.1,r.2.2.2))=some (LV.v (V1.one (At.int IntKind.i64 (wr IntKind.i64 (a.tmod 6746518852 - 6746518852)))),[(decide (a.tmod 6746518852>3373259426),true)]):=by kernel_rfl
theorem twrapR2 (a:Int):(runF Tryz.prog S23 Zl 2000 84 [.v (.one (.int .i64 a))] [] 0 [some false,some true]).map (fun r=>(r.1,r.2.2.2))=some (LV.v (V1.one (At.int IntKind.i64 (wr IntKind.i64 (a.tmod 6746518852+6746518852)))),[(decide (a.tmod 6746518852≤ -3373259426),true),(decide (a.tmod 6746518852>3373259426),false)]):=by kernel_rfl
theorem twrapR3 (a:Int):(runF Tryz.prog S23 Zl 2000 84 [.v (.one (.int .i64 a))] [] 0 [some false,some false]).map (fun r=>(r.1,r.2.2.2))=some (LV.v (V1.one (At.int IntKind.i64 (a.tmod 6746518852))),[(decide (a.tmod 6746518852≤ -3373259426),false),(decide (a.tmod 6746518852>3373259426),false)]):=by kernel_rfl
def twrapT (a:Int):Option (LV×List (Bool×Bool)):=
 bif (decide (a.tmod 6746518852>3373259426)) then some (LV.v (V1.one (At.int IntKind.i64 (wr IntKind.i64 (a.tmod 6746518852 - 6746518852)))),[])
 else
  bif (decide (a.tmod 6746518852≤ -3373259426)) then some (LV.v (V1.one (At.int IntKind.i64 (wr IntKind.i64 (a.tmod 6746518852+6746518852)))),[])
  else some (LV.v (V1.one (At.int IntKind.i64 (a.tmod 6746518852))),[])
def twrapF:List LV→Option (LV×List (Bool×Bool))
 | [.v (.one (.int .i64 a))]=>twrapT a
 | _=>none
theorem sumtwrap:SumOK Tryz.prog 84 (pureSum twrapF):=by
 refine pureSum_run (z:=Zl) sound23 (own_of sound23 Tryz.func84 (by kernel_rfl)) fun args v cs hF hc=> ?_
 unfold twrapF at hF
 split at hF
 ·rename_i a
  unfold twrapT at hF
  rcases bool_cases (decide (a.tmod 6746518852>3373259426)) with h0 | h0
  ·rw [cond_t h0] at hF
   cases hF
   exact ⟨2000,[some true],_,twrapR1 a,ae_cons (h0) (ae_nil)⟩
  ·rw [cond_f h0] at hF
   rcases bool_cases (decide (a.tmod 6746518852≤ -3373259426)) with h1 | h1
   ·rw [cond_t h1] at hF
    cases hF
    exact ⟨2000,[some false,some true],_,twrapR2 a,ae_cons (h1) (ae_cons (h0) (ae_nil))⟩
   ·rw [cond_f h1] at hF
    cases hF
    exact ⟨2000,[some false,some false],_,twrapR3 a,ae_cons (h1) (ae_cons (h0) (ae_nil))⟩
 ·cases hF
def wrapV (a:Int):Int:=if a.tmod 6746518852>3373259426 then a.tmod 6746518852 - 6746518852 else if a.tmod 6746518852≤ -3373259426 then a.tmod 6746518852+6746518852 else a.tmod 6746518852
theorem tmod_bd (a:Int): -6746518852<a.tmod 6746518852∧a.tmod 6746518852<6746518852∧∃k,a=k*6746518852+a.tmod 6746518852:=by
 have h:=Int.tmod_add_mul_tdiv a 6746518852
 refine ⟨?_, ?_,a.tdiv 6746518852,by omega⟩
 ·have:=Int.lt_tmod_of_pos a (show (0:Int)<6746518852 by decide);omega
 ·exact Int.tmod_lt_of_pos a (by decide)
def wrapS:List LV→Option (LV×List (Bool×Bool))
 | [.v (.one (.int .i64 a))]=>some (I (wrapV a),[])
 | _=>none
theorem sumWrap:SumOK Tryz.prog 84 (pureSum wrapS):=by
 refine sumtwrap.pure_re fun args v cs hF hc=> ?_
 unfold wrapS at hF
 split at hF
 ·rename_i a
  cases hF
  show ∃cs',twrapT a=_∧_
  obtain ⟨h0,h1,-⟩:=tmod_bd a
  unfold twrapT wrapV
  generalize a.tmod 6746518852=t at *
  by_cases c1:t>3373259426
  ·rw [cond_t (decide_eq_true c1),if_pos c1]
   have e:wr IntKind.i64 (t - 6746518852)=t - 6746518852:=w64_in (by omega) (by omega)
   exact ⟨[],by rw [e];rfl,ae_nil⟩
  ·rw [cond_f (decide_eq_false c1),if_neg c1]
   by_cases c2:t≤ -3373259426
   ·rw [cond_t (decide_eq_true c2),if_pos c2]
    have e:wr IntKind.i64 (t+6746518852)=t+6746518852:=w64_in (by omega) (by omega)
    exact ⟨[],by rw [e];rfl,ae_nil⟩
   ·rw [cond_f (decide_eq_false c2),if_neg c2]
    exact ⟨[],rfl,ae_nil⟩
 ·cases hF
end Go.Proofs.YtnlhpaidmiogbaaGreat

/- The second answer's wrapping of angles: its runs (printed), and what it comes to. -/
namespace Go.Proofs.YtnlhpaidmiogbaaGreat
open Go.Lr
set_option linter.unusedVariables false
set_option linter.unusedSimpArgs false
noncomputable def S34:FuncId→Option SumK:=more S24 84 (pureSum wrapS)
theorem sound34:Sound Tryz.prog S34:=sound24.more sumWrap
end Go.Proofs.YtnlhpaidmiogbaaGreat

/- Summaries of methods with slices, told in other words; fx.Add without an ask. -/
namespace Go.Lr
open Go.RowKit
def acT (ty:TypeId) (es:Nat) (F:List AV→Bool→Option (LV×Bool×List (Bool×Bool))) (c:Nat) (rest:List LV) (bl:List Nat):Tch:=⟨bl,[c],fun rdB wB _=>match wB with
 | [⟨t,(0,0),0,[.bool h]⟩]=>match Nat.beq t ty with
  | true=>match avA es rest rdB with
   | some (avs,cs0)=>match F avs h with
    | some (v,h',cs)=>match v.ok noP with
     | true=>some ⟨v,[flag ty h'],[],cs0++cs⟩
     | false=>none
    | none=>none
   | none=>none
  | false=>none
 | _=>none⟩
theorem SumOK.ac_re {P:Program} {f:FuncId} {ty:TypeId} {es:Nat} {F F':List AV→Bool→Option (LV×Bool×List (Bool×Bool))} (h:SumOK P f (acSum ty es F))
  (hi:∀avs hb v h' cs,F' avs hb=some (v,h',cs)→(∀c∈cs,c.1=c.2)→∃cs',F avs hb=some (v,h',cs')∧∀c∈cs',c.1=c.2):SumOK P f (acSum ty es F'):=by
 intro args t g nb p rdB wrB ans ws E w hs hr hw hnd hgo hz hc hrel hg hargs hn
 unfold acSum at hs
 split at hs
 ·rename_i c rest
  split at hs
  ·rename_i bl hbl
   split at hs
   ·rename_i hm
    cases hs
    simp only at hgo hw hr hz
    split at hgo
    ·rename_i t' hb
     split at hgo
     ·rename_i hty
      split at hgo
      ·rename_i avs cs0 hav
       split at hgo
       ·rename_i v h' cs hF
        split at hgo
        ·rename_i hv
         cases hgo
         obtain ⟨cs',h1,h2⟩:=hi avs hb v h' cs hF fun d hd=>hc d (List.mem_append_right _ hd)
         refine h (.v (.one (.ptr c 0))::rest) (acT ty es F c rest bl) g nb p rdB _ ⟨v,[flag ty h'],[],cs0++cs'⟩ ws E w (by unfold acSum;simp only [hbl,hm];rfl) hr hw hnd ?_ hz (fun d hd=>(List.mem_append.1 hd).elim (fun hd=>hc d (List.mem_append_left _ hd)) (h2 d)) hrel hg hargs hn
         simp only [acT,hty,hav,h1,hv]
        ·cases hgo
       ·cases hgo
      ·cases hgo
     ·cases hgo
    ·cases hgo
   ·cases hs
  ·cases hs
 ·cases hs
end Go.Lr
namespace Go.Proofs.YtnlhpaidmiogbaaGreat
open Go.Lr
set_option linter.unusedVariables false
def faddS':List AV→Bool→Option (LV×Bool×List (Bool×Bool))
 | [.ints xs],hb=>match Nat.ble xs.length 1000 with
  | true=>some (I (faddV xs),hb||faddH xs,[])
  | false=>none
 | _,_=>none
theorem sumFadd':SumOK Tryz.prog 181 (acSum 61 1 faddS'):=by
 refine sumFadd.ac_re fun avs hb v h' cs hF hc=> ?_
 unfold faddS' at hF
 split at hF
 ·rename_i xs
  split at hF
  ·rename_i hl
   cases hF
   have:=Nat.le_of_ble_eq_true hl
   exact ⟨_,rfl,ae_cons (decide_eq_true (by omega)) ae_nil⟩
  ·cases hF
 ·cases hF
noncomputable def S35:FuncId→Option SumK:=more S34 181 (acSum 61 1 faddS')
theorem sound35:Sound Tryz.prog S35:=sound34.more sumFadd'
end Go.Proofs.YtnlhpaidmiogbaaGreat

/- trig.Atan2: its runs, against what it computes. -/
namespace Go.Proofs.YtnlhpaidmiogbaaGreat
open Go.Lr
set_option linter.unusedVariables false
set_option linter.unusedSimpArgs false
def serV (z:Int):Int→List Int→Int
 | s,[]=>s
 | s,k::l=>serV z (faddV [k,mulV z s 30]) l
def serHb (z:Int):Bool→Int→List Int→Bool
 | h,s,[]=>h
 | h,s,k::l=>serHb z (h||mulH z s 30||faddH [k,mulV z s 30]) (faddV [k,mulV z s 30]) l
def atL:List Int:=[51130563,-56512728,63161284,-71582788,82595525,-97612893,119304647,-153391689,214748365,-357913941,1073741824]
def mnV (y x:Int):Int:=if fabsV (satV x)<fabsV (satV y) then fabsV (satV x) else fabsV (satV y)
def mxV (y x:Int):Int:=if fabsV (satV x)>fabsV (satV y) then fabsV (satV x) else fabsV (satV y)
def t0V (y x:Int):Int:=divPV (mnV y x) (mxV y x) 30
def ttV (big:Bool) (t0:Int):Int:=bif big then divPV (wr IntKind.i64 (t0 - 1073741824)) (wr IntKind.i64 (t0+1073741824)) 30 else t0
def r0V (big:Bool) (t0:Int):Int:=wr IntKind.i64 ((bif big then 843314857 else 0)+mulV (ttV big t0) (serV (mulV (ttV big t0) (ttV big t0) 30) (-46684427) atL) 30)
def atanB (big steep xn yn:Bool) (t0:Int):Int:=
 bif yn then wr IntKind.i64 (0 - (bif xn then wr IntKind.i64 (3373259426 - (bif steep then wr IntKind.i64 (1686629713 - r0V big t0) else r0V big t0)) else (bif steep then wr IntKind.i64 (1686629713 - r0V big t0) else r0V big t0)))
 else (bif xn then wr IntKind.i64 (3373259426 - (bif steep then wr IntKind.i64 (1686629713 - r0V big t0) else r0V big t0)) else (bif steep then wr IntKind.i64 (1686629713 - r0V big t0) else r0V big t0))
def atanHB (big:Bool) (y x:Int) (h:Bool):Bool:=
 serHb (mulV (ttV big (t0V y x)) (ttV big (t0V y x)) 30) ((bif big then h||divPH (mnV y x) (mxV y x) 30||divPH (wr IntKind.i64 (t0V y x - 1073741824)) (wr IntKind.i64 (t0V y x+1073741824)) 30 else h||divPH (mnV y x) (mxV y x) 30)||mulH (ttV big (t0V y x)) (ttV big (t0V y x)) 30) (-46684427) atL||mulH (ttV big (t0V y x)) (serV (mulV (ttV big (t0V y x)) (ttV big (t0V y x)) 30) (-46684427) atL) 30
theorem atZ (y x:Int) (hb:Bool):(runF Tryz.prog S35 Zl 2000 244 [A0,I y,I x] [(0,flag 61 hb)] 1 [some true]).map acc3=some (I 0,some (flag 61 (hb||satH y||satH x)),[(mxV y x==0,true)]):=by kernel_rfl
theorem attttt (y x:Int) (hb:Bool):(runF Tryz.prog S35 Zl 2000 244 [A0,I y,I x] [(0,flag 61 hb)] 1 [some false,some true,none,none,none,none,none,none,none,none,none,none,none,none,some true,some true,some true]).map acc3=some (I (atanB true true true true (t0V y x)),some (flag 61 (atanHB true y x (hb||satH y||satH x))),[(decide (satV y<0),true),(decide (satV x<0),true),(decide (fabsV (satV y)>fabsV (satV x)),true),(decide (t0V y x>444758426),true),(mxV y x==0,false)]):=by kernel_rfl
theorem attttf (y x:Int) (hb:Bool):(runF Tryz.prog S35 Zl 2000 244 [A0,I y,I x] [(0,flag 61 hb)] 1 [some false,some true,none,none,none,none,none,none,none,none,none,none,none,none,some true,some true,some false]).map acc3=some (I (atanB true true true false (t0V y x)),some (flag 61 (atanHB true y x (hb||satH y||satH x))),[(decide (satV y<0),false),(decide (satV x<0),true),(decide (fabsV (satV y)>fabsV (satV x)),true),(decide (t0V y x>444758426),true),(mxV y x==0,false)]):=by kernel_rfl
theorem atttft (y x:Int) (hb:Bool):(runF Tryz.prog S35 Zl 2000 244 [A0,I y,I x] [(0,flag 61 hb)] 1 [some false,some true,none,none,none,none,none,none,none,none,none,none,none,none,some true,some false,some true]).map acc3=some (I (atanB true true false true (t0V y x)),some (flag 61 (atanHB true y x (hb||satH y||satH x))),[(decide (satV y<0),true),(decide (satV x<0),false),(decide (fabsV (satV y)>fabsV (satV x)),true),(decide (t0V y x>444758426),true),(mxV y x==0,false)]):=by kernel_rfl
theorem atttff (y x:Int) (hb:Bool):(runF Tryz.prog S35 Zl 2000 244 [A0,I y,I x] [(0,flag 61 hb)] 1 [some false,some true,none,none,none,none,none,none,none,none,none,none,none,none,some true,some false,some false]).map acc3=some (I (atanB true true false false (t0V y x)),some (flag 61 (atanHB true y x (hb||satH y||satH x))),[(decide (satV y<0),false),(decide (satV x<0),false),(decide (fabsV (satV y)>fabsV (satV x)),true),(decide (t0V y x>444758426),true),(mxV y x==0,false)]):=by kernel_rfl
theorem attftt (y x:Int) (hb:Bool):(runF Tryz.prog S35 Zl 2000 244 [A0,I y,I x] [(0,flag 61 hb)] 1 [some false,some true,none,none,none,none,none,none,none,none,none,none,none,none,some false,some true,some true]).map acc3=some (I (atanB true false true true (t0V y x)),some (flag 61 (atanHB true y x (hb||satH y||satH x))),[(decide (satV y<0),true),(decide (satV x<0),true),(decide (fabsV (satV y)>fabsV (satV x)),false),(decide (t0V y x>444758426),true),(mxV y x==0,false)]):=by kernel_rfl
theorem attftf (y x:Int) (hb:Bool):(runF Tryz.prog S35 Zl 2000 244 [A0,I y,I x] [(0,flag 61 hb)] 1 [some false,some true,none,none,none,none,none,none,none,none,none,none,none,none,some false,some true,some false]).map acc3=some (I (atanB true false true false (t0V y x)),some (flag 61 (atanHB true y x (hb||satH y||satH x))),[(decide (satV y<0),false),(decide (satV x<0),true),(decide (fabsV (satV y)>fabsV (satV x)),false),(decide (t0V y x>444758426),true),(mxV y x==0,false)]):=by kernel_rfl
theorem attfft (y x:Int) (hb:Bool):(runF Tryz.prog S35 Zl 2000 244 [A0,I y,I x] [(0,flag 61 hb)] 1 [some false,some true,none,none,none,none,none,none,none,none,none,none,none,none,some false,some false,some true]).map acc3=some (I (atanB true false false true (t0V y x)),some (flag 61 (atanHB true y x (hb||satH y||satH x))),[(decide (satV y<0),true),(decide (satV x<0),false),(decide (fabsV (satV y)>fabsV (satV x)),false),(decide (t0V y x>444758426),true),(mxV y x==0,false)]):=by kernel_rfl
theorem attfff (y x:Int) (hb:Bool):(runF Tryz.prog S35 Zl 2000 244 [A0,I y,I x] [(0,flag 61 hb)] 1 [some false,some true,none,none,none,none,none,none,none,none,none,none,none,none,some false,some false,some false]).map acc3=some (I (atanB true false false false (t0V y x)),some (flag 61 (atanHB true y x (hb||satH y||satH x))),[(decide (satV y<0),false),(decide (satV x<0),false),(decide (fabsV (satV y)>fabsV (satV x)),false),(decide (t0V y x>444758426),true),(mxV y x==0,false)]):=by kernel_rfl
theorem atfttt (y x:Int) (hb:Bool):(runF Tryz.prog S35 Zl 2000 244 [A0,I y,I x] [(0,flag 61 hb)] 1 [some false,some false,none,none,none,none,none,none,none,none,none,none,none,none,some true,some true,some true]).map acc3=some (I (atanB false true true true (t0V y x)),some (flag 61 (atanHB false y x (hb||satH y||satH x))),[(decide (satV y<0),true),(decide (satV x<0),true),(decide (fabsV (satV y)>fabsV (satV x)),true),(decide (t0V y x>444758426),false),(mxV y x==0,false)]):=by kernel_rfl
theorem atfttf (y x:Int) (hb:Bool):(runF Tryz.prog S35 Zl 2000 244 [A0,I y,I x] [(0,flag 61 hb)] 1 [some false,some false,none,none,none,none,none,none,none,none,none,none,none,none,some true,some true,some false]).map acc3=some (I (atanB false true true false (t0V y x)),some (flag 61 (atanHB false y x (hb||satH y||satH x))),[(decide (satV y<0),false),(decide (satV x<0),true),(decide (fabsV (satV y)>fabsV (satV x)),true),(decide (t0V y x>444758426),false),(mxV y x==0,false)]):=by kernel_rfl
theorem atftft (y x:Int) (hb:Bool):(runF Tryz.prog S35 Zl 2000 244 [A0,I y,I x] [(0,flag 61 hb)] 1 [some false,some false,none,none,none,none,none,none,none,none,none,none,none,none,some true,some false,some true]).map acc3=some (I (atanB false true false true (t0V y x)),some (flag 61 (atanHB false y x (hb||satH y||satH x))),[(decide (satV y<0),true),(decide (satV x<0),false),(decide (fabsV (satV y)>fabsV (satV x)),true),(decide (t0V y x>444758426),false),(mxV y x==0,false)]):=by kernel_rfl
theorem atftff (y x:Int) (hb:Bool):(runF Tryz.prog S35 Zl 2000 244 [A0,I y,I x] [(0,flag 61 hb)] 1 [some false,some false,none,none,none,none,none,none,none,none,none,none,none,none,some true,some false,some false]).map acc3=some (I (atanB false true false false (t0V y x)),some (flag 61 (atanHB false y x (hb||satH y||satH x))),[(decide (satV y<0),false),(decide (satV x<0),false),(decide (fabsV (satV y)>fabsV (satV x)),true),(decide (t0V y x>444758426),false),(mxV y x==0,false)]):=by kernel_rfl
theorem atfftt (y x:Int) (hb:Bool):(runF Tryz.prog S35 Zl 2000 244 [A0,I y,I x] [(0,flag 61 hb)] 1 [some false,some false,none,none,none,none,none,none,none,none,none,none,none,none,some false,some true,some true]).map acc3=some (I (atanB false false true true (t0V y x)),some (flag 61 (atanHB false y x (hb||satH y||satH x))),[(decide (satV y<0),true),(decide (satV x<0),true),(decide (fabsV (satV y)>fabsV (satV x)),false),(decide (t0V y x>444758426),false),(mxV y x==0,false)]):=by kernel_rfl
theorem atfftf (y x:Int) (hb:Bool):(runF Tryz.prog S35 Zl 2000 244 [A0,I y,I x] [(0,flag 61 hb)] 1 [some false,some false,none,none,none,none,none,none,none,none,none,none,none,none,some false,some true,some false]).map acc3=some (I (atanB false false true false (t0V y x)),some (flag 61 (atanHB false y x (hb||satH y||satH x))),[(decide (satV y<0),false),(decide (satV x<0),true),(decide (fabsV (satV y)>fabsV (satV x)),false),(decide (t0V y x>444758426),false),(mxV y x==0,false)]):=by kernel_rfl
theorem atffft (y x:Int) (hb:Bool):(runF Tryz.prog S35 Zl 2000 244 [A0,I y,I x] [(0,flag 61 hb)] 1 [some false,some false,none,none,none,none,none,none,none,none,none,none,none,none,some false,some false,some true]).map acc3=some (I (atanB false false false true (t0V y x)),some (flag 61 (atanHB false y x (hb||satH y||satH x))),[(decide (satV y<0),true),(decide (satV x<0),false),(decide (fabsV (satV y)>fabsV (satV x)),false),(decide (t0V y x>444758426),false),(mxV y x==0,false)]):=by kernel_rfl
theorem atffff (y x:Int) (hb:Bool):(runF Tryz.prog S35 Zl 2000 244 [A0,I y,I x] [(0,flag 61 hb)] 1 [some false,some false,none,none,none,none,none,none,none,none,none,none,none,none,some false,some false,some false]).map acc3=some (I (atanB false false false false (t0V y x)),some (flag 61 (atanHB false y x (hb||satH y||satH x))),[(decide (satV y<0),false),(decide (satV x<0),false),(decide (fabsV (satV y)>fabsV (satV x)),false),(decide (t0V y x>444758426),false),(mxV y x==0,false)]):=by kernel_rfl
def atanV (y x:Int):Int:=bif mxV y x==0 then 0 else atanB (decide (t0V y x>444758426)) (decide (fabsV (satV y)>fabsV (satV x))) (decide (satV x<0)) (decide (satV y<0)) (t0V y x)
def atanH (y x:Int) (h:Bool):Bool:=bif mxV y x==0 then h||satH y||satH x else atanHB (decide (t0V y x>444758426)) y x (h||satH y||satH x)
def atanS:List LV→Bool→Option (LV×Bool×List (Bool×Bool))
 | [.v (.one (.int .i64 y)),.v (.one (.int .i64 x))],hb=>some (I (atanV y x),atanH y x hb,[])
 | _,_=>none
theorem sumAtan:SumOK Tryz.prog 244 (accSum 61 atanS):=by
 refine accSum_run (z:=Zl) sound35 (own_of sound35 Tryz.func244 (by kernel_rfl)) fun args hb v h' cs hF hc=> ?_
 unfold atanS at hF
 split at hF
 ·rename_i y x
  cases hF
  refine ⟨rfl, ?_⟩
  unfold atanV atanH
  rcases bool_cases (mxV y x==0) with h0 | h0
  ·rw [cond_t h0,cond_t h0]
   exact ⟨2000,[some true],_,atZ y x hb,ae_cons h0 ae_nil⟩
  ·rw [cond_f h0,cond_f h0]
   rcases bool_cases (decide (t0V y x>444758426)) with h1 | h1
   ·rcases bool_cases (decide (fabsV (satV y)>fabsV (satV x))) with h2 | h2
    ·rcases bool_cases (decide (satV x<0)) with h3 | h3
     ·rcases bool_cases (decide (satV y<0)) with h4 | h4
      ·rw [h1,h2,h3,h4]
       exact ⟨2000,_,_,attttt y x hb,ae_cons h4 (ae_cons h3 (ae_cons h2 (ae_cons h1 (ae_cons h0 ae_nil))))⟩
      ·rw [h1,h2,h3,h4]
       exact ⟨2000,_,_,attttf y x hb,ae_cons h4 (ae_cons h3 (ae_cons h2 (ae_cons h1 (ae_cons h0 ae_nil))))⟩
     ·rcases bool_cases (decide (satV y<0)) with h4 | h4
      ·rw [h1,h2,h3,h4]
       exact ⟨2000,_,_,atttft y x hb,ae_cons h4 (ae_cons h3 (ae_cons h2 (ae_cons h1 (ae_cons h0 ae_nil))))⟩
      ·rw [h1,h2,h3,h4]
       exact ⟨2000,_,_,atttff y x hb,ae_cons h4 (ae_cons h3 (ae_cons h2 (ae_cons h1 (ae_cons h0 ae_nil))))⟩
    ·rcases bool_cases (decide (satV x<0)) with h3 | h3
     ·rcases bool_cases (decide (satV y<0)) with h4 | h4
      ·rw [h1,h2,h3,h4]
       exact ⟨2000,_,_,attftt y x hb,ae_cons h4 (ae_cons h3 (ae_cons h2 (ae_cons h1 (ae_cons h0 ae_nil))))⟩
      ·rw [h1,h2,h3,h4]
       exact ⟨2000,_,_,attftf y x hb,ae_cons h4 (ae_cons h3 (ae_cons h2 (ae_cons h1 (ae_cons h0 ae_nil))))⟩
     ·rcases bool_cases (decide (satV y<0)) with h4 | h4
      ·rw [h1,h2,h3,h4]
       exact ⟨2000,_,_,attfft y x hb,ae_cons h4 (ae_cons h3 (ae_cons h2 (ae_cons h1 (ae_cons h0 ae_nil))))⟩
      ·rw [h1,h2,h3,h4]
       exact ⟨2000,_,_,attfff y x hb,ae_cons h4 (ae_cons h3 (ae_cons h2 (ae_cons h1 (ae_cons h0 ae_nil))))⟩
   ·rcases bool_cases (decide (fabsV (satV y)>fabsV (satV x))) with h2 | h2
    ·rcases bool_cases (decide (satV x<0)) with h3 | h3
     ·rcases bool_cases (decide (satV y<0)) with h4 | h4
      ·rw [h1,h2,h3,h4]
       exact ⟨2000,_,_,atfttt y x hb,ae_cons h4 (ae_cons h3 (ae_cons h2 (ae_cons h1 (ae_cons h0 ae_nil))))⟩
      ·rw [h1,h2,h3,h4]
       exact ⟨2000,_,_,atfttf y x hb,ae_cons h4 (ae_cons h3 (ae_cons h2 (ae_cons h1 (ae_cons h0 ae_nil))))⟩
     ·rcases bool_cases (decide (satV y<0)) with h4 | h4
      ·rw [h1,h2,h3,h4]
       exact ⟨2000,_,_,atftft y x hb,ae_cons h4 (ae_cons h3 (ae_cons h2 (ae_cons h1 (ae_cons h0 ae_nil))))⟩
      ·rw [h1,h2,h3,h4]
       exact ⟨2000,_,_,atftff y x hb,ae_cons h4 (ae_cons h3 (ae_cons h2 (ae_cons h1 (ae_cons h0 ae_nil))))⟩
    ·rcases bool_cases (decide (satV x<0)) with h3 | h3
     ·rcases bool_cases (decide (satV y<0)) with h4 | h4
      ·rw [h1,h2,h3,h4]
       exact ⟨2000,_,_,atfftt y x hb,ae_cons h4 (ae_cons h3 (ae_cons h2 (ae_cons h1 (ae_cons h0 ae_nil))))⟩
      ·rw [h1,h2,h3,h4]
       exact ⟨2000,_,_,atfftf y x hb,ae_cons h4 (ae_cons h3 (ae_cons h2 (ae_cons h1 (ae_cons h0 ae_nil))))⟩
     ·rcases bool_cases (decide (satV y<0)) with h4 | h4
      ·rw [h1,h2,h3,h4]
       exact ⟨2000,_,_,atffft y x hb,ae_cons h4 (ae_cons h3 (ae_cons h2 (ae_cons h1 (ae_cons h0 ae_nil))))⟩
      ·rw [h1,h2,h3,h4]
       exact ⟨2000,_,_,atffff y x hb,ae_cons h4 (ae_cons h3 (ae_cons h2 (ae_cons h1 (ae_cons h0 ae_nil))))⟩
 ·cases hF
noncomputable def S36:FuncId→Option SumK:=more S35 244 (accSum 61 atanS)
theorem sound36:Sound Tryz.prog S36:=sound35.more sumAtan
end Go.Proofs.YtnlhpaidmiogbaaGreat

/- The law folder's awake, of chapter 4: its run. -/
namespace Go.Proofs.YtnlhpaidmiogbaaGreat
open Go.Lr
end Go.Proofs.YtnlhpaidmiogbaaGreat

/- What the laws of chapter 4 call: the awake, a number without its sign. -/
namespace Go.Proofs.YtnlhpaidmiogbaaGreat
open Go.Lr
set_option linter.unusedVariables false
end Go.Proofs.YtnlhpaidmiogbaaGreat

/- Sines, and the second answer's sines and angles: their runs, against what they compute. -/
namespace Go.Proofs.YtnlhpaidmiogbaaGreat
open Go.Lr
set_option linter.unusedVariables false
set_option linter.unusedSimpArgs false
def sL1:List Int:=[2959,-213044,8947849,-178956971,1073741824]
def sL2:List Int:=[-296,26631,-1491308,44739243,-536870912,1073741824]
def mmV (s:Int):Int:=if (1073741824:Int)<(if (-1073741824:Int)>s then -1073741824 else s) then 1073741824 else (if (-1073741824:Int)>s then -1073741824 else s)
def sinW (b1 b2:Bool) (a:Int):Int:=bif b1 then wr IntKind.i64 (3373259426 - wrapV (satV a)) else bif b2 then wr IntKind.i64 (-3373259426 - wrapV (satV a)) else wrapV (satV a)
def sinX (w:Int):Int:=wr IntKind.i64 (1686629713 - fabsV w)
def sinS0 (w:Int):Int:=mulV w (serV (mulV w w 30) (-27) sL1) 30
def sinSH (w:Int) (h:Bool):Bool:=serHb (mulV w w 30) (h||mulH w w 30) (-27) sL1||mulH w (serV (mulV w w 30) (-27) sL1) 30
def sinG0 (ng:Bool) (x:Int):Int:=bif ng then wr IntKind.i64 (0 - serV (mulV x x 30) 2 sL2) else serV (mulV x x 30) 2 sL2
def sinGH (x:Int) (h:Bool):Bool:=serHb (mulV x x 30) (h||mulH x x 30) 2 sL2
theorem sntfs (a:Int) (hb:Bool):(runF Tryz.prog S36 Zl 2000 53 [A0,I a] [(0,flag 61 hb)] 1 [some true,some true,none,none,none,none,none,none,none]).map acc3=some (I (mmV (sinS0 (sinW true false a))),some (flag 61 (sinSH (sinW true false a) (hb||satH a))),[(decide (fabsV (sinW true false a)≤843314857),true),(decide (wrapV (satV a)>1686629713),true)]):=by kernel_rfl
theorem sntfgt (a:Int) (hb:Bool):(runF Tryz.prog S36 Zl 2000 53 [A0,I a] [(0,flag 61 hb)] 1 [some true,some false,none,none,none,none,none,none,none,some true]).map acc3=some (I (mmV (sinG0 true (sinX (sinW true false a)))),some (flag 61 (sinGH (sinX (sinW true false a)) (hb||satH a))),[(decide ((sinW true false a)<0),true),(decide (fabsV (sinW true false a)≤843314857),false),(decide (wrapV (satV a)>1686629713),true)]):=by kernel_rfl
theorem sntfgf (a:Int) (hb:Bool):(runF Tryz.prog S36 Zl 2000 53 [A0,I a] [(0,flag 61 hb)] 1 [some true,some false,none,none,none,none,none,none,none,some false]).map acc3=some (I (mmV (sinG0 false (sinX (sinW true false a)))),some (flag 61 (sinGH (sinX (sinW true false a)) (hb||satH a))),[(decide ((sinW true false a)<0),false),(decide (fabsV (sinW true false a)≤843314857),false),(decide (wrapV (satV a)>1686629713),true)]):=by kernel_rfl
theorem snfts (a:Int) (hb:Bool):(runF Tryz.prog S36 Zl 2000 53 [A0,I a] [(0,flag 61 hb)] 1 [some false,some true,some true,none,none,none,none,none,none,none]).map acc3=some (I (mmV (sinS0 (sinW false true a))),some (flag 61 (sinSH (sinW false true a) (hb||satH a))),[(decide (fabsV (sinW false true a)≤843314857),true),(decide (wrapV (satV a) < -1686629713),true),(decide (wrapV (satV a)>1686629713),false)]):=by kernel_rfl
theorem snftgt (a:Int) (hb:Bool):(runF Tryz.prog S36 Zl 2000 53 [A0,I a] [(0,flag 61 hb)] 1 [some false,some true,some false,none,none,none,none,none,none,none,some true]).map acc3=some (I (mmV (sinG0 true (sinX (sinW false true a)))),some (flag 61 (sinGH (sinX (sinW false true a)) (hb||satH a))),[(decide ((sinW false true a)<0),true),(decide (fabsV (sinW false true a)≤843314857),false),(decide (wrapV (satV a) < -1686629713),true),(decide (wrapV (satV a)>1686629713),false)]):=by kernel_rfl
theorem snftgf (a:Int) (hb:Bool):(runF Tryz.prog S36 Zl 2000 53 [A0,I a] [(0,flag 61 hb)] 1 [some false,some true,some false,none,none,none,none,none,none,none,some false]).map acc3=some (I (mmV (sinG0 false (sinX (sinW false true a)))),some (flag 61 (sinGH (sinX (sinW false true a)) (hb||satH a))),[(decide ((sinW false true a)<0),false),(decide (fabsV (sinW false true a)≤843314857),false),(decide (wrapV (satV a) < -1686629713),true),(decide (wrapV (satV a)>1686629713),false)]):=by kernel_rfl
theorem snffs (a:Int) (hb:Bool):(runF Tryz.prog S36 Zl 2000 53 [A0,I a] [(0,flag 61 hb)] 1 [some false,some false,some true,none,none,none,none,none,none,none]).map acc3=some (I (mmV (sinS0 (sinW false false a))),some (flag 61 (sinSH (sinW false false a) (hb||satH a))),[(decide (fabsV (sinW false false a)≤843314857),true),(decide (wrapV (satV a) < -1686629713),false),(decide (wrapV (satV a)>1686629713),false)]):=by kernel_rfl
theorem snffgt (a:Int) (hb:Bool):(runF Tryz.prog S36 Zl 2000 53 [A0,I a] [(0,flag 61 hb)] 1 [some false,some false,some false,none,none,none,none,none,none,none,some true]).map acc3=some (I (mmV (sinG0 true (sinX (sinW false false a)))),some (flag 61 (sinGH (sinX (sinW false false a)) (hb||satH a))),[(decide ((sinW false false a)<0),true),(decide (fabsV (sinW false false a)≤843314857),false),(decide (wrapV (satV a) < -1686629713),false),(decide (wrapV (satV a)>1686629713),false)]):=by kernel_rfl
theorem snffgf (a:Int) (hb:Bool):(runF Tryz.prog S36 Zl 2000 53 [A0,I a] [(0,flag 61 hb)] 1 [some false,some false,some false,none,none,none,none,none,none,none,some false]).map acc3=some (I (mmV (sinG0 false (sinX (sinW false false a)))),some (flag 61 (sinGH (sinX (sinW false false a)) (hb||satH a))),[(decide ((sinW false false a)<0),false),(decide (fabsV (sinW false false a)≤843314857),false),(decide (wrapV (satV a) < -1686629713),false),(decide (wrapV (satV a)>1686629713),false)]):=by kernel_rfl
def sinF (w:Int):Int:=bif decide (fabsV w≤843314857) then mmV (sinS0 w) else mmV (sinG0 (decide (w<0)) (sinX w))
def sinFH (w:Int) (h:Bool):Bool:=bif decide (fabsV w≤843314857) then sinSH w h else sinGH (sinX w) h
def sinV (a:Int):Int:=sinF (sinW (decide (wrapV (satV a)>1686629713)) (decide (wrapV (satV a) < -1686629713)) a)
def sinH (a:Int) (h:Bool):Bool:=sinFH (sinW (decide (wrapV (satV a)>1686629713)) (decide (wrapV (satV a) < -1686629713)) a) (h||satH a)
def sinS:List LV→Bool→Option (LV×Bool×List (Bool×Bool))
 | [.v (.one (.int .i64 a))],hb=>some (I (sinV a),sinH a hb,[])
 | _,_=>none
theorem sumSin:SumOK Tryz.prog 53 (accSum 61 sinS):=by
 refine accSum_run (z:=Zl) sound36 (own_of sound36 Tryz.func53 (by kernel_rfl)) fun args hb v h' cs hF hc=> ?_
 unfold sinS at hF
 split at hF
 ·rename_i a
  cases hF
  refine ⟨rfl, ?_⟩
  unfold sinV sinH
  have eT:∀b:Bool,sinW true b a=sinW true false a:=fun b=>rfl
  rcases bool_cases (decide (wrapV (satV a)>1686629713)) with h1 | h1
  ·rw [h1,eT]
   rcases bool_cases (decide (fabsV (sinW true false a)≤843314857)) with h3 | h3
   ·unfold sinF sinFH;rw [cond_t h3,cond_t h3];exact ⟨2000,_,_,sntfs a hb,ae_cons h3 (ae_cons h1 ae_nil)⟩
   ·unfold sinF sinFH;rw [cond_f h3,cond_f h3]
    rcases bool_cases (decide ((sinW true false a)<0)) with h4 | h4
    ·rw [h4];exact ⟨2000,_,_,sntfgt a hb,ae_cons h4 (ae_cons h3 (ae_cons h1 ae_nil))⟩
    ·rw [h4];exact ⟨2000,_,_,sntfgf a hb,ae_cons h4 (ae_cons h3 (ae_cons h1 ae_nil))⟩
  ·rw [h1]
   rcases bool_cases (decide (wrapV (satV a) < -1686629713)) with h2 | h2
   ·rw [h2]
    rcases bool_cases (decide (fabsV (sinW false true a)≤843314857)) with h3 | h3
    ·unfold sinF sinFH;rw [cond_t h3,cond_t h3];exact ⟨2000,_,_,snfts a hb,ae_cons h3 (ae_cons h2 (ae_cons h1 ae_nil))⟩
    ·unfold sinF sinFH;rw [cond_f h3,cond_f h3]
     rcases bool_cases (decide ((sinW false true a)<0)) with h4 | h4
     ·rw [h4];exact ⟨2000,_,_,snftgt a hb,ae_cons h4 (ae_cons h3 (ae_cons h2 (ae_cons h1 ae_nil)))⟩
     ·rw [h4];exact ⟨2000,_,_,snftgf a hb,ae_cons h4 (ae_cons h3 (ae_cons h2 (ae_cons h1 ae_nil)))⟩
   ·rw [h2]
    rcases bool_cases (decide (fabsV (sinW false false a)≤843314857)) with h3 | h3
    ·unfold sinF sinFH;rw [cond_t h3,cond_t h3];exact ⟨2000,_,_,snffs a hb,ae_cons h3 (ae_cons h2 (ae_cons h1 ae_nil))⟩
    ·unfold sinF sinFH;rw [cond_f h3,cond_f h3]
     rcases bool_cases (decide ((sinW false false a)<0)) with h4 | h4
     ·rw [h4];exact ⟨2000,_,_,snffgt a hb,ae_cons h4 (ae_cons h3 (ae_cons h2 (ae_cons h1 ae_nil)))⟩
     ·rw [h4];exact ⟨2000,_,_,snffgf a hb,ae_cons h4 (ae_cons h3 (ae_cons h2 (ae_cons h1 ae_nil)))⟩
 ·cases hF
noncomputable def S38:FuncId→Option SumK:=more S36 53 (accSum 61 sinS)
theorem sound38:Sound Tryz.prog S38:=sound36.more sumSin
def cosV (a:Int):Int:=sinV (wr IntKind.i64 (1686629713+wrapV a))
def cosH (a:Int) (h:Bool):Bool:=sinH (wr IntKind.i64 (1686629713+wrapV a)) h
def cosS:List LV→Bool→Option (LV×Bool×List (Bool×Bool))
 | [.v (.one (.int .i64 a))],hb=>some (I (cosV a),cosH a hb,[])
 | _,_=>none
theorem runCos (a:Int) (hb:Bool) (ty:TypeId) (ht:ty=61):(runF Tryz.prog S38 Zl 2000 54 [A0,I a] [(0,flag ty hb)] 1 []).map acc3=some (I (cosV a),some (flag ty (cosH a hb)),[]):=by subst ht;kernel_rfl
theorem sumCos:SumOK Tryz.prog 54 (accSum 61 cosS):=by
 refine accSum_run (z:=Zl) sound38 (own_of sound38 Tryz.func54 (by kernel_rfl)) fun args hb v h' cs hF hc=> ?_
 unfold cosS at hF
 split at hF
 ·rename_i a
  cases hF
  exact ⟨rfl,2000,_,_,runCos a hb _ rfl,ae_nil⟩
 ·cases hF
noncomputable def S39:FuncId→Option SumK:=more S38 54 (accSum 61 cosS)
theorem sound39:Sound Tryz.prog S39:=sound38.more sumCos
end Go.Proofs.YtnlhpaidmiogbaaGreat

/- Quaternions in both answers: their runs, against what they compute. -/
namespace Go.Proofs.YtnlhpaidmiogbaaGreat
open Go.Lr
set_option linter.unusedVariables false
set_option linter.unusedSimpArgs false
def uE (x a0 a1 a2 a3:Int):Int:=divPV (divPV x (hypV [a0,a1,a2,a3]) 30) (hypV [divPV a0 (hypV [a0,a1,a2,a3]) 30,divPV a1 (hypV [a0,a1,a2,a3]) 30,divPV a2 (hypV [a0,a1,a2,a3]) 30,divPV a3 (hypV [a0,a1,a2,a3]) 30]) 30
def uM (a0 a1 a2 a3:Int):Int:=hypV [divPV a0 (hypV [a0,a1,a2,a3]) 30,divPV a1 (hypV [a0,a1,a2,a3]) 30,divPV a2 (hypV [a0,a1,a2,a3]) 30,divPV a3 (hypV [a0,a1,a2,a3]) 30]
def uH (h:Bool) (a0 a1 a2 a3:Int):Bool:=h||hypH [a0,a1,a2,a3]||divPH a0 (hypV [a0,a1,a2,a3]) 30||divPH a1 (hypV [a0,a1,a2,a3]) 30||divPH a2 (hypV [a0,a1,a2,a3]) 30||divPH a3 (hypV [a0,a1,a2,a3]) 30||hypH [divPV a0 (hypV [a0,a1,a2,a3]) 30,divPV a1 (hypV [a0,a1,a2,a3]) 30,divPV a2 (hypV [a0,a1,a2,a3]) 30,divPV a3 (hypV [a0,a1,a2,a3]) 30]||divPH (divPV a0 (hypV [a0,a1,a2,a3]) 30) (uM a0 a1 a2 a3) 30||divPH (divPV a1 (hypV [a0,a1,a2,a3]) 30) (uM a0 a1 a2 a3) 30||divPH (divPV a2 (hypV [a0,a1,a2,a3]) 30) (uM a0 a1 a2 a3) 30||divPH (divPV a3 (hypV [a0,a1,a2,a3]) 30) (uM a0 a1 a2 a3) 30
def uZ (a0 a1 a2 a3:Int):Bool:=satV a0==0&&(satV a1==0&&(satV a2==0&&(satV a3==0&&true)))
def uS (h:Bool) (a0 a1 a2 a3:Int):Bool:=h||satH a0||satH a1||satH a2||satH a3
def unitS:List LV→Bool→Option (LV×Bool×List (Bool×Bool))
 | [.v (.agg [.int .i64 a0,.int .i64 a1,.int .i64 a2,.int .i64 a3])],hb=>some (.v (.agg [.int .i64 (bif uZ a0 a1 a2 a3 then 1073741824 else uE (satV a0) (satV a0) (satV a1) (satV a2) (satV a3)),.int .i64 (bif uZ a0 a1 a2 a3 then 0 else uE (satV a1) (satV a0) (satV a1) (satV a2) (satV a3)),.int .i64 (bif uZ a0 a1 a2 a3 then 0 else uE (satV a2) (satV a0) (satV a1) (satV a2) (satV a3)),.int .i64 (bif uZ a0 a1 a2 a3 then 0 else uE (satV a3) (satV a0) (satV a1) (satV a2) (satV a3))]),
  (bif uZ a0 a1 a2 a3 then uS hb a0 a1 a2 a3 else uH (uS hb a0 a1 a2 a3) (satV a0) (satV a1) (satV a2) (satV a3)),[])
 | _,_=>none
def mulQ (a0 a1 a2 a3 b0 b1 b2 b3:Int):LV:= .v (.agg [.int .i64 (dotV 30 [satV a0,satV a1,satV a2,satV a3] [satV b0,wr IntKind.i64 (0 - satV b1),wr IntKind.i64 (0 - satV b2),wr IntKind.i64 (0 - satV b3)]),.int .i64 (dotV 30 [satV a0,satV a1,satV a2,satV a3] [satV b1,satV b0,satV b3,wr IntKind.i64 (0 - satV b2)]),.int .i64 (dotV 30 [satV a0,satV a1,satV a2,satV a3] [satV b2,wr IntKind.i64 (0 - satV b3),satV b0,satV b1]),.int .i64 (dotV 30 [satV a0,satV a1,satV a2,satV a3] [satV b3,satV b2,wr IntKind.i64 (0 - satV b1),satV b0])])
def mulQH (h:Bool) (a0 a1 a2 a3 b0 b1 b2 b3:Int):Bool:=h||satH a0||satH a1||satH a2||satH a3||satH b0||satH b1||satH b2||satH b3||dotH 30 [satV a0,satV a1,satV a2,satV a3] [satV b0,wr IntKind.i64 (0 - satV b1),wr IntKind.i64 (0 - satV b2),wr IntKind.i64 (0 - satV b3)]||dotH 30 [satV a0,satV a1,satV a2,satV a3] [satV b1,satV b0,satV b3,wr IntKind.i64 (0 - satV b2)]||dotH 30 [satV a0,satV a1,satV a2,satV a3] [satV b2,wr IntKind.i64 (0 - satV b3),satV b0,satV b1]||dotH 30 [satV a0,satV a1,satV a2,satV a3] [satV b3,satV b2,wr IntKind.i64 (0 - satV b1),satV b0]
def mulQS:List LV→Bool→Option (LV×Bool×List (Bool×Bool))
 | [.v (.agg [.int .i64 a0,.int .i64 a1,.int .i64 a2,.int .i64 a3]),.v (.agg [.int .i64 b0,.int .i64 b1,.int .i64 b2,.int .i64 b3])],hb=>some (mulQ a0 a1 a2 a3 b0 b1 b2 b3,mulQH hb a0 a1 a2 a3 b0 b1 b2 b3,[])
 | _,_=>none
theorem puZ (a0 a1 a2 a3:Int) (hb:Bool):(runF Tryz.prog S34 Zl 2000 85 [A0,.v (.agg [.int .i64 a0,.int .i64 a1,.int .i64 a2,.int .i64 a3])] [(0,flag 61 hb)] 1 [some true]).map acc3=some (.v (.agg [.int .i64 1073741824,.int .i64 0,.int .i64 0,.int .i64 0]),some (flag 61 (uS hb a0 a1 a2 a3)),[(uZ a0 a1 a2 a3,true)]):=by kernel_rfl
theorem puN (a0 a1 a2 a3:Int) (hb:Bool):(runF Tryz.prog S34 Zl 2000 85 [A0,.v (.agg [.int .i64 a0,.int .i64 a1,.int .i64 a2,.int .i64 a3])] [(0,flag 61 hb)] 1 [some false,none,none,none,none,none,none,none,none,none,none,none,none,none,none,none]).map acc3=some (.v (.agg [.int .i64 (uE (satV a0) (satV a0) (satV a1) (satV a2) (satV a3)),.int .i64 (uE (satV a1) (satV a0) (satV a1) (satV a2) (satV a3)),.int .i64 (uE (satV a2) (satV a0) (satV a1) (satV a2) (satV a3)),.int .i64 (uE (satV a3) (satV a0) (satV a1) (satV a2) (satV a3))]),some (flag 61 (uH (uS hb a0 a1 a2 a3) (satV a0) (satV a1) (satV a2) (satV a3))),[(uZ a0 a1 a2 a3,false)]):=by kernel_rfl
theorem sumpu:SumOK Tryz.prog 85 (accSum 61 unitS):=by
 refine accSum_run (z:=Zl) sound34 (own_of sound34 Tryz.func85 (by kernel_rfl)) fun args hb v h' cs hF hc=> ?_
 unfold unitS at hF
 split at hF
 ·rename_i a0 a1 a2 a3
  cases hF
  refine ⟨rfl, ?_⟩
  rcases bool_cases (uZ a0 a1 a2 a3) with h | h
  ·rw [h];exact ⟨2000,_,_,puZ a0 a1 a2 a3 hb,ae_cons h ae_nil⟩
  ·rw [h];exact ⟨2000,_,_,puN a0 a1 a2 a3 hb,ae_cons h ae_nil⟩
 ·cases hF
theorem pmR (a0 a1 a2 a3 b0 b1 b2 b3:Int) (hb:Bool):(runF Tryz.prog S34 Zl 2000 150 [A0,.v (.agg [.int .i64 a0,.int .i64 a1,.int .i64 a2,.int .i64 a3]),.v (.agg [.int .i64 b0,.int .i64 b1,.int .i64 b2,.int .i64 b3])] [(0,flag 61 hb)] 1 []).map acc3=some (mulQ a0 a1 a2 a3 b0 b1 b2 b3,some (flag 61 (mulQH hb a0 a1 a2 a3 b0 b1 b2 b3)),[]):=by kernel_rfl
theorem sumpm:SumOK Tryz.prog 150 (accSum 61 mulQS):=by
 refine accSum_run (z:=Zl) sound34 (own_of sound34 Tryz.func150 (by kernel_rfl)) fun args hb v h' cs hF hc=> ?_
 unfold mulQS at hF
 split at hF
 ·rename_i a0 a1 a2 a3 b0 b1 b2 b3
  cases hF
  exact ⟨rfl,2000,_,_,pmR a0 a1 a2 a3 b0 b1 b2 b3 hb,ae_nil⟩
 ·cases hF
end Go.Proofs.YtnlhpaidmiogbaaGreat

/- Rotations' matrices in both answers: the second answer's Of, Apply, Back in the program's words. -/
namespace Go.Proofs.YtnlhpaidmiogbaaGreat
open Go.Lr
set_option linter.unusedVariables false
set_option linter.unusedSimpArgs false
def inS (a:Int):Prop:= -1152921504606846976≤a∧a≤1152921504606846976
end Go.Proofs.YtnlhpaidmiogbaaGreat

/- The second answer's matrix of a quaternion: its run (printed), in the program's words. -/
namespace Go.Proofs.YtnlhpaidmiogbaaGreat
open Go.Lr
set_option linter.unusedVariables false
set_option linter.unusedSimpArgs false
end Go.Proofs.YtnlhpaidmiogbaaGreat

/- Headings in both answers: their runs, against what they compute. -/
namespace Go.Proofs.YtnlhpaidmiogbaaGreat
open Go.Lr
set_option linter.unusedVariables false
set_option linter.unusedSimpArgs false
noncomputable def S42:FuncId→Option SumK:=more S39 85 (accSum 61 unitS)
theorem sound42:Sound Tryz.prog S42:=sound39.more sumpu
def acc3S (ty:TypeId) (r:Option (LV×Bool×List (Bool×Bool))):Option (LV×Option Blk×List (Bool×Bool)):=r.map fun q=>(q.1,some (flag ty q.2.1),q.2.2)
def fyS:List LV→Bool→Option (LV×Bool×List (Bool×Bool))
 | [.v (.one (.int .i64 a))],hb=>unitS [.v (.agg [.int .i64 (cosV (mulV (wrapV a) 536870912 30)),.int .i64 0,.int .i64 0,.int .i64 (sinV (mulV (wrapV a) 536870912 30))])] (sinH (mulV (wrapV a) 536870912 30) (cosH (mulV (wrapV a) 536870912 30) (hb||mulH (wrapV a) 536870912 30)))
 | _,_=>none
theorem pfyR (a:Int) (hb:Bool):(runF Tryz.prog S42 Zl 2000 39 [A0,I a] [(0,flag 61 hb)] 1 []).map acc3=acc3S 61 (fyS [I a] hb):=by kernel_rfl
end Go.Proofs.YtnlhpaidmiogbaaGreat

/- Exponentials in both answers: their runs, against what they compute. -/
namespace Go.Proofs.YtnlhpaidmiogbaaGreat
open Go.Lr
set_option linter.unusedVariables false
set_option linter.unusedSimpArgs false
def exN (v0 v1 v2:Int):Int:=hypV [satV v0,satV v1,satV v2]
def exH0 (h:Bool) (v0 v1 v2:Int):Bool:=h||satH v0||satH v1||satH v2||hypH [satV v0,satV v1,satV v2]
def exA (v0 v1 v2:Int):Int:=mulV (exN v0 v1 v2) 536870912 30
def exS (v0 v1 v2:Int):Int:=divPV (sinV (exA v0 v1 v2)) (exN v0 v1 v2) 30
def exH1 (h:Bool) (v0 v1 v2:Int):Bool:=cosH (exA v0 v1 v2) (sinH (exA v0 v1 v2) (exH0 h v0 v1 v2||mulH (exN v0 v1 v2) 536870912 30)||divPH (sinV (exA v0 v1 v2)) (exN v0 v1 v2) 30)||mulH (satV v0) (exS v0 v1 v2) 30||mulH (satV v1) (exS v0 v1 v2) 30||mulH (satV v2) (exS v0 v1 v2) 30
def exB (v0 v1 v2:Int) (hb:Bool):Option (LV×Bool×List (Bool×Bool)):=unitS [.v (.agg [.int .i64 (cosV (exA v0 v1 v2)),.int .i64 (mulV (satV v0) (exS v0 v1 v2) 30),.int .i64 (mulV (satV v1) (exS v0 v1 v2) 30),.int .i64 (mulV (satV v2) (exS v0 v1 v2) 30)])] (exH1 hb v0 v1 v2)
def withAsk (c:Bool×Bool) (r:Option (LV×Option Blk×List (Bool×Bool))):Option (LV×Option Blk×List (Bool×Bool)):=r.map fun q=>(q.1,q.2.1,c::q.2.2)
theorem pexZ (v0 v1 v2:Int) (hb:Bool):(runF Tryz.prog S42 Zl 2000 194 [A0,.v (.agg [.int .i64 v0,.int .i64 v1,.int .i64 v2])] [(0,flag 61 hb)] 1 [some true]).map acc3=some (.v (.agg [.int .i64 1073741824,.int .i64 0,.int .i64 0,.int .i64 0]),some (flag 61 (exH0 hb v0 v1 v2)),[(exN v0 v1 v2==0,true)]):=by kernel_rfl
theorem pexN (v0 v1 v2:Int) (hb:Bool):(runF Tryz.prog S42 Zl 2000 194 [A0,.v (.agg [.int .i64 v0,.int .i64 v1,.int .i64 v2])] [(0,flag 61 hb)] 1 [some false]).map acc3=withAsk (exN v0 v1 v2==0,false) (acc3S 61 (exB v0 v1 v2 hb)):=by kernel_rfl
end Go.Proofs.YtnlhpaidmiogbaaGreat

/- Headings and exponentials in both answers: their summaries; turning vectors. -/
namespace Go.Proofs.YtnlhpaidmiogbaaGreat
open Go.Lr
set_option linter.unusedVariables false
set_option linter.unusedSimpArgs false
theorem unitS_inv {a0 a1 a2 a3:Int} {hb:Bool}:∃v h,unitS [.v (.agg [.int .i64 a0,.int .i64 a1,.int .i64 a2,.int .i64 a3])] hb=some (v,h,[])∧v.ok noP=true:=⟨_,_,rfl,rfl⟩
theorem acc3S_some {ty:TypeId} {r:Option (LV×Bool×List (Bool×Bool))} {v:LV} {h:Bool} {cs:List (Bool×Bool)} (e:r=some (v,h,cs)):acc3S ty r=some (v,some (flag ty h),cs):=by subst e;rfl
theorem sumPfy:SumOK Tryz.prog 39 (accSum 61 fyS):=by
 refine accSum_run (z:=Zl) sound42 (own_of sound42 Tryz.func39 (by kernel_rfl)) fun args hb v h' cs hF hc=> ?_
 have hF0:=hF
 unfold fyS at hF
 split at hF
 ·rename_i a
  obtain ⟨v1,h1,e,ok⟩:=unitS_inv (a0:=cosV (mulV (wrapV a) 536870912 30)) (a1:=0) (a2:=0) (a3:=sinV (mulV (wrapV a) 536870912 30)) (hb:=sinH (mulV (wrapV a) 536870912 30) (cosH (mulV (wrapV a) 536870912 30) (hb||mulH (wrapV a) 536870912 30)))
  have hF1:=hF
  rw [e] at hF1
  cases hF1
  exact ⟨ok,2000,[],_,(pfyR a hb).trans (acc3S_some hF0),ae_nil⟩
 ·cases hF
end Go.Proofs.YtnlhpaidmiogbaaGreat

/- Exponentials in both answers: their summaries; the second answer's turning of vectors. -/
namespace Go.Proofs.YtnlhpaidmiogbaaGreat
open Go.Lr
set_option linter.unusedVariables false
set_option linter.unusedSimpArgs false
def expS:List LV→Bool→Option (LV×Bool×List (Bool×Bool))
 | [.v (.agg [.int .i64 v0,.int .i64 v1,.int .i64 v2])],hb=>bif exN v0 v1 v2==0 then some (.v (.agg [.int .i64 1073741824,.int .i64 0,.int .i64 0,.int .i64 0]),exH0 hb v0 v1 v2,[]) else exB v0 v1 v2 hb
 | _,_=>none
theorem exB_inv (v0 v1 v2:Int) (hb:Bool):∃v h,exB v0 v1 v2 hb=some (v,h,[])∧v.ok noP=true:=unitS_inv
theorem sumPexp:SumOK Tryz.prog 194 (accSum 61 expS):=by
 refine accSum_run (z:=Zl) sound42 (own_of sound42 Tryz.func194 (by kernel_rfl)) fun args hb v h' cs hF hc=> ?_
 unfold expS at hF
 split at hF
 ·rename_i v0 v1 v2
  rcases bool_cases (exN v0 v1 v2==0) with h | h
  ·rw [cond_t h] at hF
   cases hF
   exact ⟨rfl,2000,_,_,pexZ v0 v1 v2 hb,ae_cons h ae_nil⟩
  ·rw [cond_f h] at hF
   obtain ⟨v1',h1,e,ok⟩:=exB_inv v0 v1 v2 hb
   have hF1:=hF
   rw [e] at hF1
   cases hF1
   have hr:=pexN v0 v1 v2 hb
   rw [acc3S_some hF] at hr
   exact ⟨ok,2000,_,_,hr,ae_cons h ae_nil⟩
 ·cases hF
end Go.Proofs.YtnlhpaidmiogbaaGreat

/- Tilts in both answers: the plain facts. -/
namespace Go.Proofs.YtnlhpaidmiogbaaGreat
open Go.Lr
set_option linter.unusedVariables false
set_option linter.unusedSimpArgs false
theorem sqN (a:Int):0≤a*a:=by
 have h:0≤a∨a≤0:=by omega
 rcases h with h | h
 ·exact Int.mul_nonneg h h
 ·exact Int.mul_nonneg_of_nonpos_of_nonpos h h
theorem absSq (a:Int):absV a*absV a=a*a:=by rw [←absV_mul,absV_pos (sqN a)]
theorem sqS3 (x y z:Int):sqS (List.take 64 [x,y,z])=satV x*satV x+(satV y*satV y+satV z*satV z):=by
 show satV x*satV x+(satV y*satV y+(satV z*satV z+0))=_
 omega
theorem sqb {s:Int} (h0: -1152921504606846976≤s) (h1:s≤1152921504606846976):0≤s*s∧s*s≤1329227995784915872903807060280344576:=by
 refine ⟨sqN s, ?_⟩
 have:=prod_lt (a:=s) (b:=s) (k:=1152921504606846976) (l:=1152921504606846976) (by unfold absV;split <;> omega) (by unfold absV;split <;> omega)
 omega
theorem root_side {s N:Int} (h1:s*s≤N) (hN:N<340282366920938463463374607431768211456):s≤rootW N∧ -s≤rootW N:=by
 have h0:=sqN s
 constructor
 ·refine root_ge (by omega) hN ?_
  by_cases h:s≤0
  ·exact .inl h
  ·exact .inr (by omega)
 ·refine root_ge (by omega) hN ?_
  by_cases h: -s≤0
  ·exact .inl h
  ·right
   have e: -s * -s=s*s:=by grind
   omega
theorem exN_side (v0 v1 v2:Int):(satV v0≤exN v0 v1 v2∧ -satV v0≤exN v0 v1 v2)∧(satV v1≤exN v0 v1 v2∧ -satV v1≤exN v0 v1 v2)∧(satV v2≤exN v0 v1 v2∧ -satV v2≤exN v0 v1 v2)∧0≤exN v0 v1 v2∧exN v0 v1 v2≤1152921504606846976:=by
 unfold exN hypV
 rw [sqS3,sat_sat,sat_sat,sat_sat]
 have b0:=sat_bd v0
 have b1:=sat_bd v1
 have b2:=sat_bd v2
 generalize satV v0=a at *
 generalize satV v1=b at *
 generalize satV v2=c at *
 have q0:=sqb b0.1 b0.2
 have q1:=sqb b1.1 b1.2
 have q2:=sqb b2.1 b2.2
 have hN:a*a+(b*b+c*c)<340282366920938463463374607431768211456:=by omega
 have s0:=root_side (s:=a) (N:=a*a+(b*b+c*c)) (by omega) hN
 have s1:=root_side (s:=b) (N:=a*a+(b*b+c*c)) (by omega) hN
 have s2:=root_side (s:=c) (N:=a*a+(b*b+c*c)) (by omega) hN
 generalize rootW (a*a+(b*b+c*c))=r at *
 have hr:=sat_bd r
 have:satV r=r∨1152921504606846976≤satV r:=by
  unfold satV clampV at *
  clear hr
  (repeat' split) <;> omega
 omega
theorem exN_zero {v0 v1 v2:Int} (h0:satV v0=0) (h1:satV v1=0) (h2:satV v2=0):exN v0 v1 v2=0∧hypH [satV v0,satV v1,satV v2]=false:=by
 unfold exN
 rw [h0,h1,h2]
 exact ⟨by kernel_rfl,by kernel_rfl⟩
def tlZ (v0 v1 v2:Int):Bool:=satV v0==0&&(satV v1==0&&(satV v2==0&&true))
theorem tlZ_eq (v0 v1 v2:Int):tlZ v0 v1 v2=(exN v0 v1 v2==0):=by
 have hs:=exN_side v0 v1 v2
 unfold tlZ
 by_cases h:exN v0 v1 v2=0
 ·have e0:satV v0=0:=by omega
  have e1:satV v1=0:=by omega
  have e2:satV v2=0:=by omega
  rw [e0,e1,e2,h]
  rfl
 ·have e:(exN v0 v1 v2==0)=false:=by simpa using h
  rw [e]
  by_cases e0:satV v0=0
  ·by_cases e1:satV v1=0
   ·by_cases e2:satV v2=0
    ·exact absurd (exN_zero e0 e1 e2).1 h
    ·simp [e2]
   ·simp [e1]
  ·simp [e0]
theorem tl_h {v0 v1 v2:Int} (h:(exN v0 v1 v2==0)=true) (hb:Bool):exH0 hb v0 v1 v2=(hb||satH v0||satH v1||satH v2):=by
 have hs:=exN_side v0 v1 v2
 have h:exN v0 v1 v2=0:=by simpa using h
 unfold exH0
 rw [(exN_zero (v0:=v0) (v1:=v1) (v2:=v2) (by omega) (by omega) (by omega)).2,Bool.or_false]
theorem dpass {v u:Int} (h0:v≤u) (h1: -v≤u) (h2:1≤u) (h3:u≤1152921504606846976):
  (-u≤2*(divPV v u 30*u - v*1073741824)∧2*(divPV v u 30*u - v*1073741824)≤u)∧(-1073741824≤divPV v u 30∧divPV v u 30≤1073741824)∧divPH v u 30=false:=by
 have key:∀w:Int,0≤w→w≤u→ -u≤2*(divV (w*1073741824) u*u - w*1073741824)∧2*(divV (w*1073741824) u*u - w*1073741824)≤u:=by
  intro w w0 w1
  rw [div_pos (a:=w*1073741824) (b:=u) (by omega) (by omega)]
  exact quo_bd (by omega) (by omega)
 have odd:∀w:Int,divV (-w) u = -divV w u:=by
  intro w
  unfold divV
  rw [absV_negate]
  have hu:decide (u<0)=false:=by simp;omega
  rw [hu]
  by_cases g0:w=0
  ·subst g0
   have:quoR (absV 0) (absV u)=0:=by
    rw [show absV 0=0 from rfl]
    exact quoR_zero (by unfold absV;split <;> omega)
   rw [this];rfl
  ·by_cases g1:w<0
   ·have e1:decide (w<0)=true:=by simpa using g1
    have e2:decide (-w<0)=false:=by simp;omega
    rw [e1,e2];unfold sgn;simp
   ·have e1:decide (w<0)=false:=by simp;omega
    have e2:decide (-w<0)=true:=by simp;omega
    rw [e1,e2];unfold sgn;simp
 have hd: -u≤2*(divV (v*1073741824) u*u - v*1073741824)∧2*(divV (v*1073741824) u*u - v*1073741824)≤u:=by
  by_cases h:0≤v
  ·exact key v h h0
  ·have k:=key (-v) (by omega) h1
   rw [show -v*1073741824 = -(v*1073741824) by omega,odd,Int.neg_mul] at k
   omega
 have e:pow2 (Int.toNat 30)=1073741824:=rfl
 have hb: -1073741824≤divV (v*1073741824) u∧divV (v*1073741824) u≤1073741824:=by
  generalize divV (v*1073741824) u=t at *
  constructor
  ·rcases Int.lt_or_le t (-1073741824) with h | h
   ·exfalso
    have:t*u≤ -1073741825*u:=Int.mul_le_mul_of_nonneg_right (by omega) (by omega)
    omega
   ·exact h
  ·rcases Int.lt_or_le 1073741824 t with h | h
   ·exfalso
    have:1073741825*u≤t*u:=Int.mul_le_mul_of_nonneg_right (by omega) (by omega)
    omega
   ·exact h
 have hs: -1152921504606846976≤v∧v≤1152921504606846976:=by omega
 have ev:divPV v u 30=divV (v*1073741824) u:=by
  unfold divPV byV
  rw [if_neg (by decide),if_neg (by decide),e,sat_in (a:=v) hs.1 hs.2,sat_in (a:=u) (by omega) h3,if_neg (by omega),sat_in (by omega) (by omega)]
 refine ⟨by rw [ev];exact hd,by rw [ev];exact hb, ?_⟩
 unfold divPH byH
 rw [e,sat_in (a:=v) hs.1 hs.2,sat_in (a:=u) (by omega) h3,satH_in (a:=v) hs.1 hs.2,satH_in (a:=u) (by omega) h3,satH_in (a:=divV (v*1073741824) u) (by omega) (by omega)]
 have:(u==0)=false:=by simp;omega
 rw [this];rfl
theorem sub_one {u:Int} (h0: -1073741824≤u) (h1:u≤1073741824):subV 1073741824 u=wr .i64 (1073741824 - u)∧subH 1073741824 u=false:=by
 unfold subV subH
 rw [sat_in (a:=u) (by omega) (by omega),sat_in (a:=1073741824) (by omega) (by omega),satH_in (a:=u) (by omega) (by omega),satH_in (a:=1073741824) (by omega) (by omega),satH_in (a:=1073741824 - u) (by omega) (by omega),sat_in (a:=1073741824 - u) (by omega) (by omega),wr_i,w64_in (by omega) (by omega)]
 exact ⟨rfl,rfl⟩
def uV0 (a0 a1 a2 a3:Int):Int:=bif uZ a0 a1 a2 a3 then 1073741824 else uE (satV a0) (satV a0) (satV a1) (satV a2) (satV a3)
def uV1 (a0 a1 a2 a3:Int):Int:=bif uZ a0 a1 a2 a3 then 0 else uE (satV a1) (satV a0) (satV a1) (satV a2) (satV a3)
def uV2 (a0 a1 a2 a3:Int):Int:=bif uZ a0 a1 a2 a3 then 0 else uE (satV a2) (satV a0) (satV a1) (satV a2) (satV a3)
def uV3 (a0 a1 a2 a3:Int):Int:=bif uZ a0 a1 a2 a3 then 0 else uE (satV a3) (satV a0) (satV a1) (satV a2) (satV a3)
def uFl (h:Bool) (a0 a1 a2 a3:Int):Bool:=bif uZ a0 a1 a2 a3 then uS h a0 a1 a2 a3 else uH (uS h a0 a1 a2 a3) (satV a0) (satV a1) (satV a2) (satV a3)
def tU (v v0 v1 v2:Int):Int:=divPV (satV v) (exN v0 v1 v2) 30
theorem tU_sub {v0 v1 v2:Int} (h:(exN v0 v1 v2==0)=false):subV 1073741824 (tU v2 v0 v1 v2)=wr .i64 (1073741824 - tU v2 v0 v1 v2)∧subH 1073741824 (tU v2 v0 v1 v2)=false:=by
 have h:exN v0 v1 v2≠0:=by simpa using h
 have hs:=exN_side v0 v1 v2
 unfold tU
 have:=(dpass (v:=satV v2) (u:=exN v0 v1 v2) (by omega) (by omega) (by omega) (by omega)).2.1
 exact sub_one this.1 this.2
end Go.Proofs.YtnlhpaidmiogbaaGreat

/- Tilts in both answers: their runs, their summaries. -/
namespace Go.Proofs.YtnlhpaidmiogbaaGreat
open Go.Lr
set_option linter.unusedVariables false
set_option linter.unusedSimpArgs false
def tlH (h:Bool) (v0 v1 v2:Int):Bool:=exH0 h v0 v1 v2||divPH (satV v0) (exN v0 v1 v2) 30||divPH (satV v1) (exN v0 v1 v2) 30||divPH (satV v2) (exN v0 v1 v2) 30
def tlB (w v0 v1 v2:Int) (h:Bool):Option (LV×Bool×List (Bool×Bool)):=unitS [.v (.agg [.int .i64 w,.int .i64 (wr IntKind.i64 (0 - tU v1 v0 v1 v2)),.int .i64 (tU v0 v0 v1 v2),.int .i64 0])] h
def tiltS:List LV→Bool→Option (LV×Bool×List (Bool×Bool))
 | [.v (.agg [.int .i64 v0,.int .i64 v1,.int .i64 v2])],hb=>bif exN v0 v1 v2==0 then some (.v (.agg [.int .i64 1073741824,.int .i64 0,.int .i64 0,.int .i64 0]),exH0 hb v0 v1 v2,[]) else
  bif decide (wr IntKind.i64 (1073741824 - tU v2 v0 v1 v2)≤16) then some (.v (.agg [.int .i64 0,.int .i64 1073741824,.int .i64 0,.int .i64 0]),tlH hb v0 v1 v2,[]) else tlB (wr IntKind.i64 (1073741824 - tU v2 v0 v1 v2)) v0 v1 v2 (tlH hb v0 v1 v2)
 | _,_=>none
theorem tlB_inv (w v0 v1 v2:Int) (hb:Bool):∃v h,tlB w v0 v1 v2 hb=some (v,h,[])∧v.ok noP=true:=unitS_inv
def with2 (c d:Bool×Bool) (r:Option (LV×Option Blk×List (Bool×Bool))):Option (LV×Option Blk×List (Bool×Bool)):=r.map fun q=>(q.1,q.2.1,d::c::q.2.2)
theorem ptZ (v0 v1 v2:Int) (hb:Bool):(runF Tryz.prog S42 Zl 2000 155 [A0,.v (.agg [.int .i64 v0,.int .i64 v1,.int .i64 v2])] [(0,flag 61 hb)] 1 [some true]).map acc3=some (.v (.agg [.int .i64 1073741824,.int .i64 0,.int .i64 0,.int .i64 0]),some (flag 61 (hb||satH v0||satH v1||satH v2)),[(tlZ v0 v1 v2,true)]):=by kernel_rfl
theorem ptL (v0 v1 v2:Int) (hb:Bool):(runF Tryz.prog S42 Zl 2000 155 [A0,.v (.agg [.int .i64 v0,.int .i64 v1,.int .i64 v2])] [(0,flag 61 hb)] 1 [some false,none,none,none,none,some true]).map acc3=some (.v (.agg [.int .i64 0,.int .i64 1073741824,.int .i64 0,.int .i64 0]),some (flag 61 (tlH hb v0 v1 v2||subH 1073741824 (tU v2 v0 v1 v2))),[(decide (subV 1073741824 (tU v2 v0 v1 v2)≤16),true),(tlZ v0 v1 v2,false)]):=by kernel_rfl
theorem ptN (v0 v1 v2:Int) (hb:Bool):(runF Tryz.prog S42 Zl 2000 155 [A0,.v (.agg [.int .i64 v0,.int .i64 v1,.int .i64 v2])] [(0,flag 61 hb)] 1 [some false,none,none,none,none,some false]).map acc3=with2 (tlZ v0 v1 v2,false) (decide (subV 1073741824 (tU v2 v0 v1 v2)≤16),false) (acc3S 61 (tlB (subV 1073741824 (tU v2 v0 v1 v2)) v0 v1 v2 (tlH hb v0 v1 v2||subH 1073741824 (tU v2 v0 v1 v2)))):=by kernel_rfl
theorem sumPtilt:SumOK Tryz.prog 155 (accSum 61 tiltS):=by
 refine accSum_run (z:=Zl) sound42 (own_of sound42 Tryz.func155 (by kernel_rfl)) fun args hb v h' cs hF hc=> ?_
 unfold tiltS at hF
 split at hF
 ·rename_i v0 v1 v2
  have hz:=tlZ_eq v0 v1 v2
  rcases bool_cases (exN v0 v1 v2==0) with h | h
  ·rw [cond_t h] at hF
   cases hF
   have hr:=ptZ v0 v1 v2 hb
   rw [←tl_h h] at hr
   exact ⟨rfl,2000,_,_,hr,ae_cons (hz.trans h) ae_nil⟩
  ·rw [cond_f h] at hF
   obtain ⟨es,eh⟩:=tU_sub h
   rcases bool_cases (decide (wr IntKind.i64 (1073741824 - tU v2 v0 v1 v2)≤16)) with g | g
   ·rw [cond_t g] at hF
    cases hF
    have hr:=ptL v0 v1 v2 hb
    rw [es,eh,Bool.or_false] at hr
    exact ⟨rfl,2000,_,_,hr,ae_cons g (ae_cons (hz.trans h) ae_nil)⟩
   ·rw [cond_f g] at hF
    obtain ⟨v1',h1,e,ok⟩:=tlB_inv (wr IntKind.i64 (1073741824 - tU v2 v0 v1 v2)) v0 v1 v2 (tlH hb v0 v1 v2)
    have hF1:=hF
    rw [e] at hF1
    cases hF1
    have hr:=ptN v0 v1 v2 hb
    rw [es,eh,Bool.or_false,acc3S_some hF] at hr
    exact ⟨ok,2000,_,_,hr,ae_cons g (ae_cons (hz.trans h) ae_nil)⟩
 ·cases hF
end Go.Proofs.YtnlhpaidmiogbaaGreat

/- Turned vectors in both answers; every function of rotations summed up. -/
namespace Go.Proofs.YtnlhpaidmiogbaaGreat
open Go.Lr
set_option linter.unusedVariables false
set_option linter.unusedSimpArgs false
def apS:List LV→Bool→Option (LV×Bool×List (Bool×Bool))
 | [.v (.agg [.int .i64 m0,.int .i64 m1,.int .i64 m2,.int .i64 m3,.int .i64 m4,.int .i64 m5,.int .i64 m6,.int .i64 m7,.int .i64 m8]),.v (.agg [.int .i64 v0,.int .i64 v1,.int .i64 v2])],hb=>some (.v (.agg [.int .i64 (dotV 30 [m0,m1,m2] [v0,v1,v2]),.int .i64 (dotV 30 [m3,m4,m5] [v0,v1,v2]),.int .i64 (dotV 30 [m6,m7,m8] [v0,v1,v2])]),(hb||dotH 30 [m0,m1,m2] [v0,v1,v2]||dotH 30 [m3,m4,m5] [v0,v1,v2]||dotH 30 [m6,m7,m8] [v0,v1,v2]),[])
 | _,_=>none
theorem papR (m0 m1 m2 m3 m4 m5 m6 m7 m8 v0 v1 v2:Int) (hb:Bool):(runF Tryz.prog S42 Zl 2000 40 [A0,.v (.agg [.int .i64 m0,.int .i64 m1,.int .i64 m2,.int .i64 m3,.int .i64 m4,.int .i64 m5,.int .i64 m6,.int .i64 m7,.int .i64 m8]),.v (.agg [.int .i64 v0,.int .i64 v1,.int .i64 v2])] [(0,flag 61 hb)] 1 []).map acc3=some (.v (.agg [.int .i64 (dotV 30 [m0,m1,m2] [v0,v1,v2]),.int .i64 (dotV 30 [m3,m4,m5] [v0,v1,v2]),.int .i64 (dotV 30 [m6,m7,m8] [v0,v1,v2])]),some (flag 61 (hb||dotH 30 [m0,m1,m2] [v0,v1,v2]||dotH 30 [m3,m4,m5] [v0,v1,v2]||dotH 30 [m6,m7,m8] [v0,v1,v2])),[]):=by kernel_rfl
theorem sumpap:SumOK Tryz.prog 40 (accSum 61 apS):=by
 refine accSum_run (z:=Zl) sound42 (own_of sound42 Tryz.func40 (by kernel_rfl)) fun args hb v h' cs hF hc=> ?_
 unfold apS at hF
 split at hF
 ·cases hF
  exact ⟨rfl,2000,[],_,papR _ _ _ _ _ _ _ _ _ _ _ _ hb,ae_nil⟩
 ·cases hF
def bkS:List LV→Bool→Option (LV×Bool×List (Bool×Bool))
 | [.v (.agg [.int .i64 m0,.int .i64 m1,.int .i64 m2,.int .i64 m3,.int .i64 m4,.int .i64 m5,.int .i64 m6,.int .i64 m7,.int .i64 m8]),.v (.agg [.int .i64 v0,.int .i64 v1,.int .i64 v2])],hb=>some (.v (.agg [.int .i64 (dotV 30 [m0,m3,m6] [v0,v1,v2]),.int .i64 (dotV 30 [m1,m4,m7] [v0,v1,v2]),.int .i64 (dotV 30 [m2,m5,m8] [v0,v1,v2])]),(hb||dotH 30 [m0,m3,m6] [v0,v1,v2]||dotH 30 [m1,m4,m7] [v0,v1,v2]||dotH 30 [m2,m5,m8] [v0,v1,v2]),[])
 | _,_=>none
theorem pbkR (m0 m1 m2 m3 m4 m5 m6 m7 m8 v0 v1 v2:Int) (hb:Bool):(runF Tryz.prog S42 Zl 2000 37 [A0,.v (.agg [.int .i64 m0,.int .i64 m1,.int .i64 m2,.int .i64 m3,.int .i64 m4,.int .i64 m5,.int .i64 m6,.int .i64 m7,.int .i64 m8]),.v (.agg [.int .i64 v0,.int .i64 v1,.int .i64 v2])] [(0,flag 61 hb)] 1 []).map acc3=some (.v (.agg [.int .i64 (dotV 30 [m0,m3,m6] [v0,v1,v2]),.int .i64 (dotV 30 [m1,m4,m7] [v0,v1,v2]),.int .i64 (dotV 30 [m2,m5,m8] [v0,v1,v2])]),some (flag 61 (hb||dotH 30 [m0,m3,m6] [v0,v1,v2]||dotH 30 [m1,m4,m7] [v0,v1,v2]||dotH 30 [m2,m5,m8] [v0,v1,v2])),[]):=by kernel_rfl
theorem sumpbk:SumOK Tryz.prog 37 (accSum 61 bkS):=by
 refine accSum_run (z:=Zl) sound42 (own_of sound42 Tryz.func37 (by kernel_rfl)) fun args hb v h' cs hF hc=> ?_
 unfold bkS at hF
 split at hF
 ·cases hF
  exact ⟨rfl,2000,[],_,pbkR _ _ _ _ _ _ _ _ _ _ _ _ hb,ae_nil⟩
 ·cases hF
def eV0 (v0 v1 v2:Int):Int:=bif exN v0 v1 v2==0 then 1073741824 else uV0 (cosV (exA v0 v1 v2)) (mulV (satV v0) (exS v0 v1 v2) 30) (mulV (satV v1) (exS v0 v1 v2) 30) (mulV (satV v2) (exS v0 v1 v2) 30)
def eV1 (v0 v1 v2:Int):Int:=bif exN v0 v1 v2==0 then 0 else uV1 (cosV (exA v0 v1 v2)) (mulV (satV v0) (exS v0 v1 v2) 30) (mulV (satV v1) (exS v0 v1 v2) 30) (mulV (satV v2) (exS v0 v1 v2) 30)
def eV2 (v0 v1 v2:Int):Int:=bif exN v0 v1 v2==0 then 0 else uV2 (cosV (exA v0 v1 v2)) (mulV (satV v0) (exS v0 v1 v2) 30) (mulV (satV v1) (exS v0 v1 v2) 30) (mulV (satV v2) (exS v0 v1 v2) 30)
def eV3 (v0 v1 v2:Int):Int:=bif exN v0 v1 v2==0 then 0 else uV3 (cosV (exA v0 v1 v2)) (mulV (satV v0) (exS v0 v1 v2) 30) (mulV (satV v1) (exS v0 v1 v2) 30) (mulV (satV v2) (exS v0 v1 v2) 30)
def eFl (h:Bool) (v0 v1 v2:Int):Bool:=bif exN v0 v1 v2==0 then exH0 h v0 v1 v2 else uFl (exH1 h v0 v1 v2) (cosV (exA v0 v1 v2)) (mulV (satV v0) (exS v0 v1 v2) 30) (mulV (satV v1) (exS v0 v1 v2) 30) (mulV (satV v2) (exS v0 v1 v2) 30)
def tV0 (v0 v1 v2:Int):Int:=bif exN v0 v1 v2==0 then 1073741824 else bif decide (wr IntKind.i64 (1073741824 - tU v2 v0 v1 v2)≤16) then 0 else uV0 (wr IntKind.i64 (1073741824 - tU v2 v0 v1 v2)) (wr IntKind.i64 (0 - tU v1 v0 v1 v2)) (tU v0 v0 v1 v2) 0
def tV1 (v0 v1 v2:Int):Int:=bif exN v0 v1 v2==0 then 0 else bif decide (wr IntKind.i64 (1073741824 - tU v2 v0 v1 v2)≤16) then 1073741824 else uV1 (wr IntKind.i64 (1073741824 - tU v2 v0 v1 v2)) (wr IntKind.i64 (0 - tU v1 v0 v1 v2)) (tU v0 v0 v1 v2) 0
def tV2 (v0 v1 v2:Int):Int:=bif exN v0 v1 v2==0 then 0 else bif decide (wr IntKind.i64 (1073741824 - tU v2 v0 v1 v2)≤16) then 0 else uV2 (wr IntKind.i64 (1073741824 - tU v2 v0 v1 v2)) (wr IntKind.i64 (0 - tU v1 v0 v1 v2)) (tU v0 v0 v1 v2) 0
def tV3 (v0 v1 v2:Int):Int:=bif exN v0 v1 v2==0 then 0 else bif decide (wr IntKind.i64 (1073741824 - tU v2 v0 v1 v2)≤16) then 0 else uV3 (wr IntKind.i64 (1073741824 - tU v2 v0 v1 v2)) (wr IntKind.i64 (0 - tU v1 v0 v1 v2)) (tU v0 v0 v1 v2) 0
def tFl (h:Bool) (v0 v1 v2:Int):Bool:=bif exN v0 v1 v2==0 then exH0 h v0 v1 v2 else bif decide (wr IntKind.i64 (1073741824 - tU v2 v0 v1 v2)≤16) then tlH h v0 v1 v2 else uFl (tlH h v0 v1 v2) (wr IntKind.i64 (1073741824 - tU v2 v0 v1 v2)) (wr IntKind.i64 (0 - tU v1 v0 v1 v2)) (tU v0 v0 v1 v2) 0
def expN:List LV→Bool→Option (LV×Bool×List (Bool×Bool))
 | [.v (.agg [.int .i64 v0,.int .i64 v1,.int .i64 v2])],hb=>some (.v (.agg [.int .i64 (eV0 v0 v1 v2),.int .i64 (eV1 v0 v1 v2),.int .i64 (eV2 v0 v1 v2),.int .i64 (eV3 v0 v1 v2)]),eFl hb v0 v1 v2,[])
 | _,_=>none
theorem expN_eq (v0 v1 v2:Int) (hb:Bool):expS [.v (.agg [.int .i64 v0,.int .i64 v1,.int .i64 v2])] hb=expN [.v (.agg [.int .i64 v0,.int .i64 v1,.int .i64 v2])] hb:=by
 unfold expS expN eV0 eV1 eV2 eV3 eFl
 rcases bool_cases (exN v0 v1 v2==0) with h | h
 ·simp only [h,cond_true]
 ·simp only [h,cond_false];rfl
theorem sumPexpN:SumOK Tryz.prog 194 (accSum 61 expN):=by
 refine (sumPexp).acc_re fun args hb v h' cs hF _=> ?_
 have hF0:=hF
 unfold expN at hF
 split at hF
 ·cases hF
  exact ⟨[],(expN_eq _ _ _ hb).trans hF0,ae_nil⟩
 ·cases hF
def tiltN:List LV→Bool→Option (LV×Bool×List (Bool×Bool))
 | [.v (.agg [.int .i64 v0,.int .i64 v1,.int .i64 v2])],hb=>some (.v (.agg [.int .i64 (tV0 v0 v1 v2),.int .i64 (tV1 v0 v1 v2),.int .i64 (tV2 v0 v1 v2),.int .i64 (tV3 v0 v1 v2)]),tFl hb v0 v1 v2,[])
 | _,_=>none
theorem tiltN_eq (v0 v1 v2:Int) (hb:Bool):tiltS [.v (.agg [.int .i64 v0,.int .i64 v1,.int .i64 v2])] hb=tiltN [.v (.agg [.int .i64 v0,.int .i64 v1,.int .i64 v2])] hb:=by
 unfold tiltS tiltN tV0 tV1 tV2 tV3 tFl
 rcases bool_cases (exN v0 v1 v2==0) with h | h
 ·simp only [h,cond_true]
 ·rcases bool_cases (decide (wr IntKind.i64 (1073741824 - tU v2 v0 v1 v2)≤16)) with g | g
  ·simp only [h,g,cond_true,cond_false]
  ·simp only [h,g,cond_false];rfl
theorem sumPtiltN:SumOK Tryz.prog 155 (accSum 61 tiltN):=by
 refine (sumPtilt).acc_re fun args hb v h' cs hF _=> ?_
 have hF0:=hF
 unfold tiltN at hF
 split at hF
 ·cases hF
  exact ⟨[],(tiltN_eq _ _ _ hb).trans hF0,ae_nil⟩
 ·cases hF
noncomputable def S43:FuncId→Option SumK:=more (more (more (more (more S42 39 (accSum 61 fyS)) 194 (accSum 61 expN)) 155 (accSum 61 tiltN)) 40 (accSum 61 apS)) 37 (accSum 61 bkS)
theorem sound43:Sound Tryz.prog S43:=((((sound42.more sumPfy).more sumPexpN).more sumPtiltN).more sumpap).more sumpbk
end Go.Proofs.YtnlhpaidmiogbaaGreat

/- The awake of chapter 7's law folder: its run; all summaries for its laws. -/
namespace Go.Proofs.YtnlhpaidmiogbaaGreat
open Go.Lr
set_option linter.unusedVariables false
set_option linter.unusedSimpArgs false
noncomputable def S44:FuncId→Option SumK:=S43
theorem sound44:Sound Tryz.prog S44:=sound43
end Go.Proofs.YtnlhpaidmiogbaaGreat

/- Units: plain bounds of what Unit makes. -/
namespace Go.Proofs.YtnlhpaidmiogbaaGreat
open Go.Lr
set_option linter.unusedVariables false
set_option linter.unusedSimpArgs false
theorem sqS4 (x y z w:Int):sqS (List.take 64 [x,y,z,w])=satV x*satV x+(satV y*satV y+(satV z*satV z+satV w*satV w)):=by
 show satV x*satV x+(satV y*satV y+(satV z*satV z+(satV w*satV w+0)))=_
 omega
def n4 (a b c d:Int):Int:=a*a+(b*b+(c*c+d*d))
theorem hyp4 {a b c d:Int} (ha:inS a) (hb:inS b) (hc:inS c) (hd:inS d) (h:1≤n4 a b c d):
  (1≤hypV [a,b,c,d]∧hypV [a,b,c,d]≤1152921504606846976)∧(a≤hypV [a,b,c,d]∧ -a≤hypV [a,b,c,d])∧(b≤hypV [a,b,c,d]∧ -b≤hypV [a,b,c,d])∧(c≤hypV [a,b,c,d]∧ -c≤hypV [a,b,c,d])∧(d≤hypV [a,b,c,d]∧ -d≤hypV [a,b,c,d])∧
  hypV [a,b,c,d]*hypV [a,b,c,d] - hypV [a,b,c,d]+1≤n4 a b c d∧(n4 a b c d≤1329227995784915872903807060280344576→n4 a b c d≤hypV [a,b,c,d]*hypV [a,b,c,d]+hypV [a,b,c,d]∧hypH [a,b,c,d]=false):=by
 have eH:hypH [a,b,c,d]=satH (rootW (n4 a b c d)):=by
  unfold hypH
  rw [sqS4,sat_in ha.1 ha.2,sat_in hb.1 hb.2,sat_in hc.1 hc.2,sat_in hd.1 hd.2]
  show ((satH a||(satH b||(satH c||(satH d||false))))||_)=_
  rw [satH_in ha.1 ha.2,satH_in hb.1 hb.2,satH_in hc.1 hc.2,satH_in hd.1 hd.2]
  rfl
 have eV:hypV [a,b,c,d]=satV (rootW (n4 a b c d)):=by
  unfold hypV
  rw [sqS4,sat_in ha.1 ha.2,sat_in hb.1 hb.2,sat_in hc.1 hc.2,sat_in hd.1 hd.2]
  rfl
 rw [eV,eH]
 have q0:=sqb ha.1 ha.2
 have q1:=sqb hb.1 hb.2
 have q2:=sqb hc.1 hc.2
 have q3:=sqb hd.1 hd.2
 have hN:n4 a b c d<340282366920938463463374607431768211456:=by unfold n4;omega
 have s0:=root_side (s:=a) (N:=n4 a b c d) (by unfold n4;omega) hN
 have s1:=root_side (s:=b) (N:=n4 a b c d) (by unfold n4;omega) hN
 have s2:=root_side (s:=c) (N:=n4 a b c d) (by unfold n4;omega) hN
 have s3:=root_side (s:=d) (N:=n4 a b c d) (by unfold n4;omega) hN
 obtain ⟨r0,r1,r2⟩:=rootW_spec (N:=n4 a b c d) (by omega) hN
 generalize rootW (n4 a b c d)=r at *
 generalize n4 a b c d=N at *
 unfold inS at ha hb hc hd
 have hr1:1≤r:=by
  rcases Int.lt_or_le r 1 with h' | h'
  ·have:r=0:=by omega
   subst this
   omega
  ·exact h'
 have r2':r*r - r+1≤N:=by
  rcases r2 with h' | h'
  ·omega
  ·exact h'
 by_cases hle:r≤1152921504606846976
 ·rw [sat_in (by omega) hle,satH_in (by omega) hle]
  exact ⟨by omega,by omega,by omega,by omega,by omega,by omega,fun _=>⟨by omega,rfl⟩⟩
 ·have hs:satV r=1152921504606846976:=by
   unfold satV clampV
   (repeat' split) <;> omega
  have hrr:1152921504606846977*1152921504606846976≤r*(r - 1):=Int.mul_le_mul (by omega) (by omega) (by omega) (by omega)
  have e:r*(r - 1)=r*r - r:=by grind
  rw [hs]
  exact ⟨by omega,by omega,by omega,by omega,by omega,by omega,fun h=>absurd h (by omega)⟩
theorem cs4 {a b c d m:Int} (hm:0≤m) (h:n4 a b c d≤m*m+m):absV a+absV b+absV c+absV d≤2*m:=by
 unfold n4 at h
 rw [←absSq a,←absSq b,←absSq c,←absSq d] at h
 have a0:=absV_nn a
 have b0:=absV_nn b
 have c0:=absV_nn c
 have d0:=absV_nn d
 generalize absV a=x at *
 generalize absV b=y at *
 generalize absV c=z at *
 generalize absV d=w at *
 rcases Int.lt_or_le (2*m) (x+y+z+w) with hl | hl
 ·exfalso
  have q:(2*m+1)*(2*m+1)≤(x+y+z+w)*(x+y+z+w):=Int.mul_le_mul (by omega) (by omega) (by omega) (by omega)
  have e1:(2*m+1)*(2*m+1)=4*(m*m)+4*m+1:=by grind
  have q1:=sqN (x - y)
  have q2:=sqN (x - z)
  have q3:=sqN (x - w)
  have q4:=sqN (y - z)
  have q5:=sqN (y - w)
  have q6:=sqN (z - w)
  have e2:(x+y+z+w)*(x+y+z+w)=4*(x*x+(y*y+(z*z+w*w))) - (x - y)*(x - y) - (x - z)*(x - z) - (x - w)*(x - w) - (y - z)*(y - z) - (y - w)*(y - w) - (z - w)*(z - w):=by grind
  omega
 ·exact hl
theorem sq_both {u t m:Int} (e0: -m≤2*(u*m - t*1073741824)) (e1:2*(u*m - t*1073741824)≤m):
  -(4294967296*(absV t*m))≤4*(u*u*(m*m)) - 4611686018427387904*(t*t)∧4*(u*u*(m*m)) - 4611686018427387904*(t*t)≤4294967296*(absV t*m)+m*m:=by
 have p:=prod_lt (a:=t) (b:=2*(u*m - t*1073741824)) (k:=absV t) (l:=m) (Int.le_refl _) (by unfold absV;split <;> omega)
 have q:=prod_lt (a:=2*(u*m - t*1073741824)) (b:=2*(u*m - t*1073741824)) (k:=m) (l:=m) (by unfold absV;split <;> omega) (by unfold absV;split <;> omega)
 have q0:=sqN (2*(u*m - t*1073741824))
 have g1:t*(2*(u*m - t*1073741824))=2*(t*u*m) - 2147483648*(t*t):=by grind
 have g2:2*(u*m - t*1073741824)*(2*(u*m - t*1073741824))=4*(u*u*(m*m)) - 8589934592*(t*u*m)+4611686018427387904*(t*t):=by grind
 omega
def nearU (N:Int):Prop:= -7516192768≤2*(N - 1152921504606846976)∧2*(N - 1152921504606846976)≤7516192768
theorem pass2 {a b c d m:Int} (hm:3221225472≤4*m) (hm1:m≤1152921504606846976) (ha:a≤m∧ -a≤m) (hb:b≤m∧ -b≤m) (hc:c≤m∧ -c≤m) (hd:d≤m∧ -d≤m) (hN:m*m - m+1≤n4 a b c d) (hN1:n4 a b c d≤m*m+m):
  nearU (n4 (divPV a m 30) (divPV b m 30) (divPV c m 30) (divPV d m 30)):=by
 have hn:1≤m:=by omega
 have a1:=sq_both (dpass ha.1 ha.2 hn hm1).1.1 (dpass ha.1 ha.2 hn hm1).1.2
 have b1:=sq_both (dpass hb.1 hb.2 hn hm1).1.1 (dpass hb.1 hb.2 hn hm1).1.2
 have c1:=sq_both (dpass hc.1 hc.2 hn hm1).1.1 (dpass hc.1 hc.2 hn hm1).1.2
 have d1:=sq_both (dpass hd.1 hd.2 hn hm1).1.1 (dpass hd.1 hd.2 hn hm1).1.2
 have cs:=cs4 (by omega) hN1
 generalize divPV a m 30=a' at *
 generalize divPV b m 30=b' at *
 generalize divPV c m 30=c' at *
 generalize divPV d m 30=d' at *
 have hp:0<m*m:=Int.mul_pos (by omega) (by omega)
 have hs:(absV a+absV b+absV c+absV d)*m≤2*m*m:=Int.mul_le_mul_of_nonneg_right cs (by omega)
 have es:(absV a+absV b+absV c+absV d)*m=absV a*m+absV b*m+absV c*m+absV d*m:=by grind
 have e2:2*m*m=2*(m*m):=by grind
 have h4:3221225472*m≤4*m*m:=Int.mul_le_mul_of_nonneg_right hm (by omega)
 have e4:4*m*m=4*(m*m):=by grind
 unfold nearU
 unfold n4 at *
 have e:(a'*a'+(b'*b'+(c'*c'+d'*d')))*(m*m)=a'*a'*(m*m)+(b'*b'*(m*m)+(c'*c'*(m*m)+d'*d'*(m*m))):=by grind
 generalize a'*a'+(b'*b'+(c'*c'+d'*d'))=U at *
 constructor
 ·refine Int.le_of_mul_le_mul_right (a:=m*m) ?_ hp
  have e5:2*(U - 1152921504606846976)*(m*m)=2*(U*(m*m)) - 2305843009213693952*(m*m):=by grind
  rw [e5]
  omega
 ·refine Int.le_of_mul_le_mul_right (a:=m*m) ?_ hp
  have e5:2*(U - 1152921504606846976)*(m*m)=2*(U*(m*m)) - 2305843009213693952*(m*m):=by grind
  rw [e5]
  omega
end Go.Proofs.YtnlhpaidmiogbaaGreat

/- Units: what Unit makes of any numbers is near a Unit; again it is near itself. -/
namespace Go.Proofs.YtnlhpaidmiogbaaGreat
open Go.Lr
set_option linter.unusedVariables false
set_option linter.unusedSimpArgs false
structure UnitQ (a b c d:Int):Prop where
 ha: -1073741824≤a∧a≤1073741824
 hb: -1073741824≤b∧b≤1073741824
 hc: -1073741824≤c∧c≤1073741824
 hd: -1073741824≤d∧d≤1073741824
 hn:nearU (n4 a b c d)
theorem inS_bd {a:Int} (h: -1073741824≤a∧a≤1073741824):inS a:=by unfold inS;omega
theorem len_big {m N:Int} (h0:0≤m) (h1:N≤m*m+m) (h2:3458764496640671744≤4*N):3221225472≤4*m:=by
 rcases Int.lt_or_le (4*m) 3221225472 with h | h
 ·exfalso
  have:m*m≤805306367*805306367:=Int.mul_le_mul (by omega) (by omega) (by omega) (by omega)
  omega
 ·exact h
theorem n4_le {a b c d:Int} (ha: -1073741824≤a∧a≤1073741824) (hb: -1073741824≤b∧b≤1073741824) (hc: -1073741824≤c∧c≤1073741824) (hd: -1073741824≤d∧d≤1073741824):n4 a b c d≤4611686018427387904:=by
 have sq:∀x:Int,-1073741824≤x∧x≤1073741824→x*x≤1152921504606846976:=by
  intro x hx
  exact (prod_lt (a:=x) (b:=x) (k:=1073741824) (l:=1073741824) (by unfold absV;split <;> omega) (by unfold absV;split <;> omega)).2
 have p0:=sq a ha
 have p1:=sq b hb
 have p2:=sq c hc
 have p3:=sq d hd
 unfold n4
 omega
theorem second {a b c d:Int} (ha: -1073741824≤a∧a≤1073741824) (hb: -1073741824≤b∧b≤1073741824) (hc: -1073741824≤c∧c≤1073741824) (hd: -1073741824≤d∧d≤1073741824) (h:3458764496640671744≤4*n4 a b c d):
  UnitQ (divPV a (hypV [a,b,c,d]) 30) (divPV b (hypV [a,b,c,d]) 30) (divPV c (hypV [a,b,c,d]) 30) (divPV d (hypV [a,b,c,d]) 30):=by
 obtain ⟨m0,mA,mB,mC,mD,m1,m2⟩:=hyp4 (inS_bd ha) (inS_bd hb) (inS_bd hc) (inS_bd hd) (by omega)
 have le:=n4_le ha hb hc hd
 obtain ⟨m3,-⟩:=m2 (by omega)
 have big:=len_big (by omega) m3 h
 exact ⟨(dpass mA.1 mA.2 m0.1 m0.2).2.1,(dpass mB.1 mB.2 m0.1 m0.2).2.1,(dpass mC.1 mC.2 m0.1 m0.2).2.1,(dpass mD.1 mD.2 m0.1 m0.2).2.1,pass2 big m0.2 mA mB mC mD m1 m3⟩
end Go.Proofs.YtnlhpaidmiogbaaGreat

/- Products of Units: plain bounds. -/
namespace Go.Proofs.YtnlhpaidmiogbaaGreat
open Go.Lr
set_option linter.unusedVariables false
set_option linter.unusedSimpArgs false
def q0 (a0 a1 a2 a3 b0 b1 b2 b3:Int):Int:=a0*b0 - a1*b1 - a2*b2 - a3*b3
def q1 (a0 a1 a2 a3 b0 b1 b2 b3:Int):Int:=a0*b1+a1*b0+a2*b3 - a3*b2
def q2 (a0 a1 a2 a3 b0 b1 b2 b3:Int):Int:=a0*b2 - a1*b3+a2*b0+a3*b1
def q3 (a0 a1 a2 a3 b0 b1 b2 b3:Int):Int:=a0*b3+a1*b2 - a2*b1+a3*b0
def sm (x:Int):Prop:= -8589934592≤x∧x≤8589934592
def one (x:Int):Prop:= -1073741824≤x∧x≤1073741824
theorem one.sm {x:Int} (h:one x):sm x:=by unfold one Go.Proofs.YtnlhpaidmiogbaaGreat.sm at *;omega
theorem sm.inS {x:Int} (h:sm x):Go.Proofs.YtnlhpaidmiogbaaGreat.inS x:=by unfold sm Go.Proofs.YtnlhpaidmiogbaaGreat.inS at *;omega
theorem sm.neg {x:Int} (h:sm x):sm (-x):=by unfold sm at *;omega
theorem one.neg {x:Int} (h:one x):one (-x):=by unfold one at *;omega
theorem sm.mul {x y:Int} (h:sm x) (g:sm y): -73786976294838206464≤x*y∧x*y≤73786976294838206464:=by
 unfold sm at *
 exact prod_lt (a:=x) (b:=y) (k:=8589934592) (l:=8589934592) (by unfold absV;split <;> omega) (by unfold absV;split <;> omega)
theorem one.mul {x y:Int} (h:one x) (g:one y): -1152921504606846976≤x*y∧x*y≤1152921504606846976:=by
 unfold one at *
 exact prod_lt (a:=x) (b:=y) (k:=1073741824) (l:=1073741824) (by unfold absV;split <;> omega) (by unfold absV;split <;> omega)
def mq0 (a0 a1 a2 a3 b0 b1 b2 b3:Int):Int:=dotV 30 [satV a0,satV a1,satV a2,satV a3] [satV b0,wr IntKind.i64 (0 - satV b1),wr IntKind.i64 (0 - satV b2),wr IntKind.i64 (0 - satV b3)]
def mq1 (a0 a1 a2 a3 b0 b1 b2 b3:Int):Int:=dotV 30 [satV a0,satV a1,satV a2,satV a3] [satV b1,satV b0,satV b3,wr IntKind.i64 (0 - satV b2)]
def mq2 (a0 a1 a2 a3 b0 b1 b2 b3:Int):Int:=dotV 30 [satV a0,satV a1,satV a2,satV a3] [satV b2,wr IntKind.i64 (0 - satV b3),satV b0,satV b1]
def mq3 (a0 a1 a2 a3 b0 b1 b2 b3:Int):Int:=dotV 30 [satV a0,satV a1,satV a2,satV a3] [satV b3,satV b2,wr IntKind.i64 (0 - satV b1),satV b0]
theorem sm.sat {x:Int} (h:sm x):satV x=x∧satH x=false:=⟨sat_in h.inS.1 h.inS.2,satH_in h.inS.1 h.inS.2⟩
end Go.Proofs.YtnlhpaidmiogbaaGreat

/- Near of both answers' Units: its summary; the laws of chapter 6 see Units and products by name. -/
namespace Go.Proofs.YtnlhpaidmiogbaaGreat
open Go.Lr
set_option linter.unusedVariables false
set_option linter.unusedSimpArgs false
def nk (a:Int):Int:=wr IntKind.i64 ((wr IntKind.i64 (a*a)).tdiv 4)
def nj (a:Int):Int:=(wr IntKind.i64 (a*a)).tmod 4
def nh1 (a0:Int):Int:=wr IntKind.i64 (0+nk a0)
def nh2 (a0 a1:Int):Int:=wr IntKind.i64 (nh1 a0+nk a1)
def nh3 (a0 a1 a2:Int):Int:=wr IntKind.i64 (nh2 a0 a1+nk a2)
def nh4 (a0 a1 a2 a3:Int):Int:=wr IntKind.i64 (nh3 a0 a1 a2+nk a3)
def nr4 (a0 a1 a2 a3:Int):Int:=wr IntKind.i64 (wr IntKind.i64 (wr IntKind.i64 (wr IntKind.i64 (0+nj a0)+nj a1)+nj a2)+nj a3)
def nd (a0 a1 a2 a3:Int):Int:=wr IntKind.i64 (wr IntKind.i64 (4*wr IntKind.i64 (nh4 a0 a1 a2 a3 - 288230376151711744))+nr4 a0 a1 a2 a3)
def unitN:List LV→Bool→Option (LV×Bool×List (Bool×Bool))
 | [.v (.agg [.int .i64 a0,.int .i64 a1,.int .i64 a2,.int .i64 a3])],hb=>some (.v (.agg [.int .i64 (uV0 a0 a1 a2 a3),.int .i64 (uV1 a0 a1 a2 a3),.int .i64 (uV2 a0 a1 a2 a3),.int .i64 (uV3 a0 a1 a2 a3)]),uFl hb a0 a1 a2 a3,[])
 | _,_=>none
theorem sumUnitN:SumOK Tryz.prog 85 (accSum 61 unitN):=by
 refine sumpu.acc_re fun args hb v h' cs hF _=> ?_
 unfold unitN at hF
 split at hF
 ·cases hF;exact ⟨[],rfl,ae_nil⟩
 ·cases hF
def mulN:List LV→Bool→Option (LV×Bool×List (Bool×Bool))
 | [.v (.agg [.int .i64 a0,.int .i64 a1,.int .i64 a2,.int .i64 a3]),.v (.agg [.int .i64 b0,.int .i64 b1,.int .i64 b2,.int .i64 b3])],hb=>some (.v (.agg [.int .i64 (mq0 a0 a1 a2 a3 b0 b1 b2 b3),.int .i64 (mq1 a0 a1 a2 a3 b0 b1 b2 b3),.int .i64 (mq2 a0 a1 a2 a3 b0 b1 b2 b3),.int .i64 (mq3 a0 a1 a2 a3 b0 b1 b2 b3)]),mulQH hb a0 a1 a2 a3 b0 b1 b2 b3,[])
 | _,_=>none
theorem sumMulN:SumOK Tryz.prog 150 (accSum 61 mulN):=by
 refine sumpm.acc_re fun args hb v h' cs hF _=> ?_
 unfold mulN at hF
 split at hF
 ·cases hF;exact ⟨[],rfl,ae_nil⟩
 ·cases hF
end Go.Proofs.YtnlhpaidmiogbaaGreat

/- All summaries for the laws of chapter 7 about Units. -/
namespace Go.Proofs.YtnlhpaidmiogbaaGreat
open Go.Lr
noncomputable def S46:FuncId→Option SumK:=more (more S44 85 (accSum 61 unitN)) 150 (accSum 61 mulN)
theorem sound46:Sound Tryz.prog S46:=(sound44.more sumUnitN).more sumMulN
end Go.Proofs.YtnlhpaidmiogbaaGreat

/- The matrices of Units: their entries. -/
namespace Go.Proofs.YtnlhpaidmiogbaaGreat
open Go.Lr
set_option linter.unusedVariables false
set_option linter.unusedSimpArgs false
def rm0 (s0 s1 s2 s3:Int):Int:=s1V 1 1 (-1) (-1) s0 s1 s2 s3
def rm1 (s0 s1 s2 s3:Int):Int:=t1V s1 s2 (wr IntKind.i64 (0 - s0)) s3
def rm2 (s0 s1 s2 s3:Int):Int:=t1V s1 s3 s0 s2
def rm3 (s0 s1 s2 s3:Int):Int:=t1V s1 s2 s0 s3
def rm4 (s0 s1 s2 s3:Int):Int:=s1V 1 (-1) 1 (-1) s0 s1 s2 s3
def rm5 (s0 s1 s2 s3:Int):Int:=t1V s2 s3 (wr IntKind.i64 (0 - s0)) s1
def rm6 (s0 s1 s2 s3:Int):Int:=t1V s1 s3 (wr IntKind.i64 (0 - s0)) s2
def rm7 (s0 s1 s2 s3:Int):Int:=t1V s2 s3 s0 s1
def rm8 (s0 s1 s2 s3:Int):Int:=s1V 1 (-1) (-1) 1 s0 s1 s2 s3
def rmF (h:Bool) (s0 s1 s2 s3:Int):Bool:=h||s1H 1 1 (-1) (-1) s0 s1 s2 s3||t1H s1 s2 (wr IntKind.i64 (0 - s0)) s3||t1H s1 s3 s0 s2||t1H s1 s2 s0 s3||s1H 1 (-1) 1 (-1) s0 s1 s2 s3||t1H s2 s3 (wr IntKind.i64 (0 - s0)) s1||t1H s1 s3 (wr IntKind.i64 (0 - s0)) s2||t1H s2 s3 s0 s1||s1H 1 (-1) (-1) 1 s0 s1 s2 s3
end Go.Proofs.YtnlhpaidmiogbaaGreat

/- All summaries for the laws about levels: headings of the second answer by name. -/
namespace Go.Proofs.YtnlhpaidmiogbaaGreat
open Go.Lr
set_option linter.unusedVariables false
def fyA (a:Int):Int:=mulV (wrapV a) 536870912 30
def fy0 (a:Int):Int:=uV0 (cosV (fyA a)) 0 0 (sinV (fyA a))
def fy1 (a:Int):Int:=uV1 (cosV (fyA a)) 0 0 (sinV (fyA a))
def fy2 (a:Int):Int:=uV2 (cosV (fyA a)) 0 0 (sinV (fyA a))
def fy3 (a:Int):Int:=uV3 (cosV (fyA a)) 0 0 (sinV (fyA a))
def fyFl (hb:Bool) (a:Int):Bool:=uFl (sinH (fyA a) (cosH (fyA a) (hb||mulH (wrapV a) 536870912 30))) (cosV (fyA a)) 0 0 (sinV (fyA a))
def fyN:List LV→Bool→Option (LV×Bool×List (Bool×Bool))
 | [.v (.one (.int .i64 a))],hb=>some (.v (.agg [.int .i64 (fy0 a),.int .i64 (fy1 a),.int .i64 (fy2 a),.int .i64 (fy3 a)]),fyFl hb a,[])
 | _,_=>none
theorem sumPfyN:SumOK Tryz.prog 39 (accSum 61 fyN):=by
 refine sumPfy.acc_re fun args hb v h' cs hF _=> ?_
 unfold fyN at hF
 split at hF
 ·cases hF;exact ⟨[],rfl,ae_nil⟩
 ·cases hF
def ofN:List LV→Bool→Option (LV×Bool×List (Bool×Bool))
 | [.v (.agg [.int .i64 a0,.int .i64 a1,.int .i64 a2,.int .i64 a3])],hb=>some (.v (.agg [.int .i64 (rm0 (satV a0) (satV a1) (satV a2) (satV a3)),.int .i64 (rm1 (satV a0) (satV a1) (satV a2) (satV a3)),.int .i64 (rm2 (satV a0) (satV a1) (satV a2) (satV a3)),.int .i64 (rm3 (satV a0) (satV a1) (satV a2) (satV a3)),.int .i64 (rm4 (satV a0) (satV a1) (satV a2) (satV a3)),.int .i64 (rm5 (satV a0) (satV a1) (satV a2) (satV a3)),.int .i64 (rm6 (satV a0) (satV a1) (satV a2) (satV a3)),.int .i64 (rm7 (satV a0) (satV a1) (satV a2) (satV a3)),.int .i64 (rm8 (satV a0) (satV a1) (satV a2) (satV a3))]),rmF (hb||satH a0||satH a1||satH a2||satH a3) (satV a0) (satV a1) (satV a2) (satV a3),[])
 | _,_=>none
theorem sumOfN:SumOK Tryz.prog 38 (accSum 61 ofN):=by
 refine sumrof.acc_re fun args hb v h' cs hF _=> ?_
 unfold ofN at hF
 split at hF
 ·cases hF;exact ⟨[],rfl,ae_nil⟩
 ·cases hF
noncomputable def S47:FuncId→Option SumK:=more (more S46 38 (accSum 61 ofN)) 39 (accSum 61 fyN)
theorem sound47:Sound Tryz.prog S47:=(sound46.more sumOfN).more sumPfyN
end Go.Proofs.YtnlhpaidmiogbaaGreat

/- The local evaluator: summaries of methods on a flag, made by running them; the flag may lie anywhere. -/
set_option linter.unusedVariables false
namespace Go.Lr
open Go.RowKit
def autoF (P:Program) (S:FuncId→Option SumK) (z:Md) (n:Nat) (f:FuncId) (ty:TypeId):List LV→Bool→Option (LV×Bool×List (Bool×Bool)):=fun rest h=>
 match runF P S z n f (.v (.one (.ptr 0 0))::rest) [(0,flag ty h)] 1 [] with
 | some (v,m',_,cs)=>match getM m' 0,v.ok noP with
  | some ⟨t,(0,0),0,[.bool h']⟩,true=>match Nat.beq t ty with
   | true=>some (v,h',cs)
   | false=>none
  | _,_=>none
 | none=>none
section
variable {P:Program} {S:FuncId→Option SumK} {z:Md}
theorem autoF_ok (hs:Sound P S) {n:Nat} {f:FuncId} {ty:TypeId} (ho:Own P f):SumOK P f (accSum ty (autoF P S z n f ty)):=by
 refine accSum_ok fun args hb v h' cs hF hc hp w L hL=> ?_
 unfold autoF at hF
 split at hF
 ·rename_i v' m' nb' cs' hrun
  split at hF
  ·rename_i t hh hm hv
   split at hF
   ·rename_i ht
    cases hF
    rw [nbeq] at ht
    have ht':t=ty:=of_decide_eq_true ht
    subst ht'
    exact callOK_of ho (acc_of_run hs hrun hm hc hp hv w L hL)
   ·cases hF
  ·cases hF
 ·cases hF
end
end Go.Lr

/- A summary less: the function is walked into again. -/
namespace Go.Lr
def dropS (S:FuncId→Option SumK) (f:FuncId):FuncId→Option SumK:=fun g=>
 match Nat.beq g f with
 | true=>none
 | false=>S g
theorem Sound.drop {P:Program} {S:FuncId→Option SumK} (h:Sound P S) (f:FuncId):Sound P (dropS S f):=by
 refine ⟨fun g t hg=> ?_,h.mix,h.ng⟩
 unfold dropS at hg
 split at hg
 ·cases hg
 ·exact h.sums g t hg
def nn:Nat→List (Option Bool)→List (Option Bool)
 | 0,l=>l
 | n+1,l=>none::nn n l
def tt:Nat→List (Option Bool)→List (Option Bool)
 | 0,l=>l
 | n+1,l=>some true::tt n l
def ff:Nat→List (Option Bool)→List (Option Bool)
 | 0,l=>l
 | n+1,l=>some false::ff n l
def ra:Nat→Bool×Bool→List (Bool×Bool)→List (Bool×Bool)
 | 0,_,l=>l
 | n+1,c,l=>c::ra n c l
theorem ra_ok {c:Bool×Bool} {l:List (Bool×Bool)} (h:c.1=c.2) (hl:∀d∈l,d.1=d.2):∀(n:Nat),∀d∈ra n c l,d.1=d.2
 | 0=>hl
 | n+1=>by
  intro d hd
  simp only [ra,List.mem_cons] at hd
  rcases hd with rfl | hd
  ·exact h
  ·exact ra_ok h hl n d hd
end Go.Lr

/- Loops over blocks of numbers whose values do not matter: what stays is that they are numbers. -/
set_option linter.unusedVariables false
namespace Go.Lr
open Go.RowKit
structure AllI (l:List At) (n:Nat):Prop where
 len:l.length=n
 ats:∀o,o<n→isIntAt .i64 l o=true
theorem isIntAt_iff {l:List At} {o:Nat}:isIntAt .i64 l o=true↔∃x,l[o]? = some (.int .i64 x):=by
 unfold isIntAt
 rw [atL_eq]
 constructor
 ·intro h
  split at h
  ·rename_i k' n hn
   have:=kindEq_spec h
   subst this
   exact ⟨n,hn⟩
  ·cases h
 ·rintro ⟨x,h⟩
  rw [h];rfl
theorem AllI.set {l:List At} {n:Nat} (h:AllI l n) (o:Nat) (x:Int):AllI (l.set o (.int .i64 x)) n:=by
 refine ⟨by rw [List.length_set];exact h.len,fun q hq=> ?_⟩
 rw [isIntAt_iff,List.getElem?_set]
 by_cases e:o=q
 ·subst e
  rw [if_pos rfl,if_pos (by rw [h.len];exact hq)]
  exact ⟨x,rfl⟩
 ·rw [if_neg e]
  exact isIntAt_iff.1 (h.ats q hq)
theorem AllI.isI {l:List At} {n:Nat} (h:AllI l n):isIntL l=true:=by
 refine List.all_eq_true.2 fun a ha=> ?_
 obtain ⟨o,ho,rfl⟩:=List.getElem_of_mem ha
 obtain ⟨x,hx⟩:=isIntAt_iff.1 (h.ats o (by rw [←h.len];exact ho))
 rw [List.getElem?_eq_getElem ho] at hx
 rw [Option.some.inj hx];rfl
theorem isIntL_ok {l:List At} (h:isIntL l=true):okL noP l=true:=by
 refine okL_iff.2 fun a ha=> ?_
 have:=List.all_eq_true.1 h a ha
 unfold isI64 at this
 split at this
 ·rfl
 ·cases this
theorem AllI.ok {l:List At} {n:Nat} (h:AllI l n):okL noP l=true:=isIntL_ok h.isI
theorem AllI.okb {l:List At} {n:Nat} (h:AllI l n) (nb:Nat):okL (below nb) l=true:=okL_mono noP_below h.ok
theorem isIntL_sub {l m:List At} (h:isIntL l=true) (hm:∀a∈m,a∈l):isIntL m=true:=List.all_eq_true.2 fun a ha=>List.all_eq_true.1 h a (hm a ha)
theorem AllI.part {l:List At} {n:Nat} (h:AllI l n) (o m:Nat):isIntL ((l.drop o).take m)=true:=
 isIntL_sub h.isI fun a ha=>List.mem_of_mem_drop (List.mem_of_mem_take ha)
theorem AllI.areI {l:List At} {n:Nat} (h:AllI l n):∀(m o:Nat),o+m≤n→areInts l o m=true
 | 0,_,_=>rfl
 | m+1,o,hle=>by
  simp only [areInts,Bool.and_eq_true]
  exact ⟨h.ats o (by omega),h.areI m (o+1) (by omega)⟩
theorem intsAt_len (l:List At):∀(n o:Nat),(intsAt l o n).length=n
 | 0,_=>rfl
 | n+1,o=>by simp [intsAt,intsAt_len l n]
theorem intsAt_all (l:List At):∀(n o:Nat),isIntL (intsAt l o n)=true
 | 0,_=>rfl
 | n+1,o=>by show (true&&isIntL (intsAt l (o+1) n))=true;rw [intsAt_all l n];rfl
theorem AllI.of {l:List At} {n:Nat} (h1:isIntL l=true) (h2:l.length=n):AllI l n:=by
 refine ⟨h2,fun o ho=> ?_⟩
 have hlt:o<l.length:=by omega
 rw [isIntAt_iff,List.getElem?_eq_getElem hlt]
 have:=List.all_eq_true.1 h1 l[o] (List.getElem_mem hlt)
 generalize l[o]=a at this
 unfold isI64 at this
 split at this
 ·exact ⟨_,rfl⟩
 ·cases this
theorem AllI.ints (l:List At) (o n:Nat):AllI (intsAt l o n) n:= .of (intsAt_all l n o) (intsAt_len l n o)
theorem AllI.eq {l:List At} {n:Nat} (h:AllI l n):l=intsAt l 0 n:=by
 have key:∀(m o:Nat),o+m=n→l.drop o=intsAt l o m:=by
  intro m
  induction m with
  | zero=>intro o ho;simp only [intsAt];rw [List.drop_of_length_le (by rw [h.len];omega)]
  | succ m ih=>
   intro o ho
   simp only [intsAt]
   obtain ⟨x,hx⟩:=isIntAt_iff.1 (h.ats o (by omega))
   have hlt:o<l.length:=by rw [h.len];omega
   rw [List.drop_eq_getElem_cons hlt,ih (o+1) (by omega)]
   congr 1
   rw [List.getElem?_eq_getElem hlt] at hx
   rw [Option.some.inj hx]
   unfold intAt
   rw [atL_eq,List.getElem?_eq_getElem hlt,Option.some.inj hx]
 have:=key n 0 (by omega)
 rwa [List.drop_zero] at this
def allIB:List At→Nat→Bool
 | [],0=>true
 | .int .i64 _::l,n+1=>allIB l n
 | _,_=>false
theorem allIB_ok:∀{l:List At} {n:Nat},allIB l n=true→AllI l n
 | [],0,_=>⟨rfl,fun o ho=>by omega⟩
 | [],n+1,h=>by simp [allIB] at h
 | a::l,n,h=>by
  unfold allIB at h
  split at h
  ·rename_i e;cases e
  ·rename_i x l' n' e
   cases e
   have:=allIB_ok h
   exact .of (by show (true&&isIntL l)=true;rw [this.isI];rfl) (by simp [this.len])
  ·cases h
def mkI (f:Nat→Int):Nat→Nat→List At
 | _,0=>[]
 | o,n+1=> .int .i64 (f o)::mkI f (o+1) n
theorem mkI_ints (l:List At):∀(n o:Nat),mkI (intAt l) o n=intsAt l o n
 | 0,_=>rfl
 | n+1,o=>by simp only [mkI,intsAt,mkI_ints l n]
theorem AllI.mkF (f:Nat→Int):∀(n o:Nat),AllI (mkI f o n) n
 | 0,o=>⟨rfl,fun q hq=>by omega⟩
 | n+1,o=> .of (by show (true&&isIntL (mkI f (o+1) n))=true;rw [(AllI.mkF f n (o+1)).isI];rfl) (by simp [mkI,(AllI.mkF f n (o+1)).len])
section
variable {P:Program} {sz:Nat}
theorem KR.same {E:Env} {A B:Kst} {a:Act} {w:World} (h:KR E sz A a w) (hB:KstOK B) (hl:∀q∈B.live,∃v,(q.1,v)∈A.live∧∀E:Env,v.den E=q.2.den E) (hm:B.mem=A.mem):KR E sz B a w:=by
 refine ⟨hB,h.size,h.le,h.defers,fun q hq=> ?_,by rw [hm];exact h.rel⟩
 obtain ⟨v,hv,he⟩:=hl q hq
 rw [h.tm _ hv,he E]
theorem To.pre {c:Code} {A B C:Kst} {e:Ex} (h:To P sz c B e C) (hB:KstOK B) (hl:∀q∈B.live,∃v,(q.1,v)∈A.live∧∀E:Env,v.den E=q.2.den E) (hm:B.mem=A.mem) (hn:B.nb=A.nb):To P sz c A e C:=by
 intro E a w hr Q hQ
 have e1:A.ms=B.ms:=by unfold Kst.ms;rw [hm,hn]
 exact h E a w (hr.same hB hl hm) Q fun E' a' w' hr' hx'=>hQ E' a' w' hr' (by rw [e1];exact hx')
theorem To.post {c:Code} {A B C:Kst} {e:Ex} (h:To P sz c A e B) (hC:KstOK C) (hl:∀q∈C.live,∃v,(q.1,v)∈B.live∧∀E:Env,v.den E=q.2.den E) (hm:C.mem=B.mem) (hn:C.nb=B.nb):To P sz c A e C:=by
 intro E a w hr Q hQ
 have e1:C.ms=B.ms:=by unfold Kst.ms;rw [hm,hn]
 exact h E a w hr Q fun E' a' w' hr' hx'=>hQ E' a' w' (hr'.same hC hl hm) (by rw [e1];exact hx')
theorem loop_up {σ:Type} {c:Code} {id:Nat} {A:Nat→σ→Kst} {B:σ→Kst} {ok:σ→Prop} {N:Nat} (hc:isLoop (c1 c)=true) (hb:blkId c=some id)
  (round:∀k s,k<N→ok s→∃s',ok s'∧To P sz (c1 (c1 c)) (A k s) .normal (A (k+1) s')) (last:∀s,ok s→To P sz (c1 (c1 c)) (A N s) (.exit id) (B s)):
  ∀s,ok s→∃s',ok s'∧To P sz c (A 0 s) .normal (B s'):=by
 have key:∀m k,k+m=N→∀s,ok s→∃s',ok s'∧Rd P sz (c1 (c1 c)) (m+1) (A k s) (.exit id) (B s'):=by
  intro m
  induction m with
  | zero=>
   intro k hk s hs
   have:k=N:=by omega
   subst this
   exact ⟨s,hs,Rd.last (by simp) (last s hs)⟩
  | succ m ih=>
   intro k hk s hs
   obtain ⟨s1,h1,h2⟩:=round k s (by omega) hs
   obtain ⟨s2,h3,h4⟩:=ih (k+1) (by omega) s1 h1
   exact ⟨s2,h3,Rd.next h2 h4⟩
 intro s hs
 obtain ⟨s',h1,h2⟩:=key N 0 (by omega) s hs
 exact ⟨s',h1,To.block hb (To.loop hc h2) (.inl rfl)⟩
end
theorem memOK0 {nb:Nat}:memOKb nb []=true:=rfl
theorem memOKc {nb i:Nat} {b:Blk} {m:Mem} (h1:i<nb) (h2:okL (below nb) b.cells=true) (h3:getM m i=none) (h:memOKb nb m=true):memOKb nb ((i,b)::m)=true:=by
 unfold memOKb
 have:Nat.blt i nb=true:=by rw [nblt];simpa using h1
 simp only [this,h2,h3]
 exact h
theorem kstOK_of {live:List (Nat×LV)} {m:Mem} {nb:Nat} (h1:liveOKb nb live=true) (h2:memOKb nb m=true):KstOK ⟨live,m,nb⟩:=canB_ok (by unfold canB;simp only [h1,h2])
end Go.Lr
namespace Go.Lr
open Go.RowKit
section
variable {P:Program} {S:FuncId→Option SumK} {z:Md}
def ExA (P:Program) (f:FuncId) (ty:TypeId) (args:List LV) (hb:Bool) (v:LV) (h':Bool):Prop:=
 ∀(w:World) (L:Loc),w.heap[L.blk]? = some (flagW L ty hb)→Calls P f (L.ptr::args.map (LV.den E0)).toArray w fun e w'=>e = .returned (v.den E0)∧Turned L.blk (flagW L ty h') w w'
theorem acc_of_To {f:FuncId} {fn:Func} {c:Code} {args:List LV} {B:Kst} {e:Ex} {v:LV} {ty:TypeId} {h h':Bool} (hf:P.funcs[f]? = some fn) (hb:fn.body=some c)
  (hle:fn.ntmps≤60000) (hargs:(A0::args).length≤fn.ntmps) (ha:plainVs args=true)
  (hT:To P fn.ntmps c ⟨argsL 0 (A0::args),[(0,flag ty h)],1⟩ e B) (he:e = .normal∨e = .ret)
  (hres:∀dead,resultsD P fn.results.toList (getT (B.tm dead)) B.mem=some v) (hv:v.ok noP=true) (hm:getM B.mem 0=some (flag ty h')):ExA P f ty args h v h':=by
 intro w L hL
 have ha':=plainVs_iff.1 ha
 have hget:∀i c,getM [(0,flag ty h)] i=some c→i=0∧c=flag ty h:=by
  intro i c hc
  rw [getM_cons] at hc
  by_cases hi:i=0
  ·rw [if_pos hi] at hc;cases hc;exact ⟨hi,rfl⟩
  ·rw [if_neg hi] at hc;simp [getM] at hc
 have hrel:Rel (fun _=>L) (getM [(0,flag ty h)]) w:=by
  refine ⟨fun i c hc=> ?_,fun i j hi hj _=> ?_⟩
  ·obtain ⟨rfl,rfl⟩:=hget i c hc
   exact ⟨[],hL,fun _=>rfl,fun hne=>absurd rfl hne⟩
  ·obtain ⟨c,hc⟩:=Option.isSome_iff_exists.1 hi
   obtain ⟨d,hd⟩:=Option.isSome_iff_exists.1 hj
   rw [(hget i c hc).1,(hget j d hd).1]
 have hargs':(A0::args).map (LV.den fun _=>L)=L.ptr::args.map (LV.den E0):=by
  rw [List.map_cons,denL_noP ha']
  simp [A0,LV.den,V1.den,At.den]
 have:=calls_of_To (m:=[(0,flag ty h)]) (nb:=1) hf hb hle hargs (fun u hu=>by
  rcases List.mem_cons.1 hu with rfl | hu
  ·rfl
  ·exact LV.ok_mono noP_below (ha' u hu)) (fun i c hc=>by
  obtain ⟨rfl,rfl⟩:=hget i c hc
  exact ⟨Nat.zero_lt_one,rfl⟩) ⟨rfl,trivial⟩ hT he hres (fun _=>L) w hrel
 rw [hargs'] at this
 refine this.mono fun e w' he=> ?_
 obtain ⟨E',rfl,hmr',hx⟩:=he
 refine ⟨by rw [den_noP hv],hx.os,hx.tape,hx.output,hx.size, ?_,fun k hk hne=>hx.frame k hk fun i hi he=> ?_⟩
 ·obtain ⟨r,g1,g2,_⟩:=hmr'.rel.blk 0 (flag ty h') hm
  rw [hx.agree 0 (by show 0<1;omega)] at g1
  rw [g1,g2 rfl]
  rfl
 ·exact hne he.symm
noncomputable def exQ (P:Program) (f:FuncId) (ty:TypeId) (n:Nat) (args:List LV) (hb:Bool):List At×Bool:=
 @Classical.epsilon (List At×Bool) ⟨([],false)⟩ fun q=>AllI q.1 n∧ExA P f ty args hb (.v (.agg q.1)) q.2
noncomputable def exN (P:Program) (f:FuncId) (ty:TypeId) (n:Nat) (args:List LV) (hb:Bool) (i:Nat):Int:=intAt (exQ P f ty n args hb).1 i
noncomputable def exH (P:Program) (f:FuncId) (ty:TypeId) (n:Nat) (args:List LV) (hb:Bool):Bool:=(exQ P f ty n args hb).2
noncomputable def exF (P:Program) (f:FuncId) (ty:TypeId) (okA:List LV→Bool) (n:Nat):List LV→Bool→Option (LV×Bool×List (Bool×Bool)):=fun args hb=>
 match okA args with
 | true=>some (.v (.agg (mkI (exN P f ty n args hb) 0 n)),exH P f ty n args hb,[])
 | false=>none
theorem exF_ok {f:FuncId} {ty:TypeId} {okA:List LV→Bool} {n:Nat} (ho:Own P f)
  (h:∀args hb,okA args=true→plainVs args=true→∃l h',AllI l n∧ExA P f ty args hb (.v (.agg l)) h'):SumOK P f (accSum ty (exF P f ty okA n)):=by
 refine accSum_ok fun args hb v h' cs hF hc hp w L hL=> ?_
 unfold exF at hF
 split at hF
 ·rename_i hok
  cases hF
  obtain ⟨l,h',h1,h2⟩:=h args hb hok hp
  have hq:=@Classical.epsilon_spec_aux (List At×Bool) ⟨([],false)⟩ (fun q=>AllI q.1 n∧ExA P f ty args hb (.v (.agg q.1)) q.2) ⟨(l,h'),h1,h2⟩
  have e1:mkI (exN P f ty n args hb) 0 n=(exQ P f ty n args hb).1:=by
   have:exN P f ty n args hb=intAt (exQ P f ty n args hb).1:=rfl
   rw [this,mkI_ints]
   exact hq.1.eq.symm
  rw [e1]
  exact callOK_of ho (hq.2 w L hL)
 ·cases hF
theorem pure_of_To {f:FuncId} {fn:Func} {c:Code} {args:List LV} {B:Kst} {e:Ex} {v:LV} (ho:Own P f) (hf:P.funcs[f]? = some fn) (hb:fn.body=some c)
  (hle:fn.ntmps≤60000) (hargs:args.length≤fn.ntmps) (ha:plainVs args=true) (h:To P fn.ntmps c ⟨argsL 0 args,[],0⟩ e B) (he:e = .normal∨e = .ret)
  (hres:∀dead,resultsD P fn.results.toList (getT (B.tm dead)) B.mem=some v) (hv:v.ok noP=true) (w:World):CallOK P f (args.map (LV.den E0)).toArray w fun u w'=>u=v.den E0∧Below w.heap.size w w':=
 callOK_of ho (calls_pure hf hb hle hargs ha h he hres hv w)
end
end Go.Lr
namespace Go.Lr
open Go.RowKit
section
variable {P:Program} {sz:Nat}
theorem loop_upE {σ:Type} {c:Code} {id:Nat} {A:Nat→σ→Kst} {B:σ→Kst} {ok:σ→Prop} {N:Nat} (hc:isLoop (c1 c)=true) (hb:blkId c=some id)
  (round:∀k s,k<N→ok s→∃s',ok s'∧To P sz (c1 (c1 c)) (A k s) .normal (A (k+1) s')) (last:∀s,ok s→∃s',ok s'∧To P sz (c1 (c1 c)) (A N s) (.exit id) (B s')):
  ∀s,ok s→∃s',ok s'∧To P sz c (A 0 s) .normal (B s'):=by
 have key:∀m k,k+m=N→∀s,ok s→∃s',ok s'∧Rd P sz (c1 (c1 c)) (m+1) (A k s) (.exit id) (B s'):=by
  intro m
  induction m with
  | zero=>
   intro k hk s hs
   have:k=N:=by omega
   subst this
   obtain ⟨s',h1,h2⟩:=last s hs
   exact ⟨s',h1,Rd.last (by simp) h2⟩
  | succ m ih=>
   intro k hk s hs
   obtain ⟨s1,h1,h2⟩:=round k s (by omega) hs
   obtain ⟨s2,h3,h4⟩:=ih (k+1) (by omega) s1 h1
   exact ⟨s2,h3,Rd.next h2 h4⟩
 intro s hs
 obtain ⟨s',h1,h2⟩:=key N 0 (by omega) s hs
 exact ⟨s',h1,To.block hb (To.loop hc h2) (.inl rfl)⟩
theorem To.lower {c:Code} {A:Kst} {e:Ex} {live:List (Nat×LV)} {mem:Mem} {n n':Nat} (h:To P sz c A e ⟨live,mem,n⟩) (hn:A.nb≤n') (hB:KstOK ⟨live,mem,n'⟩):To P sz c A e ⟨live,mem,n'⟩:=by
 intro E a w hr Q hQ
 refine h E a w hr Q fun E' a' w' hr' hx'=>hQ E' a' w' ⟨hB,hr'.size,hr'.le,hr'.defers,hr'.tm,hr'.rel⟩ ?_
 exact ⟨hn,hx'.agree,hx'.os,hx'.tape,hx'.output,hx'.size,hx'.frame,hx'.src⟩
end
end Go.Lr
namespace Go.Lr
def allEqB:List (Bool×Bool)→Bool
 | []=>true
 | (true,true)::l=>allEqB l
 | (false,false)::l=>allEqB l
 | (true,false)::_=>false
 | (false,true)::_=>false
theorem allEqB_ok:∀{l:List (Bool×Bool)},allEqB l=true→∀c∈l,c.1=c.2
 | [],_,c,hc=>by cases hc
 | (true,true)::l,h,c,hc=>by
  rcases List.mem_cons.1 hc with rfl | hc
  ·rfl
  ·exact allEqB_ok (l:=l) h c hc
 | (false,false)::l,h,c,hc=>by
  rcases List.mem_cons.1 hc with rfl | hc
  ·rfl
  ·exact allEqB_ok (l:=l) h c hc
 | (true,false)::_,h,_,_=>by cases h
 | (false,true)::_,h,_,_=>by cases h
def ansB (r:Option (LV×Mem×Nat×List (Bool×Bool))):Option (LV×Bool):=
 match r with
 | some (v,_,_,cs)=>some (v,allEqB cs)
 | none=>none
theorem ansB_ok {r:Option (LV×Mem×Nat×List (Bool×Bool))} {v:LV} (h:ansB r=some (v,true)):∃cs,r.map (fun r=>(r.1,r.2.2.2))=some (v,cs)∧∀c∈cs,c.1=c.2:=by
 unfold ansB at h
 split at h
 ·rename_i v' m nb cs
  simp only [Option.some.injEq,Prod.mk.injEq] at h
  obtain ⟨rfl,h⟩:=h
  exact ⟨cs,rfl,allEqB_ok h⟩
 ·cases h
end Go.Lr

/- Words for tri and thornton. -/
namespace Go.Proofs.YtnlhpaidmiogbaaGreat
open Go.Lr
def PX (b:Nat):LV:= .v (.one (.ptx b 0))
def PP (b:Nat):LV:= .v (.one (.ptr b 0))
def IK (k:Nat):LV:= .v (.one (.int .i64 (k:Int)))
noncomputable def zc (t:TypeId):List At:=(zeroT Tryz.prog t).getD []
theorem zc24I:AllI (zc 47) 24:=allIB_ok (by kernel_rfl)
theorem zc48I:AllI (zc 308) 48:=allIB_ok (by kernel_rfl)
theorem zcWI:AllI (zc 351) 1152:=allIB_ok (by kernel_rfl)
end Go.Proofs.YtnlhpaidmiogbaaGreat
