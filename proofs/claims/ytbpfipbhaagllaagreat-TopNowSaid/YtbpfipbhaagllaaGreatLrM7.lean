/- Joined texts. What each part proves stands ahead of it; no condition. -/
import Derived.Test.YtbpfipbhaagllaaGreatLrM6
import Derived.Test.YtbpfipbhaagllaaGreatLrM3
set_option linter.unusedVariables false
set_option linter.unusedSimpArgs false
/- TopNow: Imu behind the tilt: the call of Push. -/
namespace Go.Proofs.YtbpfipbhaagllaaGreat
open Go.Lr
set_option maxRecDepth 100000
def yW (x:Kst) (b:Nat):List At:=match getM x.mem b with
 | some k=>k.cells
 | none=>[]
def fOf (x:Kst) (i:Nat):Int:=match Nat.blt i 500 with
 | true=>intAt (yW x 11) i
 | false=>match Nat.blt i 510 with
  | true=>intAt (yW x 19) (i - 500)
  | false=>match Nat.blt i 512 with
   | true=>intAt (yW x 20) (i - 510)
   | false=>match Nat.blt i 600 with
    | true=>intAt (yW x 20) (3+6*((i - 512)/5)+(i - 512)%5)
    | false=>match Nat.blt i 700 with
     | true=>intAt (yW x 21) (i - 600)
     | false=>intAt (yW x (i - 700)) 7
def gOf (x:Kst) (i:Nat):Bool:=match Nat.blt i 500 with
 | true=>Qk (yW x 11) i
 | false=>match Nat.blt i 510 with
  | true=>Qk (yW x 19) 9
  | false=>Qk (yW x 20) (2+6*(i - 510))
def imP (dl k t:Int) (n m:Nat) (cs:List At):PS2:=⟨[nzp 0 11 0,nzi 4 0,nzi 5 0,nzp 6 35 0,nzp 38 21 0,nzp 41 11 72,(45,.agg (rq 24 (qH))),(46,.agg ((nzA (8000*(k+1)))))],[nzX (mF0 dl qO (nzv 29 n) (qS (8000*(t - 1)))),kr,nzD (k+1),kt,nzP (nzv 30 m)]++(ku++[nzQ 29 t n,nzO 30 cs,nzB 35 (8000*(k+1))]),36⟩
def ZI (s:Asg) (dl k t:Int) (n m:Nat) (cs:List At):Kst:=je s (imP dl k t n m cs)
def jso (s:Asg):Asg:=⟨s.F,s.G,fun a i=>if a=2 then s.fs 45 i else s.fs a i,s.gs⟩
def jcF (s:Asg) (dl k t:Int) (n m:Nat) (cs:List At):Kst:=je (jso s) (jq1 (fOf (ZI s dl k t n m cs)) (gOf (ZI s dl k t n m cs)) n m cs (8000*(k+1)))
def jk8 (t k:Int) (n:Nat):Mem:=[(29,⟨58,(0,0),8,jO t n⟩),(35,⟨58,(0,0),0,(nzI (8000*(k+1)))⟩)]
theorem jsp {dl k t:Int} {n m:Nat} {cs:List At} (s:Asg):(ZI s dl k t n m cs).mem=(jcF s dl k t n m cs).mem.take 11++([(29,⟨58,(0,0),8,jO t n⟩)]++((jcF s dl k t n m cs).mem.drop 11++[(35,⟨58,(0,0),0,(nzI (8000*(k+1)))⟩)])):=by kernel_rfl
theorem jbd {t k:Int} {n:Nat} {i:Nat} (h:(getM (jk8 t k n) i).isSome):i=29∨i=35:=by
 unfold jk8 at h
 rw [jm,jm] at h
 split at h
 ·exact .inl (by assumption)
 ·split at h
  ·exact .inr (by assumption)
  ·cases h
theorem jk9 {dl k t:Int} {n m:Nat} {cs:List At} (s:Asg) (i:Nat):getM ((jcF s dl k t n m cs).mem++jk8 t k n) i=getM (ZI s dl k t n m cs).mem i:=by
 have e:(jcF s dl k t n m cs).mem=(jcF s dl k t n m cs).mem.take 11++(jcF s dl k t n m cs).mem.drop 11:=(List.take_append_drop 11 _).symm
 rw [jsp s]
 have h29:getM ((jcF s dl k t n m cs).mem.drop 11) 29=none:=by kernel_rfl
 rw [QC (a:=(jcF s dl k t n m cs).mem.take 11) (b:=[(29,⟨58,(0,0),8,jO t n⟩)]) (c:=(jcF s dl k t n m cs).mem.drop 11++[(35,_)]) (fun j hj=>by
  rw [jm] at hj
  split at hj
  ·rename_i e;subst e;rw [jZ,h29,jm,if_neg (by decide)];rfl
  ·cases hj)]
 rw [←List.append_assoc,←e,jZ,jZ,jZ]
 unfold jk8
 cases h:getM (jcF s dl k t n m cs).mem i with
 | some x=>rfl
 | none=>
  simp only
  by_cases h1:i=29
  ·subst h1;rfl
  ·by_cases h2:i=35
   ·subst h2;rfl
   ·have b1:Nat.beq 29 i=false:=by rw [kX];simpa using fun e=>h1 e.symm
    have b2:Nat.beq 35 i=false:=by rw [kX];simpa using fun e=>h2 e.symm
    simp only [getM,b1,b2]
def joN (s:Asg) (dl k t:Int) (n m:Nat) (cs:List At):List LV:=(jcF s dl k t n m cs).live.map (·.2)
theorem jla {dl k t:Int} {n m:Nat} {cs:List At} (hO:OutL cs m (8000*k)) (hm:m≤32) (s:Asg):
  ToP Tryz.prog 77 jq0 ⟨jS 0 (joN s dl k t n m cs),(ZI s dl k t n m cs).mem,(ZI s dl k t n m cs).nb⟩ .ret (fun y=>∃x,(∃cs' m',OutL cs' m' (8000*(k+1))∧m'≤32∧jA (Xg (fOf (ZI s dl k t n m cs)) (gOf (ZI s dl k t n m cs)) n [nzi 8 0] 43 m' cs' 44) x)∧y=⟨x.live,x.mem++jk8 t k n,x.nb⟩):=by
 have hp:=jlA (f:=fOf (ZI s dl k t n m cs)) (g:=gOf (ZI s dl k t n m cs)) (n:=n) (T:=8000*(k+1)) hO hm (by omega) (by kernel_rfl) (jso s)
 have e:je (jso s) (jq1 (fOf (ZI s dl k t n m cs)) (gOf (ZI s dl k t n m cs)) n m cs (8000*(k+1)))=⟨jS 0 (joN s dl k t n m cs),(jcF s dl k t n m cs).mem,36⟩:=by kernel_rfl
 rw [e] at hp
 have hraw:okL noP cs=true:=hO.all.ok
 have hK:KstOK ⟨jS 0 (joN s dl k t n m cs),(jcF s dl k t n m cs).mem,36⟩:=by
  rw [←e];exact Z2 hraw _ (by kernel_rfl) (by kernel_rfl) (by kernel_rfl)
 refine ToP.sub (A0:=⟨jS 0 (joN s dl k t n m cs),(jcF s dl k t n m cs).mem++jk8 t k n,36⟩) ?_ (fun q hq=>hq) (fun i b hb=>by rw [←jk9 s i];exact hb) (by kernel_rfl) (ToP.frame hp hK (fun i hi=> ?_) (fun x hx i hi=> ?_) (fun x hx=> ?_))
 ·refine yg 29 30 t n hraw
 ·rcases jbd hi with rfl | rfl <;> kernel_rfl
 ·obtain ⟨cs',m',h1,h2,s',rfl⟩:=hx
  rcases jbd hi with rfl | rfl <;> kernel_rfl
 ·obtain ⟨cs',m',h1,h2,s',rfl⟩:=hx
  exact yg 29 43 t n h1.all.ok
theorem jhY {dl k t:Int} {n m:Nat} {cs:List At} (hO:OutL cs m (8000*k)) (hm:m≤32) (s:Asg):
  ToO Tryz.prog 102 (xL (c1 (c2 (c1 (c2 (c2 (c2 imZ))))))) 12 1 (je s (imP dl k t n m cs)) (fun y=>∃cs' m',OutL cs' m' (8000*(k+1))∧m'≤32∧jA (ms7 dl k t n m' cs') y):=by
 refine ToO.weak (ToO.callK (sz:=102) (c:=jq0) (A:=ZI s dl k t n m cs) (t:=47) (f:=27) (args:=joN s dl k t n m cs) (e:= .ret) (v:=fun _=>I 0) soundGC [0,4,5,6] (fun dead=>by kernel_rfl) Tryz.func27 (by kernel_rfl) (by kernel_rfl) (by kernel_rfl) (by kernel_rfl) (jla hO hm s) (.inr rfl) ?_ ?_) ?_
 ·rintro y ⟨x,⟨cs',m',h1,h2,s',rfl⟩,rfl⟩ dead
  kernel_rfl
 ·rintro y ⟨x,⟨cs',m',h1,h2,s',rfl⟩,rfl⟩
  exact yg 29 43 t n h1.all.ok
 ·rintro z ⟨y,⟨x,⟨cs',m',h1,h2,s',rfl⟩,rfl⟩,rfl⟩
  refine ⟨je ⟨s.F,fun b i=>if b=11 then s'.G b i else s.G b i,s.fs,s.gs⟩ (ms7 dl k t n m' cs'),[(47,I 0)],⟨cs',m',h1,h2,_,rfl⟩,yg 29 43 t n h1.all.ok,by kernel_rfl,fun i b hb=> ?_,by kernel_rfl⟩
  have e1:(je ⟨s.F,fun b i=>if b=11 then s'.G b i else s.G b i,s.fs,s.gs⟩ (ms7 dl k t n m' cs')).mem=(je s' (Xg (fOf (ZI s dl k t n m cs)) (gOf (ZI s dl k t n m cs)) n [nzi 8 0] 43 m' cs' 44)).mem.take 11++(jk8 t k n++(je s' (Xg (fOf (ZI s dl k t n m cs)) (gOf (ZI s dl k t n m cs)) n [nzi 8 0] 43 m' cs' 44)).mem.drop 11):=by kernel_rfl
  rw [e1,QC (fun j hj=>by rcases jbd hj with rfl | rfl <;> kernel_rfl),List.take_append_drop] at hb
  exact hb
theorem jlb {dl k t:Int} {n m:Nat} {cs:List At} (hO:OutL cs m (8000*k)) (hm:m≤32) (s:Asg):
  ToP Tryz.prog 102 (c2 (c1 (c2 (c2 (c2 imZ))))) (je s (ms4 dl k t n m cs)) .normal (fun y=>∃cs' m',OutL cs' m' (8000*(k+1))∧m'≤32∧jA (ms7 dl k t n m' cs') y):=by
 refine ToP.cond (t:=34) (b:=true) (by kernel_rfl) (by kernel_rfl) ?_
 show ToP Tryz.prog 102 (c1 (c2 (c1 (c2 (c2 (c2 imZ)))))) _ _ _
 refine ToP.draw (by kernel_rfl) fun id=> ?_
 exact ToP.drawCall (m:=12) (z:=⟨false,false,false⟩) (dec:=[]) (mask:=[]) (os:=[]) (es:=Kv (imP dl k t n m cs)) (p:=imP dl k t n m cs) soundGC (by kernel_rfl) (by kernel_rfl) (by kernel_rfl) (by kernel_rfl) (fun dead=>by kernel_rfl) jd (ke _)
  (fun s=>yg 29 30 t n hO.all.ok) (by kernel_rfl) (jhY hO hm)
end Go.Proofs.YtbpfipbhaagllaaGreat

/- TopNow: each and Correct on outputs of unknown number (the outputs lie in block 41). -/
namespace Go.Proofs.YtbpfipbhaagllaaGreat
open Go.Lr
noncomputable abbrev jqz:Code:=c1 (c1 (c2 (jj Tryz.prog 113)))
def jvb (cs:List At):List (Nat×PB2):=[nzO 41 cs,(44,⟨74,(0,0),0,[qL (.ptr 21 0)],none⟩),(45,⟨82,(0,0),0,[qL (.ptr 11 72)],none⟩),(49,⟨36,(0,0),0,[qH,qH,qH],none⟩),(50,⟨36,(0,0),0,[qH,qH,qH],none⟩),(52,⟨34,(0,0),0,[qH,qH,qH,qH],none⟩)]
def jaI (f:Nat→Int) (g:Nat→Bool) (q:Go.Lr.P2) (m:Nat) (a:Int) (cs:List At):PS2:=
 ⟨[nzp 0 21 0,nzp 1 11 72,(2,.one (qL (.fn 117 [(45,0),(49,0),(44,0),(50,0),(52,0)]))),(11,.one (nzv 41 m)),(12,.one (qS (m:Nat))),(13,.one (qS a))],nM f g qO q (nzv 41 m) (jvb cs),53⟩
noncomputable def jna (f:Nat→Int) (g:Nat→Bool) (q:Go.Lr.P2) (m:Nat) (a:Int) (cs:List At) (s:Asg) (dead:Nat→Go.Value):Option (Out×St):=
 Go.Lr.exec Tryz.prog GC ⟨false,false,false⟩ 20000 (.code jqz) ((je s (jaI f g q m a cs)).st 34 dead [some true])
noncomputable def jnb (f:Nat→Int) (g:Nat→Bool) (q:Go.Lr.P2) (m:Nat) (a:Int) (cs:List At) (s:Asg) (dead:Nat→Go.Value):List At:=nwC cs (a.toNat*11) (yI 31 (jna f g q m a cs s dead))
theorem jkh {f:Nat→Int} {g:Nat→Bool} {m:Nat} {n:Nat} {a:Int} {cs:List At} (s:Asg) (dead:Nat→Go.Value):
  (j8 (yI 31 (jna f g (nzv 38 n) m a cs s dead)),(yI 31 (jna f g (nzv 38 n) m a cs s dead)).length,intAt (yI 31 (jna f g (nzv 38 n) m a cs s dead)) 0)=(true,11,intAt cs (a.toNat*11)):=by kernel_rfl
theorem jki {f:Nat→Int} {g:Nat→Bool} {m:Nat} {n:Nat} {a:Int} {cs:List At} (s:Asg) (dead:Nat→Go.Value):
  ql (jaI f g (nzv 38 n) m (wr .i64 (a+1)) (jnb f g (nzv 38 n) m a cs s dead)) .normal (Xr 2 (jq9 18 (Xr 3 []))) (ju [0,1,2,11,12,13] [11,18,19,20,21,22,23,24,25,26,27,41,44,45,49,50,52] (jna f g (nzv 38 n) m a cs s dead)) =
   some ([(decide (a.toNat*11+11≤cs.length),true),(decide (0≤a)&&decide (a<(m:Int)),true),(jV cs (a.toNat*11) 11&&decide (11≠0),true),(decide (0≤a)&&decide (a<(m:Int)),true),(decide (a<(m:Int)),true)],Kv (jaI f g (nzv 38 n) m (wr .i64 (a+1)) (jnb f g (nzv 38 n) m a cs s dead))):=by kernel_rfl
section
variable {f:Nat→Int} {g:Nat→Bool} {m n:Nat} {cs:List At}
theorem jcl {a:Int} (hc:AllI cs (m*11)) (h0:0≤a) (h1:a<m) (s:Asg) (dead:Nat→Go.Value):SameT cs (jnb f g (nzv 38 n) m a cs s dead) m:=by
 have h:=jkh (f:=f) (g:=g) (m:=m) (n:=n) (a:=a) (cs:=cs) s dead
 simp only [Prod.mk.injEq] at h
 obtain ⟨k1,k2,k3⟩:=h
 have ho:a.toNat*11+11≤m*11:=by omega
 exact ⟨jlw hc k1 k2 ho,fun i hi=>jpg hc.len k2 ho k3 (by omega)⟩
theorem jjn {a b:Int} {cs:List At} (hc:AllI cs (m*11)) (s:Asg):KstOK (je s (jaI f g (nzv 38 n) m b cs)):=by
 refine q8 [41] (by kernel_rfl) (by kernel_rfl) fun i x hx hi=> ?_
 simp only [List.mem_singleton] at hi
 subst hi
 have e:getM (je s (jaI f g (nzv 38 n) m b cs)).mem 41=some ⟨38,(0,0),11,cs⟩:=by kernel_rfl
 rw [e] at hx
 cases hx
 exact hc.ok
theorem jeO {a:Int} (hc:AllI cs (m*11)) (h0:0≤a) (h1:a<m) (hm:m≤32) (s:Asg):
  ToP Tryz.prog 34 jqz (je s (jaI f g (nzv 38 n) m a cs)) .normal (fun y=>∃cs',SameT cs cs' m∧jA (jaI f g (nzv 38 n) m (a+1) cs') y):=by
 have ho:a.toNat*11+11≤m*11:=by omega
 refine (ToP.runD (z:=⟨false,false,false⟩) (n:=20000) (dec:=[some true]) (p:=fun dead=>jaI f g (nzv 38 n) m (wr .i64 (a+1)) (jnb f g (nzv 38 n) m a cs s dead)) soundGC (fun dead=>jki s dead) (fun dead=> ?_) (fun dead=>ke _) (fun dead s'=>jjn (a:=a) (jcl hc h0 h1 s dead).all s') (fun dead=>Nat.le_of_ble_eq_true (by kernel_rfl))).mono ?_
 ·have e1:decide (a.toNat*11+11≤cs.length)=true:=decide_eq_true (by rw [hc.len];exact ho)
  have e2:(decide (0≤a)&&decide (a<(m:Int)))=true:=by simp [h0,h1]
  have e3:(jV cs (a.toNat*11) 11&&decide (11≠0))=true:=by rw [hc.areI 11 _ ho];rfl
  have e4:decide (a<(m:Int))=true:=decide_eq_true h1
  intro c hcm
  rw [e1,e2,e3,e4] at hcm
  simp only [List.mem_cons,List.not_mem_nil,or_false] at hcm
  rcases hcm with rfl | rfl | rfl | rfl | rfl <;> rfl
 ·rintro y ⟨dead,hy⟩
  refine ⟨jnb f g (nzv 38 n) m a cs s dead,jcl hc h0 h1 s dead, ?_⟩
  rw [Go.Lr.w1 (by omega)] at hy
  exact hy
theorem jhk (hc:AllI cs (m*11)) (s:Asg):ToP Tryz.prog 34 jqz (je s (jaI f g (nzv 38 n) m m cs)) (.exit 0) (jA (jaI f g (nzv 38 n) m m cs)):=
 ToP.run2 (z:=⟨false,false,false⟩) (n:=20000) (dec:=[some false]) (mask:=[true]) (os:=[(decide ((m:Int)<m),false)]) (es:=Kv (jaI f g (nzv 38 n) m m cs)) soundGC (fun dead=>by kernel_rfl)
  (fun c hcm=>by simp only [List.mem_singleton] at hcm;subst hcm;exact decide_eq_false (by omega)) (ke _) (jjn (a:=0) hc) (by kernel_rfl)
theorem jcm:∀(j:Nat) (a:Int) (cs:List At),AllI cs (m*11)→0≤a→a+j=m→m≤32→∀s,RdP Tryz.prog 34 jqz (j+1) (je s (jaI f g (nzv 38 n) m a cs)) (.exit 0) (fun y=>∃cs',SameT cs cs' m∧jA (jaI f g (nzv 38 n) m m cs') y)
 | 0,a,cs,hc,h0,h1,hm,s=>by
  have:a=m:=by omega
  subst this
  exact RdP.last (by simp) ((jhk hc s).mono fun y hy=>⟨cs,.refl hc,hy⟩)
 | j+1,a,cs,hc,h0,h1,hm,s=>by
  refine RdP.next (jeO hc h0 (by omega) hm s) ?_
  rintro x ⟨cs',h,s',rfl⟩
  have:=jcm j (a+1) cs' h.all (by omega) (by omega) hm s'
  intro E a' w hk Q hQ
  refine this E a' w hk Q fun y hy=>hQ y ?_
  obtain ⟨c2,k,hy⟩:=hy
  exact ⟨c2,h.trans k,hy⟩
end
set_option maxRecDepth 100000
theorem jmy {A:Kst} {cs:List At} {ty:TypeId} (h1:kE A.nb A.live=true) (h2:yZ A.nb [41] A.mem=true) (h3:getM A.mem 41=some ⟨ty,(0,0),11,cs⟩) (h:okL noP cs=true):KstOK A:=
 q8 [41] h1 h2 fun i x hx hi=>by
  simp only [List.mem_singleton] at hi
  subst hi
  rw [h3] at hx
  cases hx
  exact h
theorem Zm {S:FuncId→Option SumK} (hs:Sound Tryz.prog S) (mask:List Bool) (dec:List (Option Bool)) (os:List (Bool×Bool)) {sz:Nat} {c:Code} {A:Kst} {e:Ex} {q:PS2} {cs:List At} {m:Nat} (hc:AllI cs (m*11))
  (hos:∀c∈os,c.1=c.2)
  (hrun:∀dead,ql q e mask (ju (q.live.map (·.1)) (q.mem.map (·.1)) (Go.Lr.exec Tryz.prog S ⟨false,false,false⟩ 20000 (.code c) (A.st sz dead dec)))=some (os,Kv q):=by intro dead;kernel_rfl)
  (h1:∀s,kE (je s q).nb (je s q).live=true:=by intro s;kernel_rfl) (h2:∀s,yZ (je s q).nb [41] (je s q).mem=true:=by intro s;kernel_rfl)
  (h3:∀s,getM (je s q).mem 41=some ⟨38,(0,0),11,cs⟩:=by intro s;kernel_rfl) (hn:Nat.ble A.nb q.nb=true:=by kernel_rfl):ToP Tryz.prog sz c A e (jA q):=
 ToP.run2 hs hrun hos (ke _) (fun s=>jmy (h1 s) (h2 s) (h3 s) hc.ok) hn
def qE (f:Nat→Int) (g:Nat→Bool) (m n:Nat) (cs:List At) (live:List (Nat×PV2)) (r:List (Nat×PB2)) (nb:Nat):PS2:=
 ⟨live,nM f g qO (nzv 38 n) (nzv 41 m) (nzO 41 cs::r),nb⟩
noncomputable abbrev KF:Code:=jj Tryz.prog 61
noncomputable abbrev jrG:Code:=jj Tryz.prog 113
def jrH:List (Nat×PB2):=[(44,⟨74,(0,0),0,[qL (.ptr 21 0)],none⟩),(45,⟨82,(0,0),0,[qL (.ptr 11 72)],none⟩),(49,⟨36,(0,0),0,[qH,qH,qH],none⟩),(50,⟨36,(0,0),0,[qH,qH,qH],none⟩),(52,⟨34,(0,0),0,[qH,qH,qH,qH],none⟩)]
def jrI (f:Nat→Int) (g:Nat→Bool) (m n:Nat) (cs:List At):PS2:=qE f g m n cs [nzp 0 21 0,nzp 1 11 72,(2,.one (qL (.fn 117 [(45,0),(49,0),(44,0),(50,0),(52,0)])))] jrH 53
theorem jrJ {f:Nat→Int} {g:Nat→Bool} {m n:Nat} {cs:List At} (hc:AllI cs (m*11)) (s:Asg):ToP Tryz.prog 34 (c1 jrG) (je s (jrI f g m n cs)) .normal (jA (jaI f g (nzv 38 n) m 0 cs)):=
 (Zm (cs:=cs) (q:=qE f g m n cs [nzp 0 21 0,nzp 1 11 72,(2,.one (qL (.fn 117 [(45,0),(49,0),(44,0),(50,0),(52,0)]))),(11,.one (nzv 41 m)),(12,.one (qS (m:Nat))),nzi 13 0] jrH 53) soundGC [] [] [] hc jd).mono (by rintro x ⟨s,rfl⟩;exact ⟨s,by kernel_rfl⟩)
theorem jkj {f:Nat→Int} {g:Nat→Bool} {m n:Nat} {cs:List At} (hc:AllI cs (m*11)) (hm:m≤32) (s:Asg):ToP Tryz.prog 34 jrG (je s (jrI f g m n cs)) .normal (fun y=>∃cs',SameT cs cs' m∧jA (jaI f g (nzv 38 n) m m cs') y):=by
 refine ToP.seq (by kernel_rfl) (jrJ hc s) ?_
 rintro x ⟨s,rfl⟩
 exact ToP.block (id:=0) (e:= .exit 0) (by kernel_rfl) (ToP.loop (m:=m+1) (by kernel_rfl) (jcm m 0 cs hc (Int.le_refl 0) (by omega) hm s)) (.inl rfl)
theorem jrK {f:Nat→Int} {g:Nat→Bool} {m n:Nat} {cs:List At} {tt:Int} (hc:AllI cs (m*11)) (s:Asg):ToP Tryz.prog 99 (c1 (KF)) (je s (qE f g m n cs [nzp 0 21 0,nzp 1 11 72,(2,.agg (rq 24 (qH))),(3,.one (qS tt))] [] 44)) .normal (jA (qE f g m n cs [(3,.one (qS tt)),nzp 4 44 0,nzp 5 45 0,nzp 6 46 0,nzi 8 0] [(44,⟨74,(0,0),0,[qL (.ptr 21 0)],none⟩),(45,⟨82,(0,0),0,[qL (.ptr 11 72)],none⟩),(46,⟨64,(0,0),0,rq 24 (qH),none⟩)] 47)):=
 Zm (cs:=cs) soundGC [] [] [] hc jd
theorem jrL {f:Nat→Int} {g:Nat→Bool} {m n:Nat} {cs:List At} {tt:Int} (hc:AllI cs (m*11)) (s:Asg):ToP Tryz.prog 99 (c1 (c2 (KF))) (je s (qE f g m n cs [(3,.one (qS tt)),nzp 4 44 0,nzp 5 45 0,nzp 6 46 0,nzi 8 0] [(44,⟨74,(0,0),0,[qL (.ptr 21 0)],none⟩),(45,⟨82,(0,0),0,[qL (.ptr 11 72)],none⟩),(46,⟨64,(0,0),0,rq 24 (qH),none⟩)] 47)) .normal (jA (qE f g m n cs [(3,.one (qS tt)),nzp 4 44 0,nzp 5 45 0,nzp 6 46 0,nzi 8 0,nzi 9 (-1)] [(44,⟨74,(0,0),0,[qL (.ptr 21 0)],none⟩),(45,⟨82,(0,0),0,[qL (.ptr 11 72)],none⟩),(46,⟨64,(0,0),0,rq 24 (qH),none⟩)] 47)):=
 Zm (cs:=cs) soundGC [] [] [] hc jd
theorem jrM {f:Nat→Int} {g:Nat→Bool} {m n:Nat} {cs:List At} {tt:Int} (hc:AllI cs (m*11)) (s:Asg):ToP Tryz.prog 99 (c1 (c1 (c2 (c2 (KF))))) (je s (qE f g m n cs [(3,.one (qS tt)),nzp 4 44 0,nzp 5 45 0,nzp 6 46 0,nzi 8 0,nzi 9 (-1)] [(44,⟨74,(0,0),0,[qL (.ptr 21 0)],none⟩),(45,⟨82,(0,0),0,[qL (.ptr 11 72)],none⟩),(46,⟨64,(0,0),0,rq 24 (qH),none⟩)] 47)) .normal (jA (qE f g m n cs [(3,.one (qS tt)),nzp 4 44 0,nzp 5 45 0,nzp 6 46 0,nzi 8 0,nzi 9 (-1),(22,.one (nzv 41 m)),(23,.one (qS (m:Nat))),nzi 24 0] [(44,⟨74,(0,0),0,[qL (.ptr 21 0)],none⟩),(45,⟨82,(0,0),0,[qL (.ptr 11 72)],none⟩),(46,⟨64,(0,0),0,rq 24 (qH),none⟩)] 47)):=
 Zm (cs:=cs) soundGC [] [] [] hc jd
theorem jrN {f:Nat→Int} {g:Nat→Bool} {m n:Nat} {cs:List At} {tt:Int} {a i:Int} (hc:AllI cs (m*11)) (h0:0≤i) (h1:i<m) (h2:intAt cs (i.toNat*11)≤tt) (s:Asg):ToP Tryz.prog 99 (c1 (c1 (c2 (c1 (c2 (c2 (KF))))))) (je s (qE f g m n cs [(3,.one (qS tt)),nzp 4 44 0,nzp 5 45 0,nzp 6 46 0,nzi 8 0,(9,.one (qS a)),(22,.one (nzv 41 m)),(23,.one (qS (m:Nat))),(24,.one (qS i))] [(44,⟨74,(0,0),0,[qL (.ptr 21 0)],none⟩),(45,⟨82,(0,0),0,[qL (.ptr 11 72)],none⟩),(46,⟨64,(0,0),0,rq 24 (qH),none⟩)] 47)) .normal (jA (qE f g m n cs [(3,.one (qS tt)),nzp 4 44 0,nzp 5 45 0,nzp 6 46 0,nzi 8 0,(9,.one (qS i)),(22,.one (nzv 41 m)),(23,.one (qS (m:Nat))),(24,.one (qS (wr .i64 (i+1))))] [(44,⟨74,(0,0),0,[qL (.ptr 21 0)],none⟩),(45,⟨82,(0,0),0,[qL (.ptr 11 72)],none⟩),(46,⟨64,(0,0),0,rq 24 (qH),none⟩)] 47)):=
 Zm (cs:=cs) soundGC (Xr 4 []) [some true,some true] [(decide (intAt cs (i.toNat*11)≤tt),true),(jV cs (i.toNat*11) 11&&decide (11≠0),true),(decide (0≤i)&&decide (i<(m:Int)),true),(decide (i<(m:Int)),true)] hc (by
  have e1:i.toNat*11+11≤m*11:=by omega
  have e2:(decide (0≤i)&&decide (i<(m:Int)))=true:=by simp [h0,h1]
  have e3:(jV cs (i.toNat*11) 11&&decide (11≠0))=true:=by rw [hc.areI 11 _ e1];rfl
  have e4:decide (i<(m:Int))=true:=decide_eq_true h1
  intro c hcm
  rw [decide_eq_true h2,e2,e3,e4] at hcm
  simp only [List.mem_cons,List.not_mem_nil,or_false] at hcm
  rcases hcm with rfl | rfl | rfl | rfl <;> rfl)
theorem jrO {f:Nat→Int} {g:Nat→Bool} {m n:Nat} {cs:List At} {tt:Int} {a i:Int} (hc:AllI cs (m*11)) (h0:0≤i) (h1:i<m) (h2:¬intAt cs (i.toNat*11)≤tt) (s:Asg):ToP Tryz.prog 99 (c1 (c1 (c2 (c1 (c2 (c2 (KF))))))) (je s (qE f g m n cs [(3,.one (qS tt)),nzp 4 44 0,nzp 5 45 0,nzp 6 46 0,nzi 8 0,(9,.one (qS a)),(22,.one (nzv 41 m)),(23,.one (qS (m:Nat))),(24,.one (qS i))] [(44,⟨74,(0,0),0,[qL (.ptr 21 0)],none⟩),(45,⟨82,(0,0),0,[qL (.ptr 11 72)],none⟩),(46,⟨64,(0,0),0,rq 24 (qH),none⟩)] 47)) .normal (jA (qE f g m n cs [(3,.one (qS tt)),nzp 4 44 0,nzp 5 45 0,nzp 6 46 0,nzi 8 0,(9,.one (qS a)),(22,.one (nzv 41 m)),(23,.one (qS (m:Nat))),(24,.one (qS (wr .i64 (i+1))))] [(44,⟨74,(0,0),0,[qL (.ptr 21 0)],none⟩),(45,⟨82,(0,0),0,[qL (.ptr 11 72)],none⟩),(46,⟨64,(0,0),0,rq 24 (qH),none⟩)] 47)):=
 Zm (cs:=cs) soundGC (Xr 4 []) [some true,some false] [(decide (intAt cs (i.toNat*11)≤tt),false),(jV cs (i.toNat*11) 11&&decide (11≠0),true),(decide (0≤i)&&decide (i<(m:Int)),true),(decide (i<(m:Int)),true)] hc (by
  have e1:i.toNat*11+11≤m*11:=by omega
  have e2:(decide (0≤i)&&decide (i<(m:Int)))=true:=by simp [h0,h1]
  have e3:(jV cs (i.toNat*11) 11&&decide (11≠0))=true:=by rw [hc.areI 11 _ e1];rfl
  have e4:decide (i<(m:Int))=true:=decide_eq_true h1
  intro c hcm
  rw [decide_eq_false h2,e2,e3,e4] at hcm
  simp only [List.mem_cons,List.not_mem_nil,or_false] at hcm
  rcases hcm with rfl | rfl | rfl | rfl <;> rfl)
theorem jrP {f:Nat→Int} {g:Nat→Bool} {m n:Nat} {cs:List At} {tt:Int} {a:Int} (hc:AllI cs (m*11)) (s:Asg):ToP Tryz.prog 99 (c1 (c1 (c2 (c1 (c2 (c2 (KF))))))) (je s (qE f g m n cs [(3,.one (qS tt)),nzp 4 44 0,nzp 5 45 0,nzp 6 46 0,nzi 8 0,(9,.one (qS a)),(22,.one (nzv 41 m)),(23,.one (qS (m:Nat))),(24,.one (qS m))] [(44,⟨74,(0,0),0,[qL (.ptr 21 0)],none⟩),(45,⟨82,(0,0),0,[qL (.ptr 11 72)],none⟩),(46,⟨64,(0,0),0,rq 24 (qH),none⟩)] 47)) (.exit 0) (jA (qE f g m n cs [(3,.one (qS tt)),nzp 4 44 0,nzp 5 45 0,nzp 6 46 0,nzi 8 0,(9,.one (qS a))] [(44,⟨74,(0,0),0,[qL (.ptr 21 0)],none⟩),(45,⟨82,(0,0),0,[qL (.ptr 11 72)],none⟩),(46,⟨64,(0,0),0,rq 24 (qH),none⟩)] 47)):=
 Zm (cs:=cs) soundGC [true] [some false] [(decide ((m:Int)<m),false)] hc (fun c h=>by simp only [List.mem_singleton] at h;subst h;exact decide_eq_false (by omega))
theorem Yd {f:Nat→Int} {g:Nat→Bool} {m n:Nat} {cs:List At} {tt:Int} (hc:AllI cs (m*11)) (hm:m≤32):∀(j:Nat) (a i:Int),0≤i→i+j=m→ -1≤a→a<m→∀s,RdP Tryz.prog 99 (c1 (c1 (c2 (c1 (c2 (c2 (KF))))))) (j+1) (je s (qE f g m n cs [(3,.one (qS tt)),nzp 4 44 0,nzp 5 45 0,nzp 6 46 0,nzi 8 0,(9,.one (qS a)),(22,.one (nzv 41 m)),(23,.one (qS (m:Nat))),(24,.one (qS i))] [(44,⟨74,(0,0),0,[qL (.ptr 21 0)],none⟩),(45,⟨82,(0,0),0,[qL (.ptr 11 72)],none⟩),(46,⟨64,(0,0),0,rq 24 (qH),none⟩)] 47)) (.exit 0) (fun y=>∃a:Int,-1≤a∧a<m∧jA (qE f g m n cs [(3,.one (qS tt)),nzp 4 44 0,nzp 5 45 0,nzp 6 46 0,nzi 8 0,(9,.one (qS a))] [(44,⟨74,(0,0),0,[qL (.ptr 21 0)],none⟩),(45,⟨82,(0,0),0,[qL (.ptr 11 72)],none⟩),(46,⟨64,(0,0),0,rq 24 (qH),none⟩)] 47) y)
 | 0,a,i,h0,h1,h2,h3,s=>by
  have:i=m:=by omega
  subst this
  exact RdP.last (by simp) ((jrP hc s).mono fun y hy=>⟨a,h2,h3,hy⟩)
 | j+1,a,i,h0,h1,h2,h3,s=>by
  have hi:i<m:=by omega
  by_cases hT:intAt cs (i.toNat*11)≤tt
  ·refine RdP.next (jrN hc h0 hi hT s) ?_
   rintro x ⟨s,rfl⟩
   rw [Go.Lr.w1 (by omega)]
   exact Yd hc hm j i (i+1) (by omega) (by omega) (by omega) hi s
  ·refine RdP.next (jrO hc h0 hi hT s) ?_
   rintro x ⟨s,rfl⟩
   rw [Go.Lr.w1 (by omega)]
   exact Yd hc hm j a (i+1) (by omega) (by omega) h2 h3 s
theorem jrQ {f:Nat→Int} {g:Nat→Bool} {m n:Nat} {cs:List At} {tt:Int} {a:Int} (hc:AllI cs (m*11)) (h:a<0) (s:Asg):ToP Tryz.prog 99 (c1 (c2 (c2 (c2 (KF))))) (je s (qE f g m n cs [(3,.one (qS tt)),nzp 4 44 0,nzp 5 45 0,nzp 6 46 0,nzi 8 0,(9,.one (qS a))] [(44,⟨74,(0,0),0,[qL (.ptr 21 0)],none⟩),(45,⟨82,(0,0),0,[qL (.ptr 11 72)],none⟩),(46,⟨64,(0,0),0,rq 24 (qH),none⟩)] 47)) .ret (jA (qE f g m n cs [nzi 8 4] [] 53)):=
 Zm (cs:=cs) soundGC [true] [some true] [(decide (a<0),true)] hc (fun c h=>by simp only [List.mem_singleton] at h;subst h;exact decide_eq_true (by omega))
theorem jrR {f:Nat→Int} {g:Nat→Bool} {m n:Nat} {cs:List At} {tt:Int} {a:Int} (hc:AllI cs (m*11)) (h:¬a<0) (s:Asg):ToP Tryz.prog 99 (c1 (c2 (c2 (c2 (KF))))) (je s (qE f g m n cs [(3,.one (qS tt)),nzp 4 44 0,nzp 5 45 0,nzp 6 46 0,nzi 8 0,(9,.one (qS a))] [(44,⟨74,(0,0),0,[qL (.ptr 21 0)],none⟩),(45,⟨82,(0,0),0,[qL (.ptr 11 72)],none⟩),(46,⟨64,(0,0),0,rq 24 (qH),none⟩)] 47)) .normal (jA (qE f g m n cs [(3,.one (qS tt)),nzp 4 44 0,nzp 5 45 0,nzp 6 46 0,nzi 8 0,(9,.one (qS a))] [(44,⟨74,(0,0),0,[qL (.ptr 21 0)],none⟩),(45,⟨82,(0,0),0,[qL (.ptr 11 72)],none⟩),(46,⟨64,(0,0),0,rq 24 (qH),none⟩)] 47)):=
 Zm (cs:=cs) soundGC [true] [some false] [(decide (a<0),false)] hc (fun c h=>by simp only [List.mem_singleton] at h;subst h;exact decide_eq_false (by omega))
theorem jrS {f:Nat→Int} {g:Nat→Bool} {m n:Nat} {cs:List At} {tt:Int} {i:Int} (hc:AllI cs (m*11)) (h0:0≤i) (h1:i<m) (s:Asg):ToP Tryz.prog 99 (c1 (c2 (c2 (c2 (c2 (KF)))))) (je s (qE f g m n cs [(3,.one (qS tt)),nzp 4 44 0,nzp 5 45 0,nzp 6 46 0,nzi 8 0,(9,.one (qS i))] [(44,⟨74,(0,0),0,[qL (.ptr 21 0)],none⟩),(45,⟨82,(0,0),0,[qL (.ptr 11 72)],none⟩),(46,⟨64,(0,0),0,rq 24 (qH),none⟩)] 47)) .normal (jA (qE f g m n cs [nzp 4 44 0,nzp 5 45 0,nzi 8 0,nzp 12 47 0,nzp 13 48 0] [(44,⟨74,(0,0),0,[qL (.ptr 21 0)],none⟩),(45,⟨82,(0,0),0,[qL (.ptr 11 72)],none⟩),(47,⟨38,(0,0),0,rq 11 (qH),none⟩),(48,⟨38,(0,0),0,rq 11 (qH),none⟩)] 49)):=
 Zm (cs:=cs) soundGC (Xr 2 []) [] [(jV cs (i.toNat*11) 11&&decide (11≠0),true),(decide (0≤i)&&decide (i<(m:Int)),true)] hc (by
  have e1:i.toNat*11+11≤m*11:=by omega
  have e2:(decide (0≤i)&&decide (i<(m:Int)))=true:=by simp [h0,h1]
  have e3:(jV cs (i.toNat*11) 11&&decide (11≠0))=true:=by rw [hc.areI 11 _ e1];rfl
  intro c hcm
  rw [e2,e3] at hcm
  simp only [List.mem_cons,List.not_mem_nil,or_false] at hcm
  rcases hcm with rfl | rfl <;> rfl)
theorem jrT {f:Nat→Int} {g:Nat→Bool} {m n:Nat} {cs:List At} {tt:Int} (hc:AllI cs (m*11)) (s:Asg):ToP Tryz.prog 99 (c1 (c2 (c2 (c2 (c2 (c2 (KF))))))) (je s (qE f g m n cs [nzp 4 44 0,nzp 5 45 0,nzi 8 0,nzp 12 47 0,nzp 13 48 0] [(44,⟨74,(0,0),0,[qL (.ptr 21 0)],none⟩),(45,⟨82,(0,0),0,[qL (.ptr 11 72)],none⟩),(47,⟨38,(0,0),0,rq 11 (qH),none⟩),(48,⟨38,(0,0),0,rq 11 (qH),none⟩)] 49)) .normal (jA (qE f g m n cs [nzp 4 44 0,nzp 5 45 0,nzi 8 0,nzp 12 47 0,nzp 13 48 0,nzp 14 49 0,nzp 15 50 0] [(44,⟨74,(0,0),0,[qL (.ptr 21 0)],none⟩),(45,⟨82,(0,0),0,[qL (.ptr 11 72)],none⟩),(47,⟨38,(0,0),0,rq 11 (qH),none⟩),(48,⟨38,(0,0),0,rq 11 (qH),none⟩),(49,⟨36,(0,0),0,[qH,qH,qH],none⟩),(50,⟨36,(0,0),0,[qH,qH,qH],none⟩)] 51)):=
 Zm (cs:=cs) soundGC [] [] [] hc jd
theorem jrU {f:Nat→Int} {g:Nat→Bool} {m n:Nat} {cs:List At} {tt:Int} (hc:AllI cs (m*11)) (s:Asg):ToP Tryz.prog 99 (c1 (c2 (c2 (c2 (c2 (c2 (c2 (KF)))))))) (je s (qE f g m n cs [nzp 4 44 0,nzp 5 45 0,nzi 8 0,nzp 12 47 0,nzp 13 48 0,nzp 14 49 0,nzp 15 50 0] [(44,⟨74,(0,0),0,[qL (.ptr 21 0)],none⟩),(45,⟨82,(0,0),0,[qL (.ptr 11 72)],none⟩),(47,⟨38,(0,0),0,rq 11 (qH),none⟩),(48,⟨38,(0,0),0,rq 11 (qH),none⟩),(49,⟨36,(0,0),0,[qH,qH,qH],none⟩),(50,⟨36,(0,0),0,[qH,qH,qH],none⟩)] 51)) .normal (jA (qE f g m n cs [nzp 4 44 0,nzp 5 45 0,nzi 8 0,nzp 14 49 0,nzp 15 50 0,nzp 16 51 0] [(44,⟨74,(0,0),0,[qL (.ptr 21 0)],none⟩),(45,⟨82,(0,0),0,[qL (.ptr 11 72)],none⟩),(49,⟨36,(0,0),0,[qH,qH,qH],none⟩),(50,⟨36,(0,0),0,[qH,qH,qH],none⟩),(51,⟨34,(0,0),0,[qH,qH,qH,qH],none⟩)] 52)):=
 Zm (cs:=cs) soundGC [] [] [] hc jd
theorem jrV {f:Nat→Int} {g:Nat→Bool} {m n:Nat} {cs:List At} {tt:Int} (hc:AllI cs (m*11)) (s:Asg):ToP Tryz.prog 99 (c1 (c2 (c2 (c2 (c2 (c2 (c2 (c2 (KF))))))))) (je s (qE f g m n cs [nzp 4 44 0,nzp 5 45 0,nzi 8 0,nzp 14 49 0,nzp 15 50 0,nzp 16 51 0] [(44,⟨74,(0,0),0,[qL (.ptr 21 0)],none⟩),(45,⟨82,(0,0),0,[qL (.ptr 11 72)],none⟩),(49,⟨36,(0,0),0,[qH,qH,qH],none⟩),(50,⟨36,(0,0),0,[qH,qH,qH],none⟩),(51,⟨34,(0,0),0,[qH,qH,qH,qH],none⟩)] 52)) .normal (jA (qE f g m n cs [nzp 4 44 0,nzp 5 45 0,nzi 8 0,nzp 14 49 0,nzp 15 50 0,nzp 16 51 0,nzp 17 52 0] [(44,⟨74,(0,0),0,[qL (.ptr 21 0)],none⟩),(45,⟨82,(0,0),0,[qL (.ptr 11 72)],none⟩),(49,⟨36,(0,0),0,[qH,qH,qH],none⟩),(50,⟨36,(0,0),0,[qH,qH,qH],none⟩),(51,⟨34,(0,0),0,[qH,qH,qH,qH],none⟩),(52,⟨34,(0,0),0,[qI 1073741824,qI 0,qI 0,qI 0],none⟩)] 53)):=
 Zm (cs:=cs) soundGC [] [] [] hc jd
theorem jnc {f:Nat→Int} {g:Nat→Bool} {m n:Nat} {cs:List At} {tt:Int} (hc:AllI cs (m*11)) (s:Asg) (h:¬(s.F 51 0<0)):ToP Tryz.prog 99 (c1 (c2 (c2 (c2 (c2 (c2 (c2 (c2 (c2 (KF)))))))))) (je s (qE f g m n cs [nzp 4 44 0,nzp 5 45 0,nzi 8 0,nzp 14 49 0,nzp 15 50 0,nzp 16 51 0,nzp 17 52 0] [(44,⟨74,(0,0),0,[qL (.ptr 21 0)],none⟩),(45,⟨82,(0,0),0,[qL (.ptr 11 72)],none⟩),(49,⟨36,(0,0),0,[qH,qH,qH],none⟩),(50,⟨36,(0,0),0,[qH,qH,qH],none⟩),(51,⟨34,(0,0),0,[qH,qH,qH,qH],none⟩),(52,⟨34,(0,0),0,[qI 1073741824,qI 0,qI 0,qI 0],none⟩)] 53)) .normal (jA (qE f g m n cs [nzp 4 44 0,nzp 5 45 0,nzi 8 0,nzp 14 49 0,nzp 15 50 0,nzp 17 52 0] [(44,⟨74,(0,0),0,[qL (.ptr 21 0)],none⟩),(45,⟨82,(0,0),0,[qL (.ptr 11 72)],none⟩),(49,⟨36,(0,0),0,[qH,qH,qH],none⟩),(50,⟨36,(0,0),0,[qH,qH,qH],none⟩),(52,⟨34,(0,0),0,[qI 1073741824,qH,qH,qH],none⟩)] 53)):=
 Zm (cs:=cs) soundGC (Xr 3 []) [none,some false,none,some false,none,some false,none] (ra 3 (decide (s.F 51 0<0),false) []) hc (j9 (decide_eq_false h) jd _)
theorem jnd {f:Nat→Int} {g:Nat→Bool} {m n:Nat} {cs:List At} {tt:Int} (hc:AllI cs (m*11)) (s:Asg) (h:(s.F 51 0<0)):ToP Tryz.prog 99 (c1 (c2 (c2 (c2 (c2 (c2 (c2 (c2 (c2 (KF)))))))))) (je s (qE f g m n cs [nzp 4 44 0,nzp 5 45 0,nzi 8 0,nzp 14 49 0,nzp 15 50 0,nzp 16 51 0,nzp 17 52 0] [(44,⟨74,(0,0),0,[qL (.ptr 21 0)],none⟩),(45,⟨82,(0,0),0,[qL (.ptr 11 72)],none⟩),(49,⟨36,(0,0),0,[qH,qH,qH],none⟩),(50,⟨36,(0,0),0,[qH,qH,qH],none⟩),(51,⟨34,(0,0),0,[qH,qH,qH,qH],none⟩),(52,⟨34,(0,0),0,[qI 1073741824,qI 0,qI 0,qI 0],none⟩)] 53)) .normal (jA (qE f g m n cs [nzp 4 44 0,nzp 5 45 0,nzi 8 0,nzp 14 49 0,nzp 15 50 0,nzp 17 52 0] [(44,⟨74,(0,0),0,[qL (.ptr 21 0)],none⟩),(45,⟨82,(0,0),0,[qL (.ptr 11 72)],none⟩),(49,⟨36,(0,0),0,[qH,qH,qH],none⟩),(50,⟨36,(0,0),0,[qH,qH,qH],none⟩),(52,⟨34,(0,0),0,[qI 1073741824,qH,qH,qH],none⟩)] 53)):=
 Zm (cs:=cs) soundGC (Xr 3 []) [none,some true,none,some true,none,some true,none] (ra 3 (decide (s.F 51 0<0),true) []) hc (j9 (decide_eq_true h) jd _)
theorem jrW {f:Nat→Int} {g:Nat→Bool} {m n:Nat} {cs:List At} {tt:Int} (hc:AllI cs (m*11)) (s:Asg):ToP Tryz.prog 99 (c1 (c2 (c2 (c2 (c2 (c2 (c2 (c2 (c2 (c2 (KF))))))))))) (je s (qE f g m n cs [nzp 4 44 0,nzp 5 45 0,nzi 8 0,nzp 14 49 0,nzp 15 50 0,nzp 17 52 0] [(44,⟨74,(0,0),0,[qL (.ptr 21 0)],none⟩),(45,⟨82,(0,0),0,[qL (.ptr 11 72)],none⟩),(49,⟨36,(0,0),0,[qH,qH,qH],none⟩),(50,⟨36,(0,0),0,[qH,qH,qH],none⟩),(52,⟨34,(0,0),0,[qI 1073741824,qH,qH,qH],none⟩)] 53)) .normal (jA (qE f g m n cs [nzp 4 44 0,nzp 5 45 0,nzi 8 0,nzp 14 49 0,nzp 15 50 0,nzp 17 52 0] [(44,⟨74,(0,0),0,[qL (.ptr 21 0)],none⟩),(45,⟨82,(0,0),0,[qL (.ptr 11 72)],none⟩),(49,⟨36,(0,0),0,[qH,qH,qH],none⟩),(50,⟨36,(0,0),0,[qH,qH,qH],none⟩),(52,⟨34,(0,0),0,[qH,qH,qH,qH],none⟩)] 53)):=
 Zm (cs:=cs) soundGC [] [] [] hc jd
theorem jne {f:Nat→Int} {g:Nat→Bool} {m n:Nat} {cs:List At} (hc:AllI cs (m*11)) (s:Asg):ToO Tryz.prog 99 (xL (c1 (c2 (c2 (c2 (c2 (c2 (c2 (c2 (c2 (c2 (c2 (KF))))))))))))) 0 3 (je s (qE f g m n cs [nzp 4 44 0,nzp 5 45 0,nzi 8 0,nzp 14 49 0,nzp 15 50 0,nzp 17 52 0] [(44,⟨74,(0,0),0,[qL (.ptr 21 0)],none⟩),(45,⟨82,(0,0),0,[qL (.ptr 11 72)],none⟩),(49,⟨36,(0,0),0,[qH,qH,qH],none⟩),(50,⟨36,(0,0),0,[qH,qH,qH],none⟩),(52,⟨34,(0,0),0,[qH,qH,qH,qH],none⟩)] 53)) (jA (qE f g m n cs [nzi 8 0,nzp 95 21 0,nzp 96 11 72,(97,.one (qL (.fn 117 [(45,0),(49,0),(44,0),(50,0),(52,0)])))] [(44,⟨74,(0,0),0,[qL (.ptr 21 0)],none⟩),(45,⟨82,(0,0),0,[qL (.ptr 11 72)],none⟩),(49,⟨36,(0,0),0,[qH,qH,qH],none⟩),(50,⟨36,(0,0),0,[qH,qH,qH],none⟩),(52,⟨34,(0,0),0,[qH,qH,qH,qH],none⟩)] 53)):=
 ToO.run2 (z:=⟨false,false,false⟩) (n:=20000) (dec:=[]) (mask:=[]) (os:=[]) (es:=Kv (qE f g m n cs [nzi 8 0,nzp 95 21 0,nzp 96 11 72,(97,.one (qL (.fn 117 [(45,0),(49,0),(44,0),(50,0),(52,0)])))] [(44,⟨74,(0,0),0,[qL (.ptr 21 0)],none⟩),(45,⟨82,(0,0),0,[qL (.ptr 11 72)],none⟩),(49,⟨36,(0,0),0,[qH,qH,qH],none⟩),(50,⟨36,(0,0),0,[qH,qH,qH],none⟩),(52,⟨34,(0,0),0,[qH,qH,qH,qH],none⟩)] 53)) soundGC (by kernel_rfl) (by kernel_rfl) (fun dead=>by kernel_rfl) jd (ke _) (fun s=>jmy (by kernel_rfl) (by kernel_rfl) (cs:=cs) (ty:=38) (by kernel_rfl) hc.ok) (by kernel_rfl)
theorem jnf {f:Nat→Int} {g:Nat→Bool} {m n:Nat} {cs:List At} (hc:AllI cs (m*11)) (hm:m≤32) (s:Asg):ToO Tryz.prog 99 (xL (c1 (c2 (c2 (c2 (c2 (c2 (c2 (c2 (c2 (c2 (c2 (KF))))))))))))) 3 1 (je s (qE f g m n cs [nzi 8 0,nzp 95 21 0,nzp 96 11 72,(97,.one (qL (.fn 117 [(45,0),(49,0),(44,0),(50,0),(52,0)])))] [(44,⟨74,(0,0),0,[qL (.ptr 21 0)],none⟩),(45,⟨82,(0,0),0,[qL (.ptr 11 72)],none⟩),(49,⟨36,(0,0),0,[qH,qH,qH],none⟩),(50,⟨36,(0,0),0,[qH,qH,qH],none⟩),(52,⟨34,(0,0),0,[qH,qH,qH,qH],none⟩)] 53)) (fun y=>∃x,(∃cs',SameT cs cs' m∧jA (jaI f g (nzv 38 n) m m cs') x)∧y=⟨(98,.tup [])::Kn 98 [8] (je s (qE f g m n cs [nzi 8 0,nzp 95 21 0,nzp 96 11 72,(97,.one (qL (.fn 117 [(45,0),(49,0),(44,0),(50,0),(52,0)])))] [(44,⟨74,(0,0),0,[qL (.ptr 21 0)],none⟩),(45,⟨82,(0,0),0,[qL (.ptr 11 72)],none⟩),(49,⟨36,(0,0),0,[qH,qH,qH],none⟩),(50,⟨36,(0,0),0,[qH,qH,qH],none⟩),(52,⟨34,(0,0),0,[qH,qH,qH,qH],none⟩)] 53)).live,x.mem,x.nb⟩):=by
 refine ToO.callK (sz:=99) (c:=jrG) (A:=je s (qE f g m n cs [nzi 8 0,nzp 95 21 0,nzp 96 11 72,(97,.one (qL (.fn 117 [(45,0),(49,0),(44,0),(50,0),(52,0)])))] [(44,⟨74,(0,0),0,[qL (.ptr 21 0)],none⟩),(45,⟨82,(0,0),0,[qL (.ptr 11 72)],none⟩),(49,⟨36,(0,0),0,[qH,qH,qH],none⟩),(50,⟨36,(0,0),0,[qH,qH,qH],none⟩),(52,⟨34,(0,0),0,[qH,qH,qH,qH],none⟩)] 53)) (t:=98) (f:=113) (args:=[.v (.one (.ptr 21 0)),.v (.one (.ptr 11 72)),.v (.one (.fn 117 [(45,0),(49,0),(44,0),(50,0),(52,0)]))]) (e:= .normal) (v:=fun _=> .tup []) soundGC [8] (fun dead=>by kernel_rfl) Tryz.func113 (by kernel_rfl) (by kernel_rfl) (by kernel_rfl) (by kernel_rfl) ?_ (.inl rfl) ?_ ?_
 ·have:=jkj (f:=f) (g:=g) (n:=n) hc hm s
  have e:(je s (jrI f g m n cs))=⟨jS 0 [.v (.one (.ptr 21 0)),.v (.one (.ptr 11 72)),.v (.one (.fn 117 [(45,0),(49,0),(44,0),(50,0),(52,0)]))],(je s (qE f g m n cs [nzi 8 0,nzp 95 21 0,nzp 96 11 72,(97,.one (qL (.fn 117 [(45,0),(49,0),(44,0),(50,0),(52,0)])))] [(44,⟨74,(0,0),0,[qL (.ptr 21 0)],none⟩),(45,⟨82,(0,0),0,[qL (.ptr 11 72)],none⟩),(49,⟨36,(0,0),0,[qH,qH,qH],none⟩),(50,⟨36,(0,0),0,[qH,qH,qH],none⟩),(52,⟨34,(0,0),0,[qH,qH,qH,qH],none⟩)] 53)).mem,(je s (qE f g m n cs [nzi 8 0,nzp 95 21 0,nzp 96 11 72,(97,.one (qL (.fn 117 [(45,0),(49,0),(44,0),(50,0),(52,0)])))] [(44,⟨74,(0,0),0,[qL (.ptr 21 0)],none⟩),(45,⟨82,(0,0),0,[qL (.ptr 11 72)],none⟩),(49,⟨36,(0,0),0,[qH,qH,qH],none⟩),(50,⟨36,(0,0),0,[qH,qH,qH],none⟩),(52,⟨34,(0,0),0,[qH,qH,qH,qH],none⟩)] 53)).nb⟩:=by kernel_rfl
  rw [e] at this
  exact this
 ·rintro x ⟨cs',h,s',rfl⟩ dead
  kernel_rfl
 ·rintro x ⟨cs',h,s',rfl⟩
  exact jmy (by kernel_rfl) (by kernel_rfl) (cs:=cs') (ty:=38) (by kernel_rfl) h.all.ok
theorem jrX {f:Nat→Int} {g:Nat→Bool} {m n:Nat} {cs:List At} (hc:AllI cs (m*11)) (hm:m≤32) (s:Asg):ToP Tryz.prog 99 (c1 (c2 (c2 (c2 (c2 (c2 (c2 (c2 (c2 (c2 (c2 (KF)))))))))))) (je s (qE f g m n cs [nzp 4 44 0,nzp 5 45 0,nzi 8 0,nzp 14 49 0,nzp 15 50 0,nzp 17 52 0] [(44,⟨74,(0,0),0,[qL (.ptr 21 0)],none⟩),(45,⟨82,(0,0),0,[qL (.ptr 11 72)],none⟩),(49,⟨36,(0,0),0,[qH,qH,qH],none⟩),(50,⟨36,(0,0),0,[qH,qH,qH],none⟩),(52,⟨34,(0,0),0,[qH,qH,qH,qH],none⟩)] 53)) .normal (fun y=>∃cs',SameT cs cs' m∧jA (qE f g m n cs' [nzi 8 0] [] 53) y):=by
 refine ToP.of_ToO (n:=4) (by kernel_rfl) (by kernel_rfl) (ToO.seq (m:=3) (m':=1) (jne hc s) ?_)
 rintro x ⟨s,rfl⟩
 refine (jnf hc hm s).less ?_
 rintro y ⟨x,⟨cs',h,s',rfl⟩,rfl⟩
 exact ⟨je s' (qE f g m n cs' [nzi 8 0] [] 53),[(98,.tup [])],z4 s' jrH,⟨cs',h,s',rfl⟩,jmy (by kernel_rfl) (by kernel_rfl) (cs:=cs') (ty:=38) (by kernel_rfl) h.all.ok,by kernel_rfl,by kernel_rfl,by kernel_rfl⟩
theorem jrY {f:Nat→Int} {g:Nat→Bool} {m n:Nat} {cs:List At} (hc:AllI cs (m*11)) (s:Asg):ToP Tryz.prog 99 (c2 (c2 (c2 (c2 (c2 (c2 (c2 (c2 (c2 (c2 (c2 KF))))))))))) (je s (qE f g m n cs [nzi 8 0] [] 53)) .ret (jA (qE f g m n cs [nzi 8 0] [] 53)):=
 Zm (cs:=cs) soundGC [] [] [] hc jd
theorem jeP {f:Nat→Int} {g:Nat→Bool} {m n:Nat} {cs:List At} {tt:Int} (hc:AllI cs (m*11)) (hm:m≤32) (hp:1≤m) (s:Asg):ToP Tryz.prog 99 KF (je s (qE f g m n cs [nzp 0 21 0,nzp 1 11 72,(2,.agg (rq 24 (qH))),(3,.one (qS tt))] [] 44)) .ret (fun y=>∃cs' v,SameT cs cs' m∧jA (qE f g m n cs' [nzi 8 v] [] 53) y):=by
 refine ToP.seq (by kernel_rfl) (jrK hc s) ?_
 rintro x ⟨s,rfl⟩
 refine ToP.seq (by kernel_rfl) (jrL hc s) ?_
 rintro x ⟨s,rfl⟩
 refine ToP.seq (by kernel_rfl) (B:=fun y=>∃a:Int,-1≤a∧a<m∧jA (qE f g m n cs [(3,.one (qS tt)),nzp 4 44 0,nzp 5 45 0,nzp 6 46 0,nzi 8 0,(9,.one (qS a))] [(44,⟨74,(0,0),0,[qL (.ptr 21 0)],none⟩),(45,⟨82,(0,0),0,[qL (.ptr 11 72)],none⟩),(46,⟨64,(0,0),0,rq 24 (qH),none⟩)] 47) y) (ToP.seq (by kernel_rfl) (jrM hc s) ?_) ?_
 ·rintro x ⟨s,rfl⟩
  exact ToP.block (id:=0) (e:= .exit 0) (by kernel_rfl) (ToP.loop (m:=m+1) (by kernel_rfl) (Yd hc hm m (-1) 0 (Int.le_refl 0) (by omega) (by omega) (by omega) s)) (.inl rfl)
 rintro x ⟨a,h0,h1,s,rfl⟩
 by_cases ha:a<0
 ·exact ToP.seq_out (by kernel_rfl) (by simp) ((jrQ hc ha s).mono fun y hy=>⟨cs,4,.refl hc,hy⟩)
 refine ToP.seq (by kernel_rfl) (jrR hc ha s) ?_
 rintro x ⟨s,rfl⟩
 refine ToP.seq (by kernel_rfl) (jrS hc (by omega) h1 s) ?_
 rintro x ⟨s,rfl⟩
 refine ToP.seq (by kernel_rfl) (jrT (tt:=tt) hc s) ?_
 rintro x ⟨s,rfl⟩
 refine ToP.seq (by kernel_rfl) (jrU (tt:=tt) hc s) ?_
 rintro x ⟨s,rfl⟩
 refine ToP.seq (by kernel_rfl) (jrV (tt:=tt) hc s) ?_
 rintro x ⟨s,rfl⟩
 refine ToP.seq (by kernel_rfl) (B:=jA (qE f g m n cs [nzp 4 44 0,nzp 5 45 0,nzi 8 0,nzp 14 49 0,nzp 15 50 0,nzp 17 52 0] [(44,⟨74,(0,0),0,[qL (.ptr 21 0)],none⟩),(45,⟨82,(0,0),0,[qL (.ptr 11 72)],none⟩),(49,⟨36,(0,0),0,[qH,qH,qH],none⟩),(50,⟨36,(0,0),0,[qH,qH,qH],none⟩),(52,⟨34,(0,0),0,[qI 1073741824,qH,qH,qH],none⟩)] 53)) ?_ ?_
 ·by_cases hq:s.F 51 0<0
  ·exact jnd (tt:=tt) hc s hq
  ·exact jnc (tt:=tt) hc s hq
 rintro x ⟨s,rfl⟩
 refine ToP.seq (by kernel_rfl) (jrW (tt:=tt) hc s) ?_
 rintro x ⟨s,rfl⟩
 refine ToP.seq (by kernel_rfl) (jrX hc hm s) ?_
 rintro x ⟨cs',h,s,rfl⟩
 exact (jrY h.all s).mono fun y hy=>⟨cs',0,h,hy⟩
end Go.Proofs.YtbpfipbhaagllaaGreat

/- TopNow: the step behind the tilt: the call of Correct. -/
namespace Go.Proofs.YtbpfipbhaagllaaGreat
open Go.Lr
set_option maxRecDepth 100000
def smP (dl k t:Int) (n m:Nat) (cs:List At):PS2:=⟨[nzp 190 21 0,nzp 191 11 72,(195,.agg (rq 24 (qH))),(197,.one (qS (8000*t)))],[nzX (mF0 dl qO (nzv 38 n) (qS (8000*t))),kr,nzD (k+1),kt,nzP (nzv 41 m)]++(ku++[nzO 41 cs,nzQ 38 (t+1) n]),44⟩
def jcb (s:Asg) (dl k t:Int) (n m:Nat) (cs:List At):Kst:=je s (smP dl k t n m cs)
def jt2 (s:Asg):Asg:=⟨s.F,s.G,fun a i=>if a=2 then s.fs 195 i else s.fs a i,s.gs⟩
def smA (f:Nat→Int) (g:Nat→Bool) (n m:Nat) (cs:List At) (tt:Int):PS2:=qE f g m n cs [nzp 0 21 0,nzp 1 11 72,(2,.agg (rq 24 (qH))),(3,.one (qS tt))] [] 44
def jt3 (s:Asg) (dl k t:Int) (n m:Nat) (cs:List At):Kst:=je (jt2 s) (smA (fOf (jcb s dl k t n m cs)) (gOf (jcb s dl k t n m cs)) n m cs (8000*t))
def jt4 (s:Asg) (dl k t:Int) (n m:Nat) (cs:List At):List LV:=(jt3 s dl k t n m cs).live.map (·.2)
def jpM (t:Int) (n:Nat):Mem:=[(38,⟨58,(0,0),8,jO (t+1) n⟩)]
theorem jt5 {dl k t:Int} {n m:Nat} {cs:List At} (s:Asg):(jcb s dl k t n m cs).mem=(jt3 s dl k t n m cs).mem++jpM t n:=by kernel_rfl
theorem jgR {t:Int} {n:Nat} {i:Nat} (h:(getM (jpM t n) i).isSome):i=38:=by
 unfold jpM at h
 rw [jm] at h
 split at h
 ·assumption
 ·cases h
theorem jl0 {dl k t:Int} {n m:Nat} {cs:List At} (hc:AllI cs (m*11)) (hp:1≤m) (hm:m≤32) (s:Asg):
  ToP Tryz.prog 99 KF ⟨jS 0 (jt4 s dl k t n m cs),(jcb s dl k t n m cs).mem,(jcb s dl k t n m cs).nb⟩ .ret (fun y=>∃x,(∃cs' v,SameT cs cs' m∧jA (qE (fOf (jcb s dl k t n m cs)) (gOf (jcb s dl k t n m cs)) m n cs' [nzi 8 v] [] 53) x)∧y=⟨x.live,x.mem++jpM t n,x.nb⟩):=by
 have h:=jeP (f:=fOf (jcb s dl k t n m cs)) (g:=gOf (jcb s dl k t n m cs)) (n:=n) (tt:=8000*t) hc hm hp (jt2 s)
 have e:je (jt2 s) (smA (fOf (jcb s dl k t n m cs)) (gOf (jcb s dl k t n m cs)) n m cs (8000*t))=⟨jS 0 (jt4 s dl k t n m cs),(jt3 s dl k t n m cs).mem,44⟩:=by kernel_rfl
 have e2:(jcb s dl k t n m cs).nb=44:=by kernel_rfl
 unfold smA at e
 rw [e] at h
 rw [jt5,e2]
 refine ToP.frame h ?_ (fun i hi=> ?_) (fun x hx i hi=> ?_) (fun x hx=> ?_)
 ·rw [←e]
  exact jmy (by kernel_rfl) (by kernel_rfl) (cs:=cs) (ty:=38) (by kernel_rfl) hc.ok
 ·obtain rfl:=jgR hi
  kernel_rfl
 ·obtain ⟨cs',v,h1,s',rfl⟩:=hx
  obtain rfl:=jgR hi
  kernel_rfl
 ·obtain ⟨cs',v,h1,s',rfl⟩:=hx
  exact yg 38 41 (t+1) n h1.all.ok
def smE (dl k t:Int) (n m:Nat) (cs:List At):PS2:=⟨[],[nzX (mF0 dl qO (nzv 38 n) (qS (8000*t))),kr,nzD (k+1),kt,nzP (nzv 41 m)]++(ku++[nzO 41 cs,nzQ 38 (t+1) n]),53⟩
theorem jiN {dl k t:Int} {n m:Nat} {cs:List At} (hc:AllI cs (m*11)) (hp:1≤m) (hm:m≤32) (s:Asg):
  ToO Tryz.prog 199 (xL (c1 (c2 (c2 (c2 (c2 (c2 (c2 (c2 (c2 (c2 (c2 (c2 (smZ)))))))))))))) 11 1 (je s (smP dl k t n m cs)) (fun y=>∃cs',SameT cs cs' m∧jA (smE dl k t n m cs') y):=by
 refine ToO.weak (ToO.callK (sz:=199) (c:=KF) (A:=jcb s dl k t n m cs) (t:=198) (f:=61) (args:=jt4 s dl k t n m cs) (e:= .ret) (v:=fun x=>(jdM 8 x.live).getD (I 0)) soundGC [] (fun dead=>by kernel_rfl) Tryz.func61 (by kernel_rfl) (by kernel_rfl) (by kernel_rfl) (by kernel_rfl) (jl0 hc hp hm s) (.inr rfl) ?_ ?_) ?_
 ·rintro y ⟨x,⟨cs',v,h1,s',rfl⟩,rfl⟩ dead
  kernel_rfl
 ·rintro y ⟨x,⟨cs',v,h1,s',rfl⟩,rfl⟩
  exact yg 38 41 (t+1) n h1.all.ok
 ·rintro z ⟨y,⟨x,⟨cs',v,h1,s',rfl⟩,rfl⟩,rfl⟩
  refine ⟨je ⟨s.F,fun b i=>if b=11 then s'.G b i else s.G b i,s.fs,s.gs⟩ (smE dl k t n m cs'),[(198,I v)],⟨cs',h1,_,rfl⟩,yg 38 41 (t+1) n h1.all.ok,by kernel_rfl,fun i b hb=> ?_,by kernel_rfl⟩
  have e1:(je ⟨s.F,fun b i=>if b=11 then s'.G b i else s.G b i,s.fs,s.gs⟩ (smE dl k t n m cs')).mem=(je s' (qE (fOf (jcb s dl k t n m cs)) (gOf (jcb s dl k t n m cs)) m n cs' [nzi 8 v] [] 53)).mem++jpM t n:=by kernel_rfl
  rw [e1] at hb
  exact hb
theorem jl1 {dl k t:Int} {n m:Nat} {cs:List At} (hc:AllI cs (m*11)) (hp:1≤m) (hm:m≤32) (s:Asg):
  ToP Tryz.prog 199 (c2 (c2 (c2 (c2 (c2 (c2 (c2 (c2 (c2 (c2 (c2 smZ))))))))))) (je s (juP dl k t n m cs)) .normal (fun y=>∃cs',SameT cs cs' m∧jA (smE dl k t n m cs') y):=by
 refine ToP.cond (t:=186) (b:=true) (by kernel_rfl) (by kernel_rfl) ?_
 show ToP Tryz.prog 199 (c1 (c2 (c2 (c2 (c2 (c2 (c2 (c2 (c2 (c2 (c2 (c2 (smZ))))))))))))) _ _ _
 refine ToP.draw (by kernel_rfl) fun id=> ?_
 exact ToP.drawCall (m:=11) (z:=⟨false,false,false⟩) (dec:=[]) (mask:=[]) (os:=[]) (es:=Kv (smP dl k t n m cs)) (p:=smP dl k t n m cs) soundGC (by kernel_rfl) (by kernel_rfl) (by kernel_rfl) (by kernel_rfl) (fun dead=>by kernel_rfl) jd (ke _)
  (fun s=>yg 38 41 (t+1) n hc.ok) (by kernel_rfl) (jiN hc hp hm)
end Go.Proofs.YtbpfipbhaagllaaGreat

/- TopNow: the step, Imu behind the tilt as a whole. -/
namespace Go.Proofs.YtbpfipbhaagllaaGreat
open Go.Lr
set_option maxRecDepth 100000
theorem jv2 {dl k t:Int} {n m:Nat} {cs:List At} (hc:AllI cs (m*11)) (hp:1≤m) (hm:m≤32) (s:Asg):ToP Tryz.prog 199 smZ (je s (jhX dl k t n m cs)) .normal (fun y=>∃cs',SameT cs cs' m∧jA (smE dl k t n m cs') y):=by
 refine ToP.seq (by kernel_rfl) (sm0 hc.ok s) ?_
 rintro x ⟨s,rfl⟩
 refine ToP.seq (by kernel_rfl) (sm1 hc.ok s) ?_
 rintro x ⟨s,rfl⟩
 refine ToP.seq (by kernel_rfl) (sm2 hc.ok s) ?_
 rintro x ⟨s,rfl⟩
 refine ToP.seq (by kernel_rfl) (sm3 hc.ok s) ?_
 rintro x ⟨s,rfl⟩
 refine ToP.seq (by kernel_rfl) (sm4 hc.ok s) ?_
 rintro x ⟨s,rfl⟩
 refine ToP.seq (by kernel_rfl) (sm5 hc.ok s) ?_
 rintro x ⟨s,rfl⟩
 refine ToP.seq (by kernel_rfl) (sm6 hc.ok s) ?_
 rintro x ⟨s,rfl⟩
 refine ToP.seq (by kernel_rfl) (sm7 hc.ok s) ?_
 rintro x ⟨s,rfl⟩
 refine ToP.seq (by kernel_rfl) (sm8 hc.ok s) ?_
 rintro x ⟨s,rfl⟩
 refine ToP.seq (by kernel_rfl) (sm9 hc.ok s) ?_
 rintro x ⟨s,rfl⟩
 refine ToP.seq (by kernel_rfl) (jv1 hc.ok s) ?_
 rintro x ⟨s,rfl⟩
 exact jl1 hc hp hm s
def jb (k:Int):Nat×PB2:=nzB 35 (8000*(k+1))
def mqS (dl k t:Int) (n m:Nat) (cs:List At) (live:List (Nat×PV2)) (r:List (Nat×PB2)) (nb:Nat):PS2:=⟨live,(smE dl k t n m cs).mem++r,nb⟩
def mqR (dl k t:Int) (n m:Nat) (cs:List At):PS2:=⟨[nzp 0 11 0,nzi 4 0,nzi 5 0,nzp 6 35 0,nzi 9 0,nzp 96 11 0,(97,.agg (nzA (8000*t)))],(jhX dl k t n m cs).mem++[jb k],42⟩
def mqL (s:Asg) (dl k t:Int) (n m:Nat) (cs:List At):List LV:=(je s (jhX dl k t n m cs)).live.map (·.2)
def mqJ (k:Int):Mem:=[(35,⟨58,(0,0),0,(nzI (8000*(k+1)))⟩)]
theorem jjA {k:Int} {i:Nat} (h:(getM (mqJ k) i).isSome):i=35:=by
 unfold mqJ at h
 rw [jm] at h
 split at h
 ·assumption
 ·cases h
theorem jsq {dl k t:Int} {n m:Nat} {cs:List At} (hc:okL noP cs=true) (s:Asg):ToO Tryz.prog 102 (xL (c1 (c2 (c2 (c1 (c2 (c1 (c1 (c1 (c2 (c2 (c2 (c2 (c2 (c2 (imZ)))))))))))))))) 0 2 (je s (msr dl k t n m cs)) (jA (mqR dl k t n m cs)):=
 ToO.run2 (z:=⟨false,false,false⟩) (n:=20000) (dec:=[]) (mask:=[]) (os:=[]) (es:=Kv (mqR dl k t n m cs)) soundGC (by kernel_rfl) (by kernel_rfl) (fun dead=>by kernel_rfl) jd (ke _) (fun s=>yg 38 41 (t+1) n hc) (by kernel_rfl)
theorem jlc {dl k t:Int} {n m:Nat} {cs:List At} (hc:AllI cs (m*11)) (hp:1≤m) (hm:m≤32) (s:Asg):
  ToP Tryz.prog 199 smZ ⟨jS 0 (mqL s dl k t n m cs),(je s (mqR dl k t n m cs)).mem,(je s (mqR dl k t n m cs)).nb⟩ .normal (fun y=>∃x,(∃cs',SameT cs cs' m∧jA (smE dl k t n m cs') x)∧y=⟨x.live,x.mem++mqJ k,x.nb⟩):=by
 have h:=jv2 (dl:=dl) (k:=k) (t:=t) (n:=n) hc hp hm s
 have e:je s (jhX dl k t n m cs)=⟨jS 0 (mqL s dl k t n m cs),(je s (jhX dl k t n m cs)).mem,42⟩:=by kernel_rfl
 have e1:(je s (mqR dl k t n m cs)).mem=(je s (jhX dl k t n m cs)).mem++mqJ k:=by kernel_rfl
 have e2:(je s (mqR dl k t n m cs)).nb=42:=by kernel_rfl
 have hK:KstOK (je s (jhX dl k t n m cs)):=yg 38 41 (t+1) n hc.ok
 have hn:∀i,(getM (mqJ k) i).isSome→getM (je s (jhX dl k t n m cs)).mem i=none:=fun i hi=>by
  obtain rfl:=jjA hi
  kernel_rfl
 rw [e] at h hK
 rw [e1,e2]
 refine ToP.frame h hK hn (fun x hx i hi=> ?_) (fun x hx=> ?_)
 ·obtain ⟨cs',h1,s',rfl⟩:=hx
  obtain rfl:=jjA hi
  kernel_rfl
 ·obtain ⟨cs',h1,s',rfl⟩:=hx
  exact yg 38 41 (t+1) n h1.all.ok
theorem jsr {dl k t:Int} {n m:Nat} {cs:List At} (hc:AllI cs (m*11)) (hp:1≤m) (hm:m≤32) (s:Asg):
  ToO Tryz.prog 102 (xL (c1 (c2 (c2 (c1 (c2 (c1 (c1 (c1 (c2 (c2 (c2 (c2 (c2 (c2 (imZ)))))))))))))))) 2 1 (je s (mqR dl k t n m cs)) (fun y=>∃cs',SameT cs cs' m∧jA (mqS dl k t n m cs' [nzp 0 11 0,nzi 4 0,nzi 5 0,nzp 6 35 0,nzi 9 0] [jb k] 53) y):=by
 refine ToO.less (ToO.callK (sz:=102) (c:=smZ) (A:=je s (mqR dl k t n m cs)) (t:=98) (f:=28) (args:=mqL s dl k t n m cs) (e:= .normal) (v:=fun _=> .tup []) soundGC [0,4,5,6,9] (fun dead=>by kernel_rfl) Tryz.func28 (by kernel_rfl) (by kernel_rfl) (by kernel_rfl) (by kernel_rfl) (jlc hc hp hm s) (.inl rfl) ?_ ?_) ?_
 ·rintro y ⟨x,⟨cs',h1,s',rfl⟩,rfl⟩ dead
  kernel_rfl
 ·rintro y ⟨x,⟨cs',h1,s',rfl⟩,rfl⟩
  exact yg 38 41 (t+1) n h1.all.ok
 ·rintro z ⟨y,⟨x,⟨cs',h1,s',rfl⟩,rfl⟩,rfl⟩
  exact ⟨je s' (mqS dl k t n m cs' [nzp 0 11 0,nzi 4 0,nzi 5 0,nzp 6 35 0,nzi 9 0] [jb k] 53),[(98,.tup [])],[],⟨cs',h1,s',rfl⟩,yg 38 41 (t+1) n h1.all.ok,by kernel_rfl,by kernel_rfl,by kernel_rfl⟩
theorem jss {dl k t:Int} {n m:Nat} {cs:List At} (hc:AllI cs (m*11)) (hp:1≤m) (hm:m≤32) (s:Asg):ToP Tryz.prog 102 (c1 (c2 (c2 (c1 (c2 (c1 (c1 (c1 (c2 (c2 (c2 (c2 (c2 (c2 (imZ))))))))))))))) (je s (msr dl k t n m cs)) .normal (fun y=>∃cs',SameT cs cs' m∧jA (mqS dl k t n m cs' [nzp 0 11 0,nzi 4 0,nzi 5 0,nzp 6 35 0,nzi 9 0] [jb k] 53) y):=by
 refine ToP.of_ToO (n:=3) (by kernel_rfl) (by kernel_rfl) (ToO.seq (m:=2) (m':=1) (jsq hc.ok s) ?_)
 rintro x ⟨s,rfl⟩
 exact jsr hc hp hm s
theorem jst {dl k t:Int} {n m:Nat} {cs:List At} (hc:okL noP cs=true) (s:Asg):ToP Tryz.prog 102 (c2 (c2 (c2 (c1 (c2 (c1 (c1 (c1 (c2 (c2 (c2 (c2 (c2 (c2 (imZ))))))))))))))) (je s (mqS dl k t n m cs [nzp 0 11 0,nzi 4 0,nzi 5 0,nzp 6 35 0,nzi 9 0] [jb k] 53)) .normal (jA (mqS dl k t n m cs [nzp 0 11 0,nzi 4 0,nzi 5 0,nzp 6 35 0,nzi 9 1] [jb k] 53)):=
 nst soundGC [38,41] [] [] [] (fun s=>xP (t+1) n hc) jd
theorem jv3 {dl k t:Int} {m:Nat} {cs:List At} (hc:okL noP cs=true) (s:Asg):ToP Tryz.prog 102 (c1 (c1 (c1 (c2 (c2 (c2 (c2 (c2 (c2 (imZ)))))))))) (je s (mqS dl k t 0 m cs [nzp 0 11 0,nzi 4 0,nzi 5 0,nzp 6 35 0,nzi 9 1] [jb k] 53)) (.exit 0) (jA (mqS dl k t 0 m cs [nzp 0 11 0,nzi 4 0,nzi 5 0,nzi 9 1] [] 53)):=
 nst soundGC [38,41] [false,false,false,false,false,false,false,false,false,false,false,false,false,false,false,false,false,false] (ff 18 []) [] (fun s=>xP (t+1) 0 hc) jd
theorem jv4 {dl k t:Int} {n m:Nat} {cs:List At} (hc:okL noP cs=true) (h0:0≤k) (h1:k≤1000) (d0:0≤dl) (d1:dl≤300000) (hs:8000*(k+1) - dl<8000*(t+1)) (s:Asg):ToP Tryz.prog 102 (c1 (c1 (c1 (c2 (c2 (c2 (c2 (c2 (c2 (imZ)))))))))) (je s (mqS dl k t (n+1) m cs [nzp 0 11 0,nzi 4 0,nzi 5 0,nzp 6 35 0,nzi 9 1] [jb k] 53)) (.exit 0) (jA (mqS dl k t (n+1) m cs [nzp 0 11 0,nzi 4 0,nzi 5 0,nzi 9 1] [] 53)):=
 nst soundGC [38,41] [true,true,true,true,true,true,true,true,true,true,true,true,false,true,true,true,true,true,true,true] (tt 17 (ff 1 [])) (ra 1 (decide (8000*(t+1)≤wr .i64 (8000*(k+1) - dl)),false) (ra 13 (decide (((n+1:Nat):Int)>0),true) (ra 1 (decide ((0:Int)≤0)&&decide ((0:Int)<((n+1:Nat):Int)),true) (ra 4 (decide (((n+1:Nat):Int)>0),true) [])))) (fun s=>xP (t+1) (n+1) hc) (j9 (decide_eq_false (by rw [Go.Lr.w1 (by omega)];omega)) (j9 (decide_eq_true (by omega)) (j9 (by rw [decide_eq_true (Int.le_refl 0),decide_eq_true (by omega)];rfl) (j9 (decide_eq_true (by omega)) jd _) _) _) _)
theorem jv5 {dl k t:Int} {n m:Nat} {cs:List At} (hc:okL noP cs=true) (s:Asg):ToP Tryz.prog 102 (c1 (c2 (c2 (c2 (c2 (c2 (c2 (c2 (imZ))))))))) (je s (mqS dl k t n m cs [nzp 0 11 0,nzi 4 0,nzi 5 0,nzi 9 1] [] 53)) .normal (jA (mqS dl k t n m cs [nzp 0 11 0,nzi 4 1,nzi 5 0] [] 53)):=
 nst soundGC [38,41] [] [] [] (fun s=>xP (t+1) n hc) jd
theorem jv6 {dl k t:Int} {n m:Nat} {cs:List At} (hc:okL noP cs=true) (s:Asg):ToP Tryz.prog 102 (c2 (c2 (c2 (c2 (c2 (c2 (c2 (c2 (imZ))))))))) (je s (mqS dl k t n m cs [nzp 0 11 0,nzi 4 1,nzi 5 0] [] 53)) .ret (jA (mqS dl k t n m cs [nzp 0 11 0,nzi 4 1,nzi 5 0] [] 53)):=
 nst soundGC [38,41] [] [] [] (fun s=>xP (t+1) n hc) jd
theorem OutL.same {cs cs':List At} {m:Nat} {T:Int} (h:OutL cs m T) (k:SameT cs cs' m):OutL cs' m T:=⟨k.all,h.pos,by
 have hp:=h.pos
 rw [k.at_ (m - 1) (by omega)]
 exact h.last⟩
theorem jv7 {dl k t:Int} {n m:Nat} {cs:List At} (hc:okL noP cs=true) (s:Asg):(⟨qF (swp [(47,38),(43,41),(46,37)]) (je s (jha dl k t n m cs)).live,zG (swp [(47,38),(43,41),(46,37)]) (je s (jha dl k t n m cs)).mem,42⟩:Kst)=je s (msr dl k t n m cs):=by
 have hK:KstOK (je s (jha dl k t n m cs)):=yg 47 43 (t+1) n hc
 have hraw:Jx [47,43] (je s (jha dl k t n m cs)).mem:=qu hK.uq fun j hj b hb=>jhW (A:=je s (jha dl k t n m cs)) (tq:=58) (to:=38) (t:=t+1) (n:=n) (by kernel_rfl) (by kernel_rfl) hc j b hb hj
 rw [qt hraw]
 show (_:Kst)=_
 kernel_rfl
theorem jld {dl k t:Int} {n m:Nat} {cs:List At} (hO:OutL cs m (8000*k)) (hm:m≤32) (hk:k+1=t+n) (hn:n≤1000) (h0:0≤k) (h1:k≤1000) (d0:0≤dl) (d1:dl≤300000) (d2:dl≤8000*n) (d3:n=0∨8000*((n:Int) - 1)<dl) (s:Asg):
  ToP Tryz.prog 102 imZ (je s (ms0 dl k t n m cs)) .ret (fun y=>∃cs' m',OutL cs' m' (8000*(k+1))∧m'≤32∧jA (mqS dl k t n m' cs' [nzp 0 11 0,nzi 4 1,nzi 5 0] [] 53) y):=by
 have hc:=hO.all.ok
 refine ToP.of_ToR (N:=31) ?_ (by kernel_rfl) (by rintro x ⟨cs',m',h1,h2,s,rfl⟩;kernel_rfl)
 refine ToR.seq (by kernel_rfl) (ToR.of_ToP (im0 hc s) (by kernel_rfl)) ?_
 rintro x ⟨s,rfl⟩
 refine ToR.seq (by kernel_rfl) (ToR.of_ToP (im1 hc h0 h1 s) (by kernel_rfl)) ?_
 rintro x ⟨s,rfl⟩
 refine ToR.seq (by kernel_rfl) (ToR.of_ToP (im2 hc s) (by kernel_rfl)) ?_
 rintro x ⟨s,rfl⟩
 refine ToR.seq (by kernel_rfl) (ToR.of_ToP (ToP.seq (by kernel_rfl) (im3 hc s) ?_) (by kernel_rfl)) (B:=fun y=>∃cs' m',OutL cs' m' (8000*(k+1))∧m'≤32∧jA (ms7 dl k t n m' cs') y) ?_
 ·rintro x ⟨s,rfl⟩
  exact jlb hO hm s
 rintro x ⟨cs',m',hO',hm',s,rfl⟩
 have hc':=hO'.all.ok
 refine ToR.seq (by kernel_rfl) (ToR.of_ToP (im4 hc' hk hn s) (by kernel_rfl)) ?_
 rintro x ⟨s,rfl⟩
 refine ToR.seq (by kernel_rfl) (ToR.of_ToP (im5 hc' s) (by kernel_rfl)) ?_
 rintro x ⟨s,rfl⟩
 refine ToR.seq (by kernel_rfl) (B:=fun y=>∃c2,SameT cs' c2 m'∧jA (mqS dl k t n m' c2 [nzp 0 11 0,nzi 4 0,nzi 5 0,nzi 9 1] [] 53) y) (ToR.block (id:=0) (e:= .exit 0) (by kernel_rfl) (ToR.loop (m:=2) (by kernel_rfl) (RdR.next (B:=fun y=>∃c2,SameT cs' c2 m'∧jA (mqS dl k t n m' c2 [nzp 0 11 0,nzi 4 0,nzi 5 0,nzp 6 35 0,nzi 9 1] [jb k] 53) y) ?_ ?_)) (.inl rfl)) ?_
 ·refine ToR.seq (by kernel_rfl) (ToR.of_ToP (imA hc' h0 h1 d0 d1 (by omega) s) (by kernel_rfl)) ?_
  rintro x ⟨s,rfl⟩
  refine ToR.block (id:=1) (e:= .normal) (by kernel_rfl) ?_ (.inr rfl)
  refine ToR.seq (by kernel_rfl) (ToR.of_ToP (jv0 hc' s) (by kernel_rfl)) ?_
  rintro x ⟨s,rfl⟩
  refine ToR.seq (by kernel_rfl) (B:=jA (msr dl k t n m' cs')) (ToR.ren (ToR.of_ToP (jsn hc' s) (by kernel_rfl)) [(47,38),(43,41),(46,37)] (by kernel_rfl) ?_) ?_
  ·rintro x ⟨s,rfl⟩
   refine ⟨42, ?_⟩
   have e:=jv7 (dl:=dl) (k:=k) (t:=t) (n:=n) (m:=m') hc' s
   show KstOK (⟨qF (swp [(47,38),(43,41),(46,37)]) (je s (jha dl k t n m' cs')).live,zG (swp [(47,38),(43,41),(46,37)]) (je s (jha dl k t n m' cs')).mem,42⟩:Kst)∧jA (msr dl k t n m' cs') ⟨qF (swp [(47,38),(43,41),(46,37)]) (je s (jha dl k t n m' cs')).live,zG (swp [(47,38),(43,41),(46,37)]) (je s (jha dl k t n m' cs')).mem,42⟩
   rw [e]
   exact ⟨yg 38 41 (t+1) n hc',s,rfl⟩
  rintro x ⟨s,rfl⟩
  refine ToR.seq (by kernel_rfl) (ToR.of_ToP (jss hO'.all hO'.pos hm' s) (by kernel_rfl)) ?_
  rintro x ⟨c2,h2,s,rfl⟩
  exact (ToR.of_ToP (jst h2.all.ok s) (by kernel_rfl)).mono fun y hy=>⟨c2,h2,hy⟩
 ·rintro x ⟨c2,h2,s,rfl⟩
  refine RdR.last (by simp) ?_
  cases n with
  | zero=>exact (ToR.of_ToP (jv3 h2.all.ok s) (by kernel_rfl)).mono fun y hy=>⟨c2,h2,hy⟩
  | succ n=>exact (ToR.of_ToP (jv4 h2.all.ok h0 h1 d0 d1 (by rcases d3 with d3 | d3 <;> omega) s) (by kernel_rfl)).mono fun y hy=>⟨c2,h2,hy⟩
 rintro x ⟨c2,h2,s,rfl⟩
 refine ToR.seq (by kernel_rfl) (ToR.of_ToP (jv5 h2.all.ok s) (by kernel_rfl)) ?_
 rintro x ⟨s,rfl⟩
 exact (ToR.of_ToP (jv6 h2.all.ok s) (by kernel_rfl)).mono fun y hy=>⟨c2,m',hO'.same h2,hm',hy⟩
end Go.Proofs.YtbpfipbhaagllaaGreat

/- TopNow: Push on outputs of unknown number (they lie in block 41). -/
namespace Go.Proofs.YtbpfipbhaagllaaGreat
open Go.Lr
set_option maxRecDepth 100000
noncomputable abbrev jq4:Code:=jj Tryz.prog 27
def Xq (f:Nat→Int) (g:Nat→Bool) (n:Nat) (live:List (Nat×PV2)) (o m:Nat) (cs:List At) (nb:Nat):PS2:=
 ⟨live,nM f g qO (nzv 38 n) (.raw (.slv o m)) [(o,⟨38,(0,0),11,[],some cs⟩)],nb⟩
def jq5 (f:Nat→Int) (g:Nat→Bool) (n m:Nat) (cs:List At) (T:Int):PS2:=
 Xq f g n [nzp 0 21 0,nzp 1 11 72,(2,.agg (rq 24 (qH))),(3,.agg [qS T,qI 8000,qI 0,qI 0,qI 0,qI 0,qI 0,qI (-84238486)])] 41 m cs 43
noncomputable def jih (f:Nat→Int) (g:Nat→Bool) (n m:Nat) (cs:List At) (T:Int) (b:Bool) (s:Asg) (dead:Nat→Go.Value):Option (Out×St):=
 Go.Lr.exec Tryz.prog GC ⟨false,false,false⟩ 20000 (.code jq4) ((je s (jq5 f g n m cs T)).st 77 dead [some false,none,none,none,none,none,none,some false,some b])
noncomputable def YK (f:Nat→Int) (g:Nat→Bool) (n m:Nat) (cs:List At) (T:Int) (b:Bool) (s:Asg) (dead:Nat→Go.Value):List At:=XG (cs.take (m*11)) (yI 52 (jih f g n m cs T b s dead))
noncomputable def jq6 (f:Nat→Int) (g:Nat→Bool) (n m:Nat) (cs:List At) (T:Int) (s:Asg) (dead:Nat→Go.Value):List At:=XG [] (((YK f g n m cs T true s dead).drop 11).take (m*11))
section
variable {f:Nat→Int} {g:Nat→Bool} {n m:Nat} {cs:List At} {T:Int}
theorem jps (s:Asg) (dead:Nat→Go.Value):(j8 (yI 52 (jih f g n m cs T false s dead)),(yI 52 (jih f g n m cs T false s dead)).length,intAt (yI 52 (jih f g n m cs T false s dead)) 0)=(true,11,T):=by kernel_rfl
theorem jjO (s:Asg) (dead:Nat→Go.Value):(j8 (yI 52 (jih f g n m cs T true s dead)),(yI 52 (jih f g n m cs T true s dead)).length,intAt (yI 52 (jih f g n m cs T true s dead)) 0)=(true,11,T):=by kernel_rfl
def jq7 (f:Nat→Int) (m:Nat) (cs:List At) (T:Int) (b:Bool):List (Bool×Bool):=
 [(decide (((m+1:Nat):Int)>f 600),b),(Nat.ble ((m+1)*89) 140737488355328&&true,true),(decide (m*11≤cs.length),true),(decide (T≤intAt cs ((wr .i64 ((m:Int) - 1)).toNat*11)),false),(jV cs ((wr .i64 ((m:Int) - 1)).toNat*11) 11&&decide (11≠0),true),(decide (0≤wr .i64 ((m:Int) - 1))&&decide (wr .i64 ((m:Int) - 1)<(m:Int)),true),(((m:Int)==0),false)]
theorem jpt (s:Asg) (dead:Nat→Go.Value):
  ql (Xq f g n [nzi 8 0] 47 (m+1) (YK f g n m cs T false s dead) (47+1)) .ret (Xr 7 []) (ju [8] [11,18,19,20,21,22,23,24,25,26,27,47] (jih f g n m cs T false s dead)) =
   some (jq7 f m cs T false,Kv (Xq f g n [nzi 8 0] 47 (m+1) (YK f g n m cs T false s dead) (47+1))):=by kernel_rfl
theorem jpu (s:Asg) (dead:Nat→Go.Value):
  ql (Xq f g n [nzi 8 0] 50 (0+m) (jq6 f g n m cs T s dead) (50+1)) .ret (Xr 1 (jq9 1 (Xr 9 []))) (ju [8] [11,18,19,20,21,22,23,24,25,26,27,50] (jih f g n m cs T true s dead)) =
   some ((Nat.ble ((0+m)*89) 140737488355328&&Nat.ble 1 m,true)::(decide (m*11≤((YK f g n m cs T true s dead).drop 11).length)&&kK (((YK f g n m cs T true s dead).drop 11).take (m*11)),true)::(decide (0+1≤m+1)&&decide ((YK f g n m cs T true s dead).length=(m+1)*11),true)::jq7 f m cs T true,Kv (Xq f g n [nzi 8 0] 50 (0+m) (jq6 f g n m cs T s dead) (50+1))):=by kernel_rfl
theorem jfY {T0:Int} {b:Bool} (h:OutL cs m T0) (hm:m≤32) (hT:T0<T) (hb:decide (((m+1:Nat):Int)>f 600)=b):∀c∈jq7 f m cs T b,c.1=c.2:=by
 have hp:=h.pos
 have hlen:=h.all.len
 have ew:(wr .i64 ((m:Int) - 1))=(m:Int) - 1:=Go.Lr.w1 (by omega)
 have et:((m:Int) - 1).toNat=m - 1:=by omega
 have e1:(Nat.ble ((m+1)*89) 140737488355328&&true)=true:=by rw [Kx];simp;omega
 have e2:decide (m*11≤cs.length)=true:=decide_eq_true (by omega)
 have e3:decide (T≤intAt cs ((wr .i64 ((m:Int) - 1)).toNat*11))=false:=by rw [ew,et,h.last];exact decide_eq_false (by omega)
 have e4:(jV cs ((wr .i64 ((m:Int) - 1)).toNat*11) 11&&decide (11≠0))=true:=by rw [ew,et,h.all.areI 11 _ (by omega)];rfl
 have e5:(decide (0≤wr .i64 ((m:Int) - 1))&&decide (wr .i64 ((m:Int) - 1)<(m:Int)))=true:=by rw [ew];simp;omega
 have e6:((m:Int)==0)=false:=by simp;omega
 intro c hc
 unfold jq7 at hc
 rw [hb,e1,e2,e3,e4,e5,e6] at hc
 simp only [List.mem_cons,List.not_mem_nil,or_false] at hc
 rcases hc with rfl | rfl | rfl | rfl | rfl | rfl | rfl <;> rfl
theorem Z3 {o nb:Nat} {ds:List At} {live:List (Nat×PV2)} (hd:okL noP ds=true) (s:Asg) (h1:kE (je s (Xq f g n live o m ds nb)).nb (je s (Xq f g n live o m ds nb)).live=true) (h2:yZ (je s (Xq f g n live o m ds nb)).nb [o] (je s (Xq f g n live o m ds nb)).mem=true)
  (h3:getM (je s (Xq f g n live o m ds nb)).mem o=some ⟨38,(0,0),11,ds⟩):KstOK (je s (Xq f g n live o m ds nb)):=
 q8 [o] h1 h2 fun i x hx hi=>by
  simp only [List.mem_singleton] at hi
  subst hi
  rw [h3] at hx
  cases hx
  exact hd
theorem jlB {T0:Int} (h:OutL cs m T0) (hm:m≤32) (hT:T0<T) (hf:f 600=32) (s:Asg):
  ToP Tryz.prog 77 jq4 (je s (jq5 f g n m cs T)) .ret (fun y=>∃cs' m',OutL cs' m' T∧m'≤32∧jA (Xq f g n [nzi 8 0] 50 m' cs' (50+1)) y):=by
 by_cases hc:m+1≤32
 ·have hk:∀dead,OutL (YK f g n m cs T false s dead) (m+1) T:=fun dead=>by
   have e:=jps (f:=f) (g:=g) (n:=n) (m:=m) (cs:=cs) (T:=T) s dead
   simp only [Prod.mk.injEq] at e
   exact KW h e.1 e.2.1 e.2.2
  refine ToP.ren (ToP.runD (z:=⟨false,false,false⟩) (n:=20000) (dec:=[some false,none,none,none,none,none,none,some false,some false]) (p:=fun dead=>Xq f g n [nzi 8 0] 47 (m+1) (YK f g n m cs T false s dead) (47+1)) soundGC (fun dead=>jpt s dead) (fun dead=>jfY h hm hT (by rw [hf];exact decide_eq_false (by omega))) (fun dead=>ke _)
   (fun dead s'=>Z3 (hk dead).all.ok s' (by kernel_rfl) (by kernel_rfl) (by kernel_rfl)) (fun dead=>Nat.le_of_ble_eq_true (by kernel_rfl))) [(47,50)] (by kernel_rfl) ?_
  rintro x ⟨dead,s',rfl⟩
  have hraw:Jx [47] (je s' (Xq f g n [nzi 8 0] 47 (m+1) (YK f g n m cs T false s dead) (47+1))).mem:=qu (Z3 (hk dead).all.ok s' (by kernel_rfl) (by kernel_rfl) (by kernel_rfl)).uq fun i hi b hb=>by
   simp only [List.mem_singleton] at hi
   subst hi
   have e:getM (je s' (Xq f g n [nzi 8 0] 47 (m+1) (YK f g n m cs T false s dead) (47+1))).mem 47=some ⟨38,(0,0),11,YK f g n m cs T false s dead⟩:=by kernel_rfl
   rw [e] at hb
   cases hb
   exact (hk dead).all.ok
  have e:(⟨qF (swp [(47,50)]) (je s' (Xq f g n [nzi 8 0] 47 (m+1) (YK f g n m cs T false s dead) (47+1))).live,zG (swp [(47,50)]) (je s' (Xq f g n [nzi 8 0] 47 (m+1) (YK f g n m cs T false s dead) (47+1))).mem,50+1⟩:Kst) =
    je ⟨fun b i=>if b=50 then s'.F 47 i else s'.F b i,fun b i=>if b=50 then s'.G 47 i else s'.G b i,s'.fs,s'.gs⟩ (Xq f g n [nzi 8 0] 50 (m+1) (YK f g n m cs T false s dead) (50+1)):=by
   rw [qt hraw]
   kernel_rfl
  refine ⟨50+1,Nat.le_of_ble_eq_true (by kernel_rfl), ?_⟩
  rw [e]
  exact ⟨Z3 (hk dead).all.ok _ (by kernel_rfl) (by kernel_rfl) (by kernel_rfl),_,m+1,hk dead,hc,_,rfl⟩
 ·have hm2:m=32:=by omega
  have hk:∀dead,OutL (jq6 f g n m cs T s dead) m T:=fun dead=>by
   have e:=jjO (f:=f) (g:=g) (n:=n) (m:=m) (cs:=cs) (T:=T) s dead
   simp only [Prod.mk.injEq] at e
   exact ZX h e.1 e.2.1 e.2.2
  have hx:∀dead,OutL (YK f g n m cs T true s dead) (m+1) T:=fun dead=>by
   have e:=jjO (f:=f) (g:=g) (n:=n) (m:=m) (cs:=cs) (T:=T) s dead
   simp only [Prod.mk.injEq] at e
   exact KW h e.1 e.2.1 e.2.2
  refine (ToP.runD (z:=⟨false,false,false⟩) (n:=20000) (dec:=[some false,none,none,none,none,none,none,some false,some true]) (p:=fun dead=>Xq f g n [nzi 8 0] 50 (0+m) (jq6 f g n m cs T s dead) (50+1)) soundGC (fun dead=>jpu s dead) (fun dead=> ?_) (fun dead=>ke _)
   (fun dead s'=>Z3 (hk dead).all.ok s' (by kernel_rfl) (by kernel_rfl) (by kernel_rfl)) (fun dead=>Nat.le_of_ble_eq_true (by kernel_rfl))).mono ?_
  ·have hl:=(hx dead).all.len
   have hl2:((YK f g n m cs T true s dead).drop 11).length=m*11:=by rw [List.length_drop,hl];omega
   have a1:(Nat.ble ((0+m)*89) 140737488355328&&Nat.ble 1 m)=true:=by rw [Kx,Kx];simp;omega
   have a2:(decide (m*11≤((YK f g n m cs T true s dead).drop 11).length)&&kK (((YK f g n m cs T true s dead).drop 11).take (m*11)))=true:=by
    rw [hl2]
    simp only [Nat.le_refl,decide_true,Bool.true_and]
    refine allCell_iff.2 fun a ha=> ?_
    have:=List.all_eq_true.1 (hx dead).all.isI a (List.mem_of_mem_drop (List.mem_of_mem_take ha))
    unfold jb9 at this
    split at this
    ·rfl
    ·cases this
   have a3:(decide (0+1≤m+1)&&decide ((YK f g n m cs T true s dead).length=(m+1)*11))=true:=by rw [hl];simp
   intro c hcm
   rw [a1,a2,a3] at hcm
   rcases List.mem_cons.1 hcm with rfl | hcm
   ·rfl
   rcases List.mem_cons.1 hcm with rfl | hcm
   ·rfl
   rcases List.mem_cons.1 hcm with rfl | hcm
   ·rfl
   exact jfY h hm hT (by rw [hf];exact decide_eq_true (by omega)) c hcm
  ·rintro y ⟨dead,hy⟩
   rw [Nat.zero_add] at hy
   exact ⟨_,m,hk dead,hm,hy⟩
end
end Go.Proofs.YtbpfipbhaagllaaGreat

/- TopNow: level, at the step that tilts. -/
namespace Go.Proofs.YtbpfipbhaagllaaGreat
open Go.Lr
set_option maxRecDepth 100000
theorem ZM:∀(n:Nat) (t:Int) (i:Nat),i<n→(intAt (jO t n) (i*8+0),intAt (jO t n) (i*8+1),intAt (jO t n) (i*8+2),intAt (jO t n) (i*8+3),intAt (jO t n) (i*8+4),intAt (jO t n) (i*8+5),intAt (jO t n) (i*8+6),intAt (jO t n) (i*8+7))=(8000*(t+i),8000,0,0,0,0,0,-84238486)
 | 0,_,_,h=>absurd h (by omega)
 | n+1,t,0,_=>by simp only [Nat.zero_mul,Nat.zero_add,Int.natCast_zero,Int.add_zero];rfl
 | n+1,t,i+1,h=>by
  have ih:=ZM n (t+1) i (by omega)
  have e:∀j,intAt (jO t (n+1)) ((i+1)*8+j)=intAt (jO (t+1) n) (i*8+j):=fun j=>by
   rw [qb,qb,show (i+1)*8+j=(i*8+j)+8 by omega]
   rfl
  simp only [e]
  rw [ih]
  simp only [Prod.mk.injEq,and_true]
  omega
theorem jbh {n i:Nat} {t:Int} (h:i<n):jV (jO t n) (i*8) 8=true:=
 (AllI.of (J4 n t) (qJ n t)).areI 8 _ (by omega)
theorem jlk {A:Kst} {Q ty n:Nat} {t:Int} (e1:getM A.mem Q=some ⟨ty,(0,0),8,jO t n⟩):∀i b,getM A.mem i=some b→i∈[Q]→okL noP b.cells=true:=by
 intro i b hb hi
 simp only [List.mem_singleton] at hi
 subst hi
 rw [e1] at hb
 cases hb
 exact ZV n t
theorem xF (t:Int) (n:Nat) {A:Kst} {Q:Nat} (e1:getM A.mem Q=some ⟨58,(0,0),8,jO t n⟩:=by kernel_rfl):∀i b,getM A.mem i=some b→i∈[Q]→okL noP b.cells=true:=jlk e1
theorem ZN (Q:Nat) (t:Int) (n:Nat) {A:Kst} (h1:kE A.nb A.live=true:=by kernel_rfl) (h2:yZ A.nb [Q] A.mem=true:=by kernel_rfl) (e1:getM A.mem Q=some ⟨58,(0,0),8,jO t n⟩:=by kernel_rfl):KstOK A:=q8 [Q] h1 h2 (jlk e1)
def joY (x:Kst) (fs:Nat→Nat→Int) (gs:Nat→Nat→Bool):Asg:=⟨fun b i=>intAt (yW x b) i,fun b i=>Qk (yW x b) i,fs,gs⟩
noncomputable abbrev lvZ:Code:=jj Tryz.prog 53
def jh4 (dl:Int) (x72 x399 x413 x416 x421:Go.Lr.P2):List Go.Lr.P2:=nzR dl++[x72,qI 1073741824]++rq 299 (qI 0)++[qI 68719476736,qI 68719476736,qI 68719476736,qI 68719476736,qI 17592186044416,qI 17592186044416,qI 17592186044416,qI 17592186044416,qI 17592186044416,qI 17592186044416,qI 67108864,qI 67108864,qI 67108864,qI 4294967296,qI 4294967296,qI 4294967296,qI 17179869184,qI 17179869184,qI 17179869184,qI 17179869184,qI 17179869184,qI 17179869184,qI 17592186044416,qI 17592186044416,qL (.ptr 18 0),qL (.ptr 19 0),x399,qL (.ptr 22 0),qL (.ptr 23 0),qL (.ptr 24 0),qL (.ptr 25 0),qL (.ptr 26 0),qL (.ptr 27 0),qL (.ptr 20 0),qI 0,qI 0,qB false,qB false,qL (.ptr 21 0),qB false,x413,qI 0,qI 0,x416,qB false,qB false,qB false,qI 0,x421,qI 0,qI 1073741824]++rq 9 (qI 0)++[qL .nilsl]
def gv0 (dl k t:Int) (n:Nat):PS2:=⟨[nzp 0 11 0,(1,.agg (nzA (8000*t)))],[nzX (jh4 dl (qB false) (nzv 38 n) (qI 9) (qI (-758146374)) (qS (8000*t))),kr,nzD (k+1),kt,nzP (qL .nilsl)]++(ku++[nzQ 38 (t+1) n]),40⟩
def gv1 (dl k t:Int) (n:Nat):PS2:=⟨[nzp 0 11 0,nzp 3 40 0],[nzX (jh4 dl (qB false) (nzv 38 n) (qI 9) (qI (-758146374)) (qS (8000*t))),kr,nzD (k+1),kt,nzP (qL .nilsl)]++(ku++[nzQ 38 (t+1) n,nzB 40 (8000*t)]),41⟩
def gv2 (dl k t:Int) (n:Nat):PS2:=⟨[nzp 0 11 0,nzp 3 40 0,nzp 4 11 72],[nzX (jh4 dl (qB false) (nzv 38 n) (qI 9) (qI (-758146374)) (qS (8000*t))),kr,nzD (k+1),kt,nzP (qL .nilsl)]++(ku++[nzQ 38 (t+1) n,nzB 40 (8000*t)]),41⟩
def gv3 (dl k t:Int) (n:Nat):PS2:=⟨[nzp 0 11 0,nzp 3 40 0,nzp 4 11 72,nzi 5 84238486],[nzX (jh4 dl (qB false) (nzv 38 n) (qI 9) (qI (-758146374)) (qS (8000*t))),kr,nzD (k+1),kt,nzP (qL .nilsl)]++(ku++[nzQ 38 (t+1) n,nzB 40 (8000*t)]),41⟩
def gv4 (dl k t:Int) (n:Nat):PS2:=⟨[nzp 0 11 0,nzp 3 40 0,nzp 4 11 72,nzi 5 84238486,nzi 6 84238486],[nzX (jh4 dl (qB false) (nzv 38 n) (qI 9) (qI (-758146374)) (qS (8000*t))),kr,nzD (k+1),kt,nzP (qL .nilsl)]++(ku++[nzQ 38 (t+1) n,nzB 40 (8000*t)]),41⟩
def gv5 (dl k t:Int) (n:Nat):PS2:=⟨[nzp 0 11 0,nzp 3 40 0,nzp 4 11 72],[nzX (jh4 dl (qB false) (nzv 38 n) (qI 10) (qI (-758146374)) (qS (8000*t))),kr,nzD (k+1),kt,nzP (qL .nilsl)]++(ku++[nzQ 38 (t+1) n,nzB 40 (8000*t)]),41⟩
def gv6 (dl k t:Int) (n:Nat):PS2:=⟨[nzp 0 11 0,nzp 3 40 0,nzp 4 11 72],[nzX (jh4 dl (qB false) (nzv 38 n) (qI 10) (qI (-842384860)) (qS (8000*t))),kr,nzD (k+1),kt,nzP (qL .nilsl)]++(ku++[nzQ 38 (t+1) n,nzB 40 (8000*t)]),59⟩
def gv7 (dl k t:Int) (n:Nat):PS2:=⟨[nzp 0 11 0,nzp 3 40 0,nzp 4 11 72,nzp 7 59 0],[nzX (jh4 dl (qB false) (nzv 38 n) (qI 10) (qI (-842384860)) (qS (8000*t))),kr,nzD (k+1),kt,nzP (qL .nilsl)]++(ku++[nzQ 38 (t+1) n,nzB 40 (8000*t),(59,⟨34,(0,0),0,[qI 1073741824,qI 0,qI 0,qI 0],none⟩)]),60⟩
def gv8 (dl k t:Int) (n:Nat):PS2:=⟨[nzp 0 11 0,nzp 3 40 0,nzp 4 11 72,nzp 7 59 0],[nzX (jh4 dl (qB false) (nzv 38 n) (qI 10) (qI (-842384860)) (qS (8000*t))),kr,nzD (k+1),kt,nzP (qL .nilsl)]++(ku++[nzQ 38 (t+1) n,nzB 40 (8000*t),(59,⟨34,(0,0),0,[qI 1073741824,qI 0,qI 0,qI 0],none⟩)]),62⟩
def jwg (dl:Int) (x72 x399 x413 x416 x421:Go.Lr.P2):List Go.Lr.P2:=nzR dl++[x72,qI 1073741824]++rq 23 (qI 0)++rq 300 (qH)++[qL (.ptr 18 0),qL (.ptr 19 0),x399,qL (.ptr 22 0),qL (.ptr 23 0),qL (.ptr 24 0),qL (.ptr 25 0),qL (.ptr 26 0),qL (.ptr 27 0),qL (.ptr 20 0),qI 0,qI 0,qB false,qB false,qL (.ptr 21 0),qB false,x413,qI 0,qI 0,x416,qB false,qB false,qB false,qI 0,x421,qI 0,qI 1073741824]++rq 9 (qI 0)++[qL .nilsl]
def gv9 (dl k t:Int) (n:Nat):PS2:=⟨[nzp 0 11 0,nzp 3 40 0,nzp 4 11 72],[nzX (jwg dl (qO) (nzv 38 n) (qI 10) (qI (-842384860)) (qS (8000*t))),kr,nzD (k+1),kt,nzP (qL .nilsl)]++(ku++[nzQ 38 (t+1) n,nzB 40 (8000*t)]),66⟩
def js0 (dl:Int) (x72 x399 x413 x416 x421:Go.Lr.P2):List Go.Lr.P2:=nzR dl++[x72,qI 1073741824]++rq 23 (qI 0)++rq 300 (qH)++[qL (.ptr 18 0),qL (.ptr 19 0),x399,qL (.ptr 22 0),qL (.ptr 23 0),qL (.ptr 24 0),qL (.ptr 25 0),qL (.ptr 26 0),qL (.ptr 27 0),qL (.ptr 20 0),qI 0,qI 0,qB false,qB false,qL (.ptr 21 0),qB true,x413,qI 0,qI 0,x416,qB true,qB false,qB false,qI 0,x421,qI 0,qI 1073741824]++rq 9 (qI 0)++[qL .nilsl]
def js1 (dl k t:Int) (n:Nat):PS2:=⟨[nzp 0 11 0,nzp 3 40 0,nzp 4 11 72],[nzX (js0 dl (qO) (nzv 38 n) (qI 10) (qI (-842384860)) (qS (8000*t))),kr,nzD (k+1),kt,nzP (qL .nilsl)]++(ku++[nzQ 38 (t+1) n,nzB 40 (8000*t)]),66⟩
def jll (dl k t:Int) (n:Nat):PS2:=⟨[nzp 0 11 0,nzp 4 11 72],[nzX (js0 dl (qO) (nzv 38 n) (qI 10) (qI (-842384860)) (qS (8000*t))),kr,nzD (k+1),kt,nzP (qL (.sl 66 0 1 1))]++(ku++[(66,⟨38,(0,0),0,[qS (8000*t),qI 1073741824]++rq 9 (qI 0),none⟩),nzQ 38 (t+1) n]),68⟩
def jjD (dl k t:Int) (n:Nat):PS2:=⟨[nzp 0 11 0,nzp 4 11 72],[nzX (js0 dl (qO) (nzv 38 n) (qI 10) (qI (-842384860)) (qS (8000*t))),kr,nzD (k+1),kt,nzP (nzv 66 1)]++(ku++[(66,⟨38,(0,0),11,[qS (8000*t),qI 1073741824]++rq 9 (qI 0),none⟩),nzQ 38 (t+1) n]),68⟩
def jeF (dl:Int) (x72 x399 x413 x416 x421:Go.Lr.P2):List Go.Lr.P2:=nzR dl++[x72]++rq 324 (qH)++[qL (.ptr 18 0),qL (.ptr 19 0),x399,qL (.ptr 22 0),qL (.ptr 23 0),qL (.ptr 24 0),qL (.ptr 25 0),qL (.ptr 26 0),qL (.ptr 27 0),qL (.ptr 20 0),qI 0,qI 0,qB false,qB false,qL (.ptr 21 0),qB true,x413,qI 0,qI 0,x416,qB true,qB false,qB false,qI 0,x421,qI 0,qI 1073741824]++rq 9 (qI 0)++[qL .nilsl]
def gl0 (dl k t i:Int) (n m:Nat) (cs:List At):PS2:=⟨[nzp 0 11 0,nzp 4 11 72],[nzX (jeF dl (qO) (nzv 38 n) (qI 10) (qI (-842384860)) (qS (8000*t))),kr,nzD (k+1),kt,nzP (nzv 41 m)]++(ku++[nzO 41 cs,nzQ 38 (t+1) n]),42⟩
def gl1 (dl k t i:Int) (n m:Nat) (cs:List At):PS2:=⟨[nzp 0 11 0,nzp 4 11 72,(114,.one (nzv 38 n)),(115,.one (qS (n:Nat))),(116,.one (qS i))],[nzX (jeF dl (qO) (nzv 38 n) (qI 10) (qI (-842384860)) (qS (8000*t))),kr,nzD (k+1),kt,nzP (nzv 41 m)]++(ku++[nzO 41 cs,nzQ 38 (t+1) n]),42⟩
def gl2 (dl k t i:Int) (n m:Nat) (cs:List At):PS2:=⟨[nzp 0 11 0,nzp 4 11 72,(114,.one (nzv 38 n)),(115,.one (qS (n:Nat))),nzi 116 0],[nzX (jeF dl (qO) (nzv 38 n) (qI 10) (qI (-842384860)) (qS (8000*t))),kr,nzD (k+1),kt,nzP (nzv 41 m)]++(ku++[nzO 41 cs,nzQ 38 (t+1) n]),42⟩
def gl3 (dl k t i:Int) (n m:Nat) (cs:List At):PS2:=⟨[nzp 0 11 0,nzp 4 11 72,(114,.one (nzv 38 n)),(115,.one (qS (n:Nat))),(116,.one (qS i)),(117,.one (.raw (.bool (decide (i<(n:Nat))))))],[nzX (jeF dl (qO) (nzv 38 n) (qI 10) (qI (-842384860)) (qS (8000*t))),kr,nzD (k+1),kt,nzP (nzv 41 m)]++(ku++[nzO 41 cs,nzQ 38 (t+1) n]),42⟩
def gl4 (dl k t i:Int) (n m:Nat) (cs:List At):PS2:=⟨[nzp 0 11 0,nzp 4 11 72,(114,.one (nzv 38 n)),(115,.one (qS (n:Nat))),(116,.one (qS i)),(117,.one (.raw (.bool true)))],[nzX (jeF dl (qO) (nzv 38 n) (qI 10) (qI (-842384860)) (qS (8000*t))),kr,nzD (k+1),kt,nzP (nzv 41 m)]++(ku++[nzO 41 cs,nzQ 38 (t+1) n]),42⟩
def gl5 (dl k t i:Int) (n m:Nat) (cs:List At):PS2:=⟨[nzp 0 11 0,nzp 4 11 72,(114,.one (nzv 38 n)),(115,.one (qS (n:Nat))),(116,.one (qS i)),(117,.one (.raw (.bool false)))],[nzX (jeF dl (qO) (nzv 38 n) (qI 10) (qI (-842384860)) (qS (8000*t))),kr,nzD (k+1),kt,nzP (nzv 41 m)]++(ku++[nzO 41 cs,nzQ 38 (t+1) n]),42⟩
def gl6 (dl k t i:Int) (n m:Nat) (cs:List At):PS2:=⟨[nzp 0 11 0],[nzX (jeF dl (qO) (nzv 38 n) (qI 10) (qI (-842384860)) (qS (8000*t))),kr,nzD (k+1),kt,nzP (nzv 41 m)]++(ku++[nzO 41 cs,nzQ 38 (t+1) n]),42⟩
def gl7 (dl k t i:Int) (n m:Nat) (cs:List At):PS2:=⟨[nzp 0 11 0,nzp 4 11 72,nzp 9 42 0,(114,.one (nzv 38 n)),(115,.one (qS (n:Nat))),(116,.one (qS i))],[nzX (jeF dl (qO) (nzv 38 n) (qI 10) (qI (-842384860)) (qS (8000*t))),kr,nzD (k+1),kt,nzP (nzv 41 m)]++(ku++[nzO 41 cs,nzQ 38 (t+1) n,(42,⟨58,(0,0),0,[qS (intAt (jO (t+1) n) (i.toNat*8+0)),qS (intAt (jO (t+1) n) (i.toNat*8+1)),qS (intAt (jO (t+1) n) (i.toNat*8+2)),qS (intAt (jO (t+1) n) (i.toNat*8+3)),qS (intAt (jO (t+1) n) (i.toNat*8+4)),qS (intAt (jO (t+1) n) (i.toNat*8+5)),qS (intAt (jO (t+1) n) (i.toNat*8+6)),qS (intAt (jO (t+1) n) (i.toNat*8+7))],none⟩)]),43⟩
def gl8 (dl k t i:Int) (n m:Nat) (cs:List At):PS2:=⟨[nzp 0 11 0,nzp 4 11 72,nzp 9 42 0,(114,.one (nzv 38 n)),(115,.one (qS (n:Nat))),(116,.one (qS i))],[nzX (jeF dl (qO) (nzv 38 n) (qI 10) (qI (-842384860)) (qS (8000*t))),kr,nzD (k+1),kt,nzP (nzv 41 m)]++(ku++[nzO 41 cs,nzQ 38 (t+1) n,(42,⟨58,(0,0),0,[qS (8000*(t+1+i)),qS 8000,qS 0,qS 0,qS 0,qS 0,qS 0,qS (-84238486)],none⟩)]),43⟩
def gl9 (dl k t i:Int) (n m:Nat) (cs:List At):PS2:=⟨[nzp 0 11 0,nzp 4 11 72,(114,.one (nzv 38 n)),(115,.one (qS (n:Nat))),(116,.one (qS i)),nzp 123 21 0,nzp 124 11 72,(128,.agg (rq 24 (qH))),(129,.agg [qS (8000*(t+1+i)),qS 8000,qS 0,qS 0,qS 0,qS 0,qS 0,qS (-84238486)])],[nzX (jeF dl (qO) (nzv 38 n) (qI 10) (qI (-842384860)) (qS (8000*t))),kr,nzD (k+1),kt,nzP (nzv 41 m)]++(ku++[nzO 41 cs,nzQ 38 (t+1) n]),43⟩
def jcK (dl k t i:Int) (n m:Nat) (cs:List At):PS2:=⟨[nzp 0 11 0,nzp 4 11 72,(114,.one (nzv 38 n)),(115,.one (qS (n:Nat))),(116,.one (qS i))],[nzX (jeF dl (qO) (nzv 38 n) (qI 10) (qI (-842384860)) (qS (8000*t))),kr,nzD (k+1),kt,nzP (nzv 50 m)]++(ku++[nzO 50 cs,nzQ 38 (t+1) n]),51⟩
def js2 (dl k t i:Int) (n m:Nat) (cs:List At):PS2:=⟨[nzp 0 11 0,nzp 4 11 72,(114,.one (nzv 38 n)),(115,.one (qS (n:Nat))),(116,.one (qS (wr .i64 (i+1))))],[nzX (jeF dl (qO) (nzv 38 n) (qI 10) (qI (-842384860)) (qS (8000*t))),kr,nzD (k+1),kt,nzP (nzv 50 m)]++(ku++[nzO 50 cs,nzQ 38 (t+1) n]),51⟩
theorem jwh {dl k t:Int} {n:Nat} (s:Asg):ToP Tryz.prog 132 (c1 (lvZ)) (je s (gv0 dl k t n)) .normal (jA (gv1 dl k t n)):=
 nst soundGC [38] [] [] [] (fun s=>xF (t+1) n) jd
theorem jwi {dl k t:Int} {n:Nat} (s:Asg):ToP Tryz.prog 132 (c1 (c2 (lvZ))) (je s (gv1 dl k t n)) .normal (jA (gv2 dl k t n)):=
 nst soundGC [38] [] [] [] (fun s=>xF (t+1) n) jd
theorem jwj {dl k t:Int} {n:Nat} (s:Asg):ToP Tryz.prog 132 (c1 (c2 (c2 (lvZ)))) (je s (gv2 dl k t n)) .normal (jA (gv3 dl k t n)):=
 nst soundGC [38] [] [] [] (fun s=>xF (t+1) n) jd
theorem jwk {dl k t:Int} {n:Nat} (s:Asg):ToP Tryz.prog 132 (c1 (c2 (c2 (c2 (lvZ))))) (je s (gv3 dl k t n)) .normal (jA (gv4 dl k t n)):=
 nst soundGC [38] [] [] [] (fun s=>xF (t+1) n) jd
theorem jwl {dl k t:Int} {n:Nat} (s:Asg):ToP Tryz.prog 132 (c1 (c2 (c2 (c2 (c2 (lvZ)))))) (je s (gv4 dl k t n)) .normal (jA (gv2 dl k t n)):=
 nst soundGC [38] [] [] [] (fun s=>xF (t+1) n) jd
theorem jwm {dl k t:Int} {n:Nat} (s:Asg):ToP Tryz.prog 132 (c1 (c2 (c2 (c2 (c2 (c2 (lvZ))))))) (je s (gv2 dl k t n)) .normal (jA (gv5 dl k t n)):=
 nst soundGC [38] [] [] [] (fun s=>xF (t+1) n) jd
theorem jwn {dl k t:Int} {n:Nat} (s:Asg):ToP Tryz.prog 132 (c1 (c2 (c2 (c2 (c2 (c2 (c2 (lvZ)))))))) (je s (gv5 dl k t n)) .normal (jA (gv6 dl k t n)):=
 nst soundGC [38] [false,false,false,false,false,false,false,false,false] [] [] (fun s=>xF (t+1) n) jd
theorem jwo {dl k t:Int} {n:Nat} (s:Asg):ToP Tryz.prog 132 (c1 (c2 (c2 (c2 (c2 (c2 (c2 (c2 (lvZ))))))))) (je s (gv6 dl k t n)) .normal (jA (gv6 dl k t n)):=
 nst soundGC [38] [] [] [] (fun s=>xF (t+1) n) jd
theorem jwp {dl k t:Int} {n:Nat} (s:Asg):ToP Tryz.prog 132 (c1 (c2 (c2 (c2 (c2 (c2 (c2 (c2 (c2 (lvZ)))))))))) (je s (gv6 dl k t n)) .normal (jA (gv7 dl k t n)):=
 nst soundGC [38] [] [] [] (fun s=>xF (t+1) n) jd
theorem jwq {dl k t:Int} {n:Nat} (s:Asg):ToP Tryz.prog 132 (c1 (c2 (c2 (c2 (c2 (c2 (c2 (c2 (c2 (c2 (lvZ))))))))))) (je s (gv7 dl k t n)) .normal (jA (gv8 dl k t n)):=
 nst soundGC [38] [] [] [] (fun s=>xF (t+1) n) jd
theorem js3 {dl k t:Int} {n:Nat} (s:Asg):ToP Tryz.prog 132 (c1 (c2 (c2 (c2 (c2 (c2 (c2 (c2 (c2 (c2 (c2 (lvZ)))))))))))) (je s (gv8 dl k t n)) .normal (jA (gv9 dl k t n)):=
 nst soundGC [38] [] [] [] (fun s=>xF (t+1) n) jd
theorem js4 {dl k t:Int} {n:Nat} (s:Asg):ToP Tryz.prog 132 (c1 (c2 (c2 (c2 (c2 (c2 (c2 (c2 (c2 (c2 (c2 (c2 (lvZ))))))))))))) (je s (gv9 dl k t n)) .normal (jA (js1 dl k t n)):=
 nst soundGC [38] [] [] [] (fun s=>xF (t+1) n) jd
theorem js5 {dl k t:Int} {n:Nat} (s:Asg):ToP Tryz.prog 132 (c1 (c2 (c2 (c2 (c2 (c2 (c2 (c2 (c2 (c2 (c2 (c2 (c2 (lvZ)))))))))))))) (je s (js1 dl k t n)) .normal (jA (jll dl k t n)):=
 nst soundGC [38] [] [] [] (fun s=>xF (t+1) n) jd
theorem js6 {dl k t i:Int} {n m:Nat} {cs:List At} (hc:okL noP cs=true) (s:Asg):ToP Tryz.prog 132 (c1 (c2 (c2 (c2 (c2 (c2 (c2 (c2 (c2 (c2 (c2 (c2 (c2 (c2 (lvZ))))))))))))))) (je s (gl0 dl k t i n m cs)) .normal (jA (gl2 dl k t i n m cs)):=
 nst soundGC [38,41] [] [] [] (fun s=>xP (t+1) n hc) jd
theorem joZ {dl k t i:Int} {n m:Nat} {cs:List At} (hc:okL noP cs=true) (s:Asg):ToP Tryz.prog 132 (c1 (c1 (c1 (c2 (c2 (c2 (c2 (c2 (c2 (c2 (c2 (c2 (c2 (c2 (c2 (c2 (c2 (lvZ)))))))))))))))))) (je s (gl1 dl k t i n m cs)) .normal (jA (gl3 dl k t i n m cs)):=
 nst soundGC [38,41] [] [] [] (fun s=>xP (t+1) n hc) jd
theorem js7 {dl k t i:Int} {n m:Nat} {cs:List At} (hc:okL noP cs=true) (s:Asg):ToP Tryz.prog 132 (c1 (c1 (c2 (c1 (c1 (c2 (c2 (c2 (c2 (c2 (c2 (c2 (c2 (c2 (c2 (c2 (c2 (c2 (c2 (lvZ)))))))))))))))))))) (je s (gl4 dl k t i n m cs)) .normal (jA (gl1 dl k t i n m cs)):=
 nst soundGC [38,41] [] [] [] (fun s=>xP (t+1) n hc) jd
theorem js8 {dl k t i:Int} {n m:Nat} {cs:List At} (hc:okL noP cs=true) (s:Asg):ToP Tryz.prog 132 (c2 (c1 (c2 (c1 (c1 (c2 (c2 (c2 (c2 (c2 (c2 (c2 (c2 (c2 (c2 (c2 (c2 (c2 (c2 (lvZ)))))))))))))))))))) (je s (gl5 dl k t i n m cs)) (.exit 0) (jA (gl6 dl k t i n m cs)):=
 nst soundGC [38,41] [] [] [] (fun s=>xP (t+1) n hc) jd
theorem js9 {dl k t i:Int} {n m:Nat} {cs:List At} (hc:okL noP cs=true) (h0:0≤i) (h1:i<n) (s:Asg):ToP Tryz.prog 132 (c1 (c1 (c1 (c2 (c2 (c1 (c1 (c2 (c2 (c2 (c2 (c2 (c2 (c2 (c2 (c2 (c2 (c2 (c2 (c2 (c2 (lvZ)))))))))))))))))))))) (je s (gl1 dl k t i n m cs)) .normal (jA (gl7 dl k t i n m cs)):=
 nst soundGC [38,41] [true,true] [] [(jV (jO (t+1) n) (i.toNat*8) 8&&decide (8≠0),true),(decide (0≤i)&&decide (i<(n:Int)),true)] (fun s=>xP (t+1) n hc) (joL (by rw [jbh (by omega)];rfl) (by rw [decide_eq_true h0,decide_eq_true h1];rfl))
theorem jta {dl k t i:Int} {n m:Nat} {cs:List At} (hc:okL noP cs=true) (s:Asg):ToP Tryz.prog 132 (c2 (c2 (c2 (c1 (c1 (c2 (c2 (c2 (c2 (c2 (c2 (c2 (c2 (c2 (c2 (c2 (c2 (c2 (c2 (lvZ)))))))))))))))))))) (je s (jcK dl k t i n m cs)) .normal (jA (js2 dl k t i n m cs)):=
 nst soundGC [38,50] [] [] [] (fun s=>xP (t+1) n hc) jd
theorem jo0 {dl k t i:Int} {n m:Nat} {cs:List At} (hc:okL noP cs=true) (h0:0≤i) (h1:i<n) (s:Asg):ToP Tryz.prog 132 (c1 (c1 (c1 (c2 (c2 (c1 (c1 (c2 (c2 (c2 (c2 (c2 (c2 (c2 (c2 (c2 (c2 (c2 (c2 (c2 (c2 (lvZ)))))))))))))))))))))) (je s (gl1 dl k t i n m cs)) .normal (jA (gl8 dl k t i n m cs)):=by
 have e:(gl7 dl k t i n m cs)=(gl8 dl k t i n m cs):=by
  have:=ZM n (t+1) i.toNat (by omega)
  simp only [Prod.mk.injEq] at this
  obtain ⟨e0,e1,e2,e3,e4,e5,e6,e7⟩:=this
  unfold gl7 gl8
  rw [e0,e1,e2,e3,e4,e5,e6,e7,show ((i.toNat:Nat):Int)=i by omega]
 exact e ▸ js9 hc h0 h1 s
def lPx (s:Asg) (dl k t i:Int) (n m:Nat) (cs:List At):Kst:=je s (gl9 dl k t i n m cs)
def lPs (s:Asg):Asg:=⟨s.F,s.G,fun a i=>if a=2 then s.fs 128 i else s.fs a i,s.gs⟩
def lPa (s:Asg) (dl k t i:Int) (n m:Nat) (cs:List At):Kst:=je (lPs s) (jq5 (fOf (lPx s dl k t i n m cs)) (gOf (lPx s dl k t i n m cs)) n m cs (8000*(t+1+i)))
def lPl (s:Asg) (dl k t i:Int) (n m:Nat) (cs:List At):List LV:=(lPa s dl k t i n m cs).live.map (·.2)
def lPr (t:Int) (n:Nat):Mem:=[(38,⟨58,(0,0),8,jO (t+1) n⟩)]
theorem jcL {t:Int} {n:Nat} {i:Nat} (h:(getM (lPr t n) i).isSome):i=38:=by
 unfold lPr at h
 rw [jm] at h
 split at h
 ·assumption
 ·cases h
theorem jwr {dl k t i:Int} {n m:Nat} {cs:List At} (s:Asg):(lPx s dl k t i n m cs).mem=(lPa s dl k t i n m cs).mem++lPr t n:=by kernel_rfl
theorem jo1 {dl k t i:Int} {n m:Nat} {cs:List At} (hO:OutL cs m (8000*(t+i))) (hm:m≤32) (s:Asg):
  ToP Tryz.prog 77 jq4 ⟨jS 0 (lPl s dl k t i n m cs),(lPx s dl k t i n m cs).mem,(lPx s dl k t i n m cs).nb⟩ .ret (fun y=>∃x,(∃cs' m',OutL cs' m' (8000*(t+1+i))∧m'≤32∧jA (Xq (fOf (lPx s dl k t i n m cs)) (gOf (lPx s dl k t i n m cs)) n [nzi 8 0] 50 m' cs' 51) x)∧y=⟨x.live,x.mem++lPr t n,x.nb⟩):=by
 have hp:=jlB (f:=fOf (lPx s dl k t i n m cs)) (g:=gOf (lPx s dl k t i n m cs)) (n:=n) (T:=8000*(t+1+i)) hO hm (by omega) (by kernel_rfl) (lPs s)
 have e:je (lPs s) (jq5 (fOf (lPx s dl k t i n m cs)) (gOf (lPx s dl k t i n m cs)) n m cs (8000*(t+1+i)))=⟨jS 0 (lPl s dl k t i n m cs),(lPa s dl k t i n m cs).mem,43⟩:=by kernel_rfl
 have e2:(lPx s dl k t i n m cs).nb=43:=by kernel_rfl
 rw [e] at hp
 have hraw:okL noP cs=true:=hO.all.ok
 have hK:KstOK ⟨jS 0 (lPl s dl k t i n m cs),(lPa s dl k t i n m cs).mem,43⟩:=by
  rw [←e];exact Z3 hraw _ (by kernel_rfl) (by kernel_rfl) (by kernel_rfl)
 rw [jwr,e2]
 refine ToP.frame hp hK (fun j hj=> ?_) (fun x hx j hj=> ?_) (fun x hx=> ?_)
 ·obtain rfl:=jcL hj
  kernel_rfl
 ·obtain ⟨cs',m',h1,h2,s',rfl⟩:=hx
  obtain rfl:=jcL hj
  kernel_rfl
 ·obtain ⟨cs',m',h1,h2,s',rfl⟩:=hx
  exact yg 38 50 (t+1) n h1.all.ok
theorem jlm {dl k t i:Int} {n m:Nat} {cs:List At} (hO:OutL cs m (8000*(t+i))) (hm:m≤32) (s:Asg):
  ToO Tryz.prog 132 (xL (c2 (c1 (c1 (c2 (c2 (c1 (c1 (c2 (c2 (c2 (c2 (c2 (c2 (c2 (c2 (c2 (c2 (c2 (c2 (c2 (c2 (lvZ))))))))))))))))))))))) 10 1 (je s (gl9 dl k t i n m cs)) (fun y=>∃cs' m',OutL cs' m' (8000*(t+1+i))∧m'≤32∧jA (jcK dl k t i n m' cs') y):=by
 refine ToO.weak (ToO.callK (sz:=132) (c:=jq4) (A:=lPx s dl k t i n m cs) (t:=130) (f:=27) (args:=lPl s dl k t i n m cs) (e:= .ret) (v:=fun _=>I 0) soundGC [0,4,114,115,116] (fun dead=>by kernel_rfl) Tryz.func27 (by kernel_rfl) (by kernel_rfl) (by kernel_rfl) (by kernel_rfl) (jo1 hO hm s) (.inr rfl) ?_ ?_) ?_
 ·rintro y ⟨x,⟨cs',m',h1,h2,s',rfl⟩,rfl⟩ dead
  kernel_rfl
 ·rintro y ⟨x,⟨cs',m',h1,h2,s',rfl⟩,rfl⟩
  exact yg 38 50 (t+1) n h1.all.ok
 ·rintro z ⟨y,⟨x,⟨cs',m',h1,h2,s',rfl⟩,rfl⟩,rfl⟩
  refine ⟨je ⟨s.F,fun b i=>if b=11 then s'.G b i else s.G b i,s.fs,s.gs⟩ (jcK dl k t i n m' cs'),[(130,I 0)],⟨cs',m',h1,h2,_,rfl⟩,yg 38 50 (t+1) n h1.all.ok,by kernel_rfl,fun j b hb=> ?_,by kernel_rfl⟩
  have e1:(je ⟨s.F,fun b i=>if b=11 then s'.G b i else s.G b i,s.fs,s.gs⟩ (jcK dl k t i n m' cs')).mem=(je s' (Xq (fOf (lPx s dl k t i n m cs)) (gOf (lPx s dl k t i n m cs)) n [nzi 8 0] 50 m' cs' 51)).mem++lPr t n:=by kernel_rfl
  rw [e1] at hb
  exact hb
theorem jo2 {dl k t i:Int} {n m:Nat} {cs:List At} (hO:OutL cs m (8000*(t+i))) (hm:m≤32) (s:Asg):
  ToP Tryz.prog 132 (c2 (c1 (c1 (c2 (c2 (c1 (c1 (c2 (c2 (c2 (c2 (c2 (c2 (c2 (c2 (c2 (c2 (c2 (c2 (c2 (c2 (lvZ)))))))))))))))))))))) (je s (gl8 dl k t i n m cs)) .normal (fun y=>∃cs' m',OutL cs' m' (8000*(t+1+i))∧m'≤32∧jA (jcK dl k t i n m' cs') y):=by
 refine ToP.draw (by kernel_rfl) fun id=> ?_
 exact ToP.drawCall (m:=10) (z:=⟨false,false,false⟩) (dec:=[]) (mask:=[]) (os:=[]) (es:=Kv (gl9 dl k t i n m cs)) (p:=(gl9 dl k t i n m cs)) soundGC (by kernel_rfl) (by kernel_rfl) (by kernel_rfl) (by kernel_rfl) (fun dead=>by kernel_rfl) jd (ke _)
  (fun s=>yg 38 41 (t+1) n hO.all.ok) (by kernel_rfl) (jlm hO hm)
theorem jtb {dl k t i:Int} {n m:Nat} {cs:List At} (hO:OutL cs m (8000*(t+i))) (hm:m≤32) (h0:0≤i) (h1:i<n) (hn:n≤1000) (s:Asg):
  ToR Tryz.prog 132 40 (c1 (c1 (c2 (c2 (c2 (c2 (c2 (c2 (c2 (c2 (c2 (c2 (c2 (c2 (c2 (c2 (lvZ))))))))))))))))) (je s (gl1 dl k t i n m cs)) .normal (fun y=>∃cs' m',OutL cs' m' (8000*(t+(i+1)))∧m'≤32∧jA (gl1 dl k t (i+1) n m' cs') y):=by
 have hc:=hO.all.ok
 refine ToR.ren (B:=fun y=>∃cs' m',OutL cs' m' (8000*(t+(i+1)))∧m'≤32∧jA (jcK dl k t (i+1) n m' cs') y) (ToR.of_ToP (ToP.seq (by kernel_rfl) (joZ hc s) ?_) (by kernel_rfl)) [(50,41)] (by kernel_rfl) ?_
 ·rintro x ⟨s,rfl⟩
  have e:gl3 dl k t i n m cs=(gl4 dl k t i n m cs):=by unfold gl3 gl4;rw [show decide (i<((n:Nat):Int))=true from decide_eq_true h1]
  rw [e]
  refine ToP.seq (by kernel_rfl) (ToP.cond (t:=117) (b:=true) (by kernel_rfl) (by kernel_rfl) (js7 hc s)) ?_
  rintro x ⟨s,rfl⟩
  refine ToP.seq (by kernel_rfl) (ToP.block (id:=1) (e:= .normal) (by kernel_rfl) (ToP.seq (by kernel_rfl) (jo0 hc h0 h1 s) ?_) (.inr rfl)) (B:=fun y=>∃cs' m',OutL cs' m' (8000*(t+1+i))∧m'≤32∧jA (jcK dl k t i n m' cs') y) ?_
  ·rintro x ⟨s,rfl⟩
   exact jo2 hO hm s
  rintro x ⟨cs',m',h2,h3,s,rfl⟩
  refine (jta h2.all.ok s).mono fun y hy=>⟨cs',m', ?_,h3, ?_⟩
  ·rw [show t+(i+1)=t+1+i by omega];exact h2
  ·have ew:js2 dl k t i n m' cs'=jcK dl k t (i+1) n m' cs':=by unfold js2 jcK;rw [Go.Lr.w1 (by omega)]
   exact ew ▸ hy
 ·rintro x ⟨cs',m',h2,h3,s,rfl⟩
  have hK:KstOK (je s (jcK dl k t (i+1) n m' cs')):=yg 38 50 (t+1) n h2.all.ok
  have hraw:Jx [38,50] (je s (jcK dl k t (i+1) n m' cs')).mem:=qu hK.uq fun j hj b hb=>jhW (A:=je s (jcK dl k t (i+1) n m' cs')) (tq:=58) (to:=38) (t:=t+1) (n:=n) (cs:=cs') (by kernel_rfl) (by kernel_rfl) h2.all.ok j b hb hj
  have e:(⟨qF (swp [(50,41)]) (je s (jcK dl k t (i+1) n m' cs')).live,zG (swp [(50,41)]) (je s (jcK dl k t (i+1) n m' cs')).mem,42⟩:Kst)=je s (gl1 dl k t (i+1) n m' cs'):=by
   rw [qt hraw]
   kernel_rfl
  refine ⟨42, ?_⟩
  rw [e]
  exact ⟨yg 38 41 (t+1) n h2.all.ok,cs',m',h2,h3,s,rfl⟩
theorem jfJ {dl k t:Int} {n:Nat} (hn:n≤1000):∀(j:Nat) (i:Int) (m:Nat) (cs:List At),0≤i→i+j=n→OutL cs m (8000*(t+i))→m≤32→∀s,RdR Tryz.prog 132 40 (c1 (c1 (c2 (c2 (c2 (c2 (c2 (c2 (c2 (c2 (c2 (c2 (c2 (c2 (c2 (c2 (lvZ))))))))))))))))) (j+1) (je s (gl1 dl k t i n m cs)) (.exit 0) (fun y=>∃cs' m',OutL cs' m' (8000*(t+n))∧m'≤32∧jA (gl6 dl k t 0 n m' cs') y)
 | 0,i,m,cs,h0,h1,hO,hm,s=>by
  have hi:i=n:=by omega
  have hc:=hO.all.ok
  refine RdR.last (by simp) (ToR.of_ToP ?_ (by kernel_rfl))
  refine ToP.seq (by kernel_rfl) (joZ hc s) ?_
  rintro x ⟨s,rfl⟩
  have e:gl3 dl k t i n m cs=(gl5 dl k t i n m cs):=by unfold gl3 gl5;rw [show decide (i<((n:Nat):Int))=false from decide_eq_false (by omega)]
  rw [e]
  refine ToP.seq_out (by kernel_rfl) (by simp) (ToP.cond (t:=117) (b:=false) (by kernel_rfl) (by kernel_rfl) ((js8 hc s).mono fun y hy=>⟨cs,m, ?_,hm,hy⟩))
  rw [←hi];exact hO
 | j+1,i,m,cs,h0,h1,hO,hm,s=>by
  refine RdR.next (jtb hO hm h0 (by omega) hn s) ?_
  rintro x ⟨cs',m',h2,h3,s,rfl⟩
  exact jfJ hn j (i+1) m' cs' (by omega) (by omega) h2 h3 s
def lvO (t:Int):List At:=[.int .i64 (8000*t),.int .i64 1073741824,.int .i64 0,.int .i64 0,.int .i64 0,.int .i64 0,.int .i64 0,.int .i64 0,.int .i64 0,.int .i64 0,.int .i64 0]
theorem jbi (t:Int):OutL (lvO t) 1 (8000*t):=⟨.of rfl rfl,by omega,rfl⟩
theorem jtc {dl k t:Int} {n:Nat} (s:Asg):ToR Tryz.prog 132 40 (c1 (c2 (c2 (c2 (c2 (c2 (c2 (c2 (c2 (c2 (c2 (c2 (c2 (lvZ)))))))))))))) (je s (js1 dl k t n)) .normal (jA (gl0 dl k t 0 n 1 (lvO t))):=by
 refine ToR.ren (ToR.of_ToP (ToP.cap (C:=jA (jjD dl k t n)) (js5 s) 66 1 11 [38] (Nat.le_of_ble_eq_true (by kernel_rfl)) (by decide) ?_) (by kernel_rfl)) [(66,41)] (by kernel_rfl) ?_
 ·rintro x ⟨s,rfl⟩
  have hK:KstOK (je s (jll dl k t n)):=ZN 38 (t+1) n
  have hraw:Jx [38] (je s (jll dl k t n)).mem:=qu hK.uq fun j hj b hb=>jlk (A:=je s (jll dl k t n)) (Q:=38) (ty:=58) (t:=t+1) (n:=n) (by kernel_rfl) j b hb hj
  have e:(⟨jfM 66 1 (je s (jll dl k t n)).live,jjG 66 1 11 [38] (je s (jll dl k t n)).mem,(je s (jll dl k t n)).nb⟩:Kst)=je s (jjD dl k t n):=by kernel_rfl
  refine ⟨by kernel_rfl,by kernel_rfl,hraw,⟨38,lvO t,by kernel_rfl,rfl⟩, ?_⟩
  rw [e]
  exact ⟨ZN 38 (t+1) n,s,rfl⟩
 ·rintro x ⟨s,rfl⟩
  have hK:KstOK (je s (jjD dl k t n)):=ZN 38 (t+1) n
  have hraw:Jx [38] (je s (jjD dl k t n)).mem:=qu hK.uq fun j hj b hb=>jlk (A:=je s (jjD dl k t n)) (Q:=38) (ty:=58) (t:=t+1) (n:=n) (by kernel_rfl) j b hb hj
  have e:(⟨qF (swp [(66,41)]) (je s (jjD dl k t n)).live,zG (swp [(66,41)]) (je s (jjD dl k t n)).mem,42⟩:Kst)=je (joY (je s (jjD dl k t n)) s.fs s.gs) (gl0 dl k t 0 n 1 (lvO t)):=by
   rw [qt hraw]
   kernel_rfl
  refine ⟨42, ?_⟩
  rw [e]
  exact ⟨q8 [38,41] (by kernel_rfl) (by kernel_rfl) (jhW (tq:=58) (to:=38) (t:=t+1) (n:=n) (cs:=lvO t) (by kernel_rfl) (by kernel_rfl) (jbi t).all.ok),_,rfl⟩
end Go.Proofs.YtbpfipbhaagllaaGreat

/- TopNow: the step that tilts, as a whole. -/
namespace Go.Proofs.YtbpfipbhaagllaaGreat
open Go.Lr
set_option maxRecDepth 100000
def jln (dl:Int) (x72 x399 x413 x416 x421:Go.Lr.P2):List Go.Lr.P2:=nzR dl++[x72,qI 1073741824]++rq 299 (qI 0)++[qI 68719476736,qI 68719476736,qI 68719476736,qI 68719476736,qI 17592186044416,qI 17592186044416,qI 17592186044416,qI 17592186044416,qI 17592186044416,qI 17592186044416,qI 67108864,qI 67108864,qI 67108864,qI 4294967296,qI 4294967296,qI 4294967296,qI 17179869184,qI 17179869184,qI 17179869184,qI 17179869184,qI 17179869184,qI 17179869184,qI 17592186044416,qI 17592186044416,qL (.ptr 18 0),qL (.ptr 19 0),x399,qL (.ptr 22 0),qL (.ptr 23 0),qL (.ptr 24 0),qL (.ptr 25 0),qL (.ptr 26 0),qL (.ptr 27 0),qL (.ptr 20 0),qI 0,qI 0,qB false,qB false,qL (.ptr 21 0),qB false,x413,qI 0,qI 0,x416,qB false,qB false,qB false,qI 0,x421,qI 0,qI 1073741824]++rq 9 (qI 0)++[qL .nilsl]
def gw0 (dl k t:Int) (n:Nat):PS2:=⟨[nzp 0 11 0,(1,.agg (nzA (8000*t)))],[nzX (jln dl (qB false) (nzv 38 n) (qI 9) (qI (-758146374)) (qS (8000*(t - 1)))),kr,nzD (k+1),kt,nzP (qL .nilsl)]++(ku++[nzQ 38 (t+1) n]),39⟩
def gw1 (dl k t:Int) (n:Nat):PS2:=⟨[nzp 0 11 0,nzp 3 39 0],[nzX (jln dl (qB false) (nzv 38 n) (qI 9) (qI (-758146374)) (qS (8000*(t - 1)))),kr,nzD (k+1),kt,nzP (qL .nilsl)]++(ku++[nzQ 38 (t+1) n,nzB 39 (8000*t)]),40⟩
def gw2 (dl k t:Int) (n:Nat):PS2:=⟨[nzp 0 11 0,nzp 3 39 0,nzp 4 11 72],[nzX (jln dl (qB false) (nzv 38 n) (qI 9) (qI (-758146374)) (qS (8000*(t - 1)))),kr,nzD (k+1),kt,nzP (qL .nilsl)]++(ku++[nzQ 38 (t+1) n,nzB 39 (8000*t)]),40⟩
def gw3 (dl k t:Int) (n:Nat):PS2:=⟨[nzp 0 11 0,nzp 3 39 0,nzp 4 11 72],[nzX (jln dl (qB false) (nzv 38 n) (qI 9) (qI (-758146374)) (qS (8000*t))),kr,nzD (k+1),kt,nzP (qL .nilsl)]++(ku++[nzQ 38 (t+1) n,nzB 39 (8000*t)]),40⟩
def gw4 (dl k t:Int) (n:Nat):PS2:=⟨[nzp 0 11 0,nzp 3 39 0,nzp 4 11 72,(26,.one (qB true))],[nzX (jln dl (qB false) (nzv 38 n) (qI 9) (qI (-758146374)) (qS (8000*t))),kr,nzD (k+1),kt,nzP (qL .nilsl)]++(ku++[nzQ 38 (t+1) n,nzB 39 (8000*t)]),40⟩
def gw5 (dl k t:Int) (n:Nat):PS2:=⟨[nzp 0 11 0,nzp 3 39 0,nzp 4 11 72,nzp 27 11 0,(28,.agg (nzA (8000*t)))],[nzX (jln dl (qB false) (nzv 38 n) (qI 9) (qI (-758146374)) (qS (8000*t))),kr,nzD (k+1),kt,nzP (qL .nilsl)]++(ku++[nzQ 38 (t+1) n,nzB 39 (8000*t)]),40⟩
def jtd (dl:Int) (x72 x399 x413 x416 x421:Go.Lr.P2):List Go.Lr.P2:=nzR dl++[x72]++rq 324 (qH)++[qL (.ptr 18 0),qL (.ptr 19 0),x399,qL (.ptr 22 0),qL (.ptr 23 0),qL (.ptr 24 0),qL (.ptr 25 0),qL (.ptr 26 0),qL (.ptr 27 0),qL (.ptr 20 0),qI 0,qI 0,qB false,qB false,qL (.ptr 21 0),qB true,x413,qI 0,qI 0,x416,qB true,qB false,qB false,qI 0,x421,qI 0,qI 1073741824]++rq 9 (qI 0)++[qL .nilsl]
def gu0 (dl k t:Int) (n m:Nat) (cs:List At):PS2:=⟨[nzp 0 11 0,nzp 3 39 0,nzp 4 11 72],[nzX (jtd dl (qO) (nzv 38 n) (qI 10) (qI (-842384860)) (qS (8000*t))),kr,nzD (k+1),kt,nzP (nzv 41 m)]++(ku++[nzO 41 cs,nzQ 38 (t+1) n,nzB 39 (8000*t)]),42⟩
def gu1 (dl k t:Int) (n m:Nat) (cs:List At):PS2:=⟨[nzp 0 11 0,nzp 3 39 0,nzp 4 11 72],[nzX (jtd dl (qO) (nzv 38 n) (qI 10) (qI (-842384860)) (qS (8000*t))),kr,nzD (k+1),kt,nzP (nzv 41 m)]++(ku++[nzO 41 cs,nzQ 38 (t+1) n,nzB 39 (8000*t)]),42⟩
def gu2 (dl k t:Int) (n m:Nat) (cs:List At):PS2:=⟨[nzp 0 11 0,nzp 3 39 0,nzp 4 11 72,nzp 8 42 0],[nzX (jtd dl (qO) (nzv 38 n) (qI 10) (qI (-842384860)) (qS (8000*t))),kr,nzD (k+1),kt,nzP (nzv 41 m)]++(ku++[nzO 41 cs,nzQ 38 (t+1) n,nzB 39 (8000*t),(42,⟨149,(0,0),0,[qB true]++rq 7 (qB false)++[qI 1125899906842624,qI 5000000,qI 1],none⟩)]),43⟩
def jqW (dl:Int) (x72 x399 x413 x416 x421:Go.Lr.P2):List Go.Lr.P2:=nzR dl++[x72]++rq 324 (qH)++[qL (.ptr 18 0),qL (.ptr 19 0),x399,qL (.ptr 22 0),qL (.ptr 23 0),qL (.ptr 24 0),qL (.ptr 25 0),qL (.ptr 26 0),qL (.ptr 27 0),qL (.ptr 20 0),qI 1,qI 0,qB false,qB false,qL (.ptr 21 0),qB true,x413,qI 0,qI 0,x416,qB true,qB false,qB false,qI 0,x421,qI 0,qI 1073741824]++rq 9 (qI 0)++[qL .nilsl]
def gu3 (dl k t:Int) (n m:Nat) (cs:List At):PS2:=⟨[nzp 0 11 0,nzp 3 39 0,nzp 4 11 72],[nzX (jqW dl (qO) (nzv 38 n) (qI 10) (qI (-842384860)) (qS (8000*t))),kr,nzD (k+1),kt,nzP (nzv 41 m)]++(ku++[nzO 41 cs,nzQ 38 (t+1) n,nzB 39 (8000*t)]),43⟩
def gu4 (dl k t:Int) (n m:Nat) (cs:List At):PS2:=⟨[nzp 0 11 0,nzp 3 39 0,nzp 4 11 72,(186,.one (qB true))],[nzX (jqW dl (qO) (nzv 38 n) (qI 10) (qI (-842384860)) (qS (8000*t))),kr,nzD (k+1),kt,nzP (nzv 41 m)]++(ku++[nzO 41 cs,nzQ 38 (t+1) n,nzB 39 (8000*t)]),43⟩
def gu5 (dl k t:Int) (n m:Nat) (cs:List At):PS2:=⟨[nzp 190 21 0,nzp 191 11 72,(195,.agg (rq 24 (qH))),(197,.one (qS (8000*t)))],[nzX (jqW dl (qO) (nzv 38 n) (qI 10) (qI (-842384860)) (qS (8000*t))),kr,nzD (k+1),kt,nzP (nzv 41 m)]++(ku++[nzO 41 cs,nzQ 38 (t+1) n]),44⟩
def gu6 (dl k t:Int) (n m:Nat) (cs:List At):PS2:=⟨[],[nzX (jqW dl (qO) (nzv 38 n) (qI 10) (qI (-842384860)) (qS (8000*t))),kr,nzD (k+1),kt,nzP (nzv 41 m)]++(ku++[nzO 41 cs,nzQ 38 (t+1) n]),53⟩
theorem jws {dl k t:Int} {n:Nat} (s:Asg):ToP Tryz.prog 199 (c1 (smZ)) (je s (gw0 dl k t n)) .normal (jA (gw1 dl k t n)):=
 nst soundGC [38] [] [] [] (fun s=>xF (t+1) n) jd
theorem jwt {dl k t:Int} {n:Nat} (s:Asg):ToP Tryz.prog 199 (c1 (c2 (smZ))) (je s (gw1 dl k t n)) .normal (jA (gw2 dl k t n)):=
 nst soundGC [38] [] [] [] (fun s=>xF (t+1) n) jd
theorem jwu {dl k t:Int} {n:Nat} (s:Asg):ToP Tryz.prog 199 (c1 (c2 (c2 (smZ)))) (je s (gw2 dl k t n)) .normal (jA (gw3 dl k t n)):=
 nst soundGC [38] [] [] [] (fun s=>xF (t+1) n) jd
theorem jwv {dl k t:Int} {n:Nat} (s:Asg):ToP Tryz.prog 199 (c1 (c1 (c2 (c2 (c2 (smZ)))))) (je s (gw3 dl k t n)) .normal (jA (gw4 dl k t n)):=
 nst soundGC [38] [] [] [] (fun s=>xF (t+1) n) jd
theorem jww {dl k t:Int} {n m:Nat} {cs:List At} (hc:okL noP cs=true) (s:Asg):ToP Tryz.prog 199 (c1 (c2 (c2 (c2 (c2 (smZ)))))) (je s (gu0 dl k t n m cs)) .normal (jA (gu1 dl k t n m cs)):=
 nst soundGC [38,41] [] [] [] (fun s=>xP (t+1) n hc) jd
theorem jwx {dl k t:Int} {n m:Nat} {cs:List At} (hc:okL noP cs=true) (s:Asg):ToP Tryz.prog 199 (c1 (c2 (c2 (c2 (c2 (c2 (smZ))))))) (je s (gu1 dl k t n m cs)) .normal (jA (gu2 dl k t n m cs)):=
 nst soundGC [38,41] [] [] [] (fun s=>xP (t+1) n hc) jd
theorem jwy {dl k t:Int} {n m:Nat} {cs:List At} (hc:okL noP cs=true) (s:Asg):ToP Tryz.prog 199 (c1 (c2 (c2 (c2 (c2 (c2 (c2 (smZ)))))))) (je s (gu2 dl k t n m cs)) .normal (jA (gu2 dl k t n m cs)):=
 nst soundGC [38,41] [] [] [] (fun s=>xP (t+1) n hc) jd
theorem jwz {dl k t:Int} {n m:Nat} {cs:List At} (hc:okL noP cs=true) (s:Asg):ToP Tryz.prog 199 (c1 (c2 (c2 (c2 (c2 (c2 (c2 (c2 (smZ))))))))) (je s (gu2 dl k t n m cs)) .normal (jA (gu2 dl k t n m cs)):=
 nst soundGC [38,41] [] [] [] (fun s=>xP (t+1) n hc) jd
theorem jwA {dl k t:Int} {n m:Nat} {cs:List At} (hc:okL noP cs=true) (s:Asg):ToP Tryz.prog 199 (c1 (c2 (c2 (c2 (c2 (c2 (c2 (c2 (c2 (smZ)))))))))) (je s (gu2 dl k t n m cs)) .normal (jA (gu3 dl k t n m cs)):=
 nst soundGC [38,41] [] [] [] (fun s=>xP (t+1) n hc) jd
theorem jwB {dl k t:Int} {n m:Nat} {cs:List At} (hc:okL noP cs=true) (s:Asg):ToP Tryz.prog 199 (c1 (c2 (c2 (c2 (c2 (c2 (c2 (c2 (c2 (c2 (smZ))))))))))) (je s (gu3 dl k t n m cs)) .normal (jA (gu3 dl k t n m cs)):=
 nst soundGC [38,41] [] [] [] (fun s=>xP (t+1) n hc) jd
theorem jte {dl k t:Int} {n m:Nat} {cs:List At} (hc:okL noP cs=true) (s:Asg):ToP Tryz.prog 199 (c1 (c2 (c2 (c2 (c2 (c2 (c2 (c2 (c2 (c2 (c2 (smZ)))))))))))) (je s (gu3 dl k t n m cs)) .normal (jA (gu4 dl k t n m cs)):=
 nst soundGC [38,41] [] [] [] (fun s=>xP (t+1) n hc) jd
theorem jo3 {dl k t:Int} {n:Nat} (hn:n≤1000) (s:Asg):ToP Tryz.prog 132 lvZ (je s (gv0 dl k t n)) .normal (fun y=>∃cs' m',OutL cs' m' (8000*(t+n))∧m'≤32∧jA (gl6 dl k t 0 n m' cs') y):=by
 refine ToP.of_ToR (N:=40) ?_ (by kernel_rfl) ?_
 ·refine ToR.seq (by kernel_rfl) (ToR.of_ToP (jwh s) (by kernel_rfl)) ?_
  rintro x ⟨s,rfl⟩
  refine ToR.seq (by kernel_rfl) (ToR.of_ToP (jwi s) (by kernel_rfl)) ?_
  rintro x ⟨s,rfl⟩
  refine ToR.seq (by kernel_rfl) (ToR.of_ToP (jwj s) (by kernel_rfl)) ?_
  rintro x ⟨s,rfl⟩
  refine ToR.seq (by kernel_rfl) (ToR.of_ToP (jwk s) (by kernel_rfl)) ?_
  rintro x ⟨s,rfl⟩
  refine ToR.seq (by kernel_rfl) (ToR.of_ToP (jwl s) (by kernel_rfl)) ?_
  rintro x ⟨s,rfl⟩
  refine ToR.seq (by kernel_rfl) (ToR.of_ToP (jwm s) (by kernel_rfl)) ?_
  rintro x ⟨s,rfl⟩
  refine ToR.seq (by kernel_rfl) (ToR.of_ToP (jwn s) (by kernel_rfl)) ?_
  rintro x ⟨s,rfl⟩
  refine ToR.seq (by kernel_rfl) (ToR.of_ToP (jwo s) (by kernel_rfl)) ?_
  rintro x ⟨s,rfl⟩
  refine ToR.seq (by kernel_rfl) (ToR.of_ToP (jwp s) (by kernel_rfl)) ?_
  rintro x ⟨s,rfl⟩
  refine ToR.seq (by kernel_rfl) (ToR.of_ToP (jwq s) (by kernel_rfl)) ?_
  rintro x ⟨s,rfl⟩
  refine ToR.seq (by kernel_rfl) (ToR.of_ToP (js3 s) (by kernel_rfl)) ?_
  rintro x ⟨s,rfl⟩
  refine ToR.seq (by kernel_rfl) (ToR.of_ToP (js4 s) (by kernel_rfl)) ?_
  rintro x ⟨s,rfl⟩
  refine ToR.seq (by kernel_rfl) (jtc s) ?_
  rintro x ⟨s,rfl⟩
  refine ToR.seq (by kernel_rfl) (ToR.of_ToP (js6 (i:=0) (jbi t).all.ok s) (by kernel_rfl)) ?_
  rintro x ⟨s,rfl⟩
  have hO:OutL (lvO t) 1 (8000*(t+0)):=by rw [Int.add_zero];exact jbi t
  have e:je s (gl2 dl k t 0 n 1 (lvO t))=je s (gl1 dl k t 0 n 1 (lvO t)):=by kernel_rfl
  rw [e]
  exact ToR.block (id:=0) (e:= .exit 0) (by kernel_rfl) (ToR.loop (m:=n+1) (by kernel_rfl) (jfJ hn n 0 1 (lvO t) (Int.le_refl 0) (by omega) hO (by omega) s)) (.inl rfl)
 ·rintro x ⟨cs',m',h1,h2,s',rfl⟩
  kernel_rfl
def tbx (t:Int):Mem:=[(39,⟨58,(0,0),0,(nzI (8000*t))⟩)]
theorem jjE {t:Int} {i:Nat} (h:(getM (tbx t) i).isSome):i=39:=by
 unfold tbx at h
 rw [jm] at h
 split at h
 ·assumption
 ·cases h
def tL (s:Asg) (dl k t:Int) (n:Nat):List LV:=(je s (gv0 dl k t n)).live.map (·.2)
theorem t_1 {dl k t:Int} {n:Nat} (s:Asg):ToO Tryz.prog 199 (xL (c1 (c2 (c1 (c2 (c2 (c2 (smZ)))))))) 0 2 (je s (gw4 dl k t n)) (jA (gw5 dl k t n)):=
 ToO.run2 (z:=⟨false,false,false⟩) (n:=20000) (dec:=[]) (mask:=[]) (os:=[]) (es:=Kv (gw5 dl k t n)) soundGC (by kernel_rfl) (by kernel_rfl) (fun dead=>by kernel_rfl) jd (ke _) (fun s=>ZN 38 (t+1) n) (by kernel_rfl)
theorem jtf {dl k t:Int} {n:Nat} (hn:n≤1000) (s:Asg):
  ToP Tryz.prog 132 lvZ ⟨jS 0 (tL s dl k t n),(je s (gw5 dl k t n)).mem,(je s (gw5 dl k t n)).nb⟩ .normal (fun y=>∃x,(∃cs' m',OutL cs' m' (8000*(t+n))∧m'≤32∧jA (gl6 dl k t 0 n m' cs') x)∧y=⟨x.live,x.mem++tbx t,x.nb⟩):=by
 have h:=jo3 (dl:=dl) (k:=k) (t:=t) hn s
 have e:je s (gv0 dl k t n)=⟨jS 0 (tL s dl k t n),(je s (gv0 dl k t n)).mem,40⟩:=by kernel_rfl
 have e1:(je s (gw5 dl k t n)).mem=(je s (gv0 dl k t n)).mem++tbx t:=by kernel_rfl
 have e2:(je s (gw5 dl k t n)).nb=40:=by kernel_rfl
 have hK:KstOK (je s (gv0 dl k t n)):=ZN 38 (t+1) n
 have hd:∀i,(getM (tbx t) i).isSome→getM (je s (gv0 dl k t n)).mem i=none:=fun i hi=>by
  obtain rfl:=jjE hi
  kernel_rfl
 rw [e] at h hK
 rw [e1,e2]
 refine ToP.frame h hK hd (fun x hx i hi=> ?_) (fun x hx=> ?_)
 ·obtain ⟨cs',m',h1,h2,s',rfl⟩:=hx
  obtain rfl:=jjE hi
  kernel_rfl
 ·obtain ⟨cs',m',h1,h2,s',rfl⟩:=hx
  exact yg 38 41 (t+1) n h1.all.ok
theorem t_2 {dl k t:Int} {n:Nat} (hn:n≤1000) (s:Asg):
  ToO Tryz.prog 199 (xL (c1 (c2 (c1 (c2 (c2 (c2 (smZ)))))))) 2 1 (je s (gw5 dl k t n)) (fun y=>∃cs' m',OutL cs' m' (8000*(t+n))∧m'≤32∧jA (gu0 dl k t n m' cs') y):=by
 refine ToO.less (ToO.callK (sz:=199) (c:=lvZ) (A:=je s (gw5 dl k t n)) (t:=29) (f:=53) (args:=tL s dl k t n) (e:= .normal) (v:=fun _=> .tup []) soundGC [0,3,4] (fun dead=>by kernel_rfl) Tryz.func53 (by kernel_rfl) (by kernel_rfl) (by kernel_rfl) (by kernel_rfl) (jtf hn s) (.inl rfl) ?_ ?_) ?_
 ·rintro y ⟨x,⟨cs',m',h1,h2,s',rfl⟩,rfl⟩ dead
  kernel_rfl
 ·rintro y ⟨x,⟨cs',m',h1,h2,s',rfl⟩,rfl⟩
  exact yg 38 41 (t+1) n h1.all.ok
 ·rintro z ⟨y,⟨x,⟨cs',m',h1,h2,s',rfl⟩,rfl⟩,rfl⟩
  exact ⟨je s' (gu0 dl k t n m' cs'),[(29,.tup [])],[],⟨cs',m',h1,h2,s',rfl⟩,yg 38 41 (t+1) n h1.all.ok,by kernel_rfl,by kernel_rfl,by kernel_rfl⟩
theorem jwC {dl k t:Int} {n:Nat} (hn:n≤1000) (s:Asg):ToP Tryz.prog 199 (c1 (c2 (c1 (c2 (c2 (c2 (smZ))))))) (je s (gw4 dl k t n)) .normal (fun y=>∃cs' m',OutL cs' m' (8000*(t+n))∧m'≤32∧jA (gu0 dl k t n m' cs') y):=by
 refine ToP.of_ToO (n:=3) (by kernel_rfl) (by kernel_rfl) (ToO.seq (m:=2) (m':=1) (t_1 s) ?_)
 rintro x ⟨s,rfl⟩
 exact t_2 hn s
def tPx (s:Asg) (dl k t:Int) (n m:Nat) (cs:List At):Kst:=je s (gu5 dl k t n m cs)
def tPs (s:Asg):Asg:=⟨s.F,s.G,fun a i=>if a=2 then s.fs 195 i else s.fs a i,s.gs⟩
def tA (f:Nat→Int) (g:Nat→Bool) (n m:Nat) (cs:List At) (tt:Int):PS2:=qE f g m n cs [nzp 0 21 0,nzp 1 11 72,(2,.agg (rq 24 (qH))),(3,.one (qS tt))] [] 44
def tPa (s:Asg) (dl k t:Int) (n m:Nat) (cs:List At):Kst:=je (tPs s) (tA (fOf (tPx s dl k t n m cs)) (gOf (tPx s dl k t n m cs)) n m cs (8000*t))
def tPl (s:Asg) (dl k t:Int) (n m:Nat) (cs:List At):List LV:=(tPa s dl k t n m cs).live.map (·.2)
theorem jwD {dl k t:Int} {n m:Nat} {cs:List At} (s:Asg):(tPx s dl k t n m cs).mem=(tPa s dl k t n m cs).mem++lPr t n:=by kernel_rfl
theorem jo4 {dl k t:Int} {n m:Nat} {cs:List At} (hc:AllI cs (m*11)) (hp:1≤m) (hm:m≤32) (s:Asg):
  ToP Tryz.prog 99 KF ⟨jS 0 (tPl s dl k t n m cs),(tPx s dl k t n m cs).mem,(tPx s dl k t n m cs).nb⟩ .ret (fun y=>∃x,(∃cs' v,SameT cs cs' m∧jA (qE (fOf (tPx s dl k t n m cs)) (gOf (tPx s dl k t n m cs)) m n cs' [nzi 8 v] [] 53) x)∧y=⟨x.live,x.mem++lPr t n,x.nb⟩):=by
 have h:=jeP (f:=fOf (tPx s dl k t n m cs)) (g:=gOf (tPx s dl k t n m cs)) (n:=n) (tt:=8000*t) hc hm hp (tPs s)
 have e:je (tPs s) (tA (fOf (tPx s dl k t n m cs)) (gOf (tPx s dl k t n m cs)) n m cs (8000*t))=⟨jS 0 (tPl s dl k t n m cs),(tPa s dl k t n m cs).mem,44⟩:=by kernel_rfl
 have e2:(tPx s dl k t n m cs).nb=44:=by kernel_rfl
 unfold tA at e
 rw [e] at h
 rw [jwD,e2]
 refine ToP.frame h ?_ (fun i hi=> ?_) (fun x hx i hi=> ?_) (fun x hx=> ?_)
 ·rw [←e]
  exact jmy (by kernel_rfl) (by kernel_rfl) (cs:=cs) (ty:=38) (by kernel_rfl) hc.ok
 ·obtain rfl:=jcL hi
  kernel_rfl
 ·obtain ⟨cs',v,h1,s',rfl⟩:=hx
  obtain rfl:=jcL hi
  kernel_rfl
 ·obtain ⟨cs',v,h1,s',rfl⟩:=hx
  exact yg 38 41 (t+1) n h1.all.ok
theorem jlo {dl k t:Int} {n m:Nat} {cs:List At} (hc:AllI cs (m*11)) (hp:1≤m) (hm:m≤32) (s:Asg):
  ToO Tryz.prog 199 (xL (c1 (c2 (c2 (c2 (c2 (c2 (c2 (c2 (c2 (c2 (c2 (c2 (smZ)))))))))))))) 11 1 (je s (gu5 dl k t n m cs)) (fun y=>∃cs',SameT cs cs' m∧jA (gu6 dl k t n m cs') y):=by
 refine ToO.weak (ToO.callK (sz:=199) (c:=KF) (A:=tPx s dl k t n m cs) (t:=198) (f:=61) (args:=tPl s dl k t n m cs) (e:= .ret) (v:=fun x=>(jdM 8 x.live).getD (I 0)) soundGC [] (fun dead=>by kernel_rfl) Tryz.func61 (by kernel_rfl) (by kernel_rfl) (by kernel_rfl) (by kernel_rfl) (jo4 hc hp hm s) (.inr rfl) ?_ ?_) ?_
 ·rintro y ⟨x,⟨cs',v,h1,s',rfl⟩,rfl⟩ dead
  kernel_rfl
 ·rintro y ⟨x,⟨cs',v,h1,s',rfl⟩,rfl⟩
  exact yg 38 41 (t+1) n h1.all.ok
 ·rintro z ⟨y,⟨x,⟨cs',v,h1,s',rfl⟩,rfl⟩,rfl⟩
  refine ⟨je ⟨s.F,fun b i=>if b=11 then s'.G b i else s.G b i,s.fs,s.gs⟩ (gu6 dl k t n m cs'),[(198,I v)],⟨cs',h1,_,rfl⟩,yg 38 41 (t+1) n h1.all.ok,by kernel_rfl,fun i b hb=> ?_,by kernel_rfl⟩
  have e1:(je ⟨s.F,fun b i=>if b=11 then s'.G b i else s.G b i,s.fs,s.gs⟩ (gu6 dl k t n m cs')).mem=(je s' (qE (fOf (tPx s dl k t n m cs)) (gOf (tPx s dl k t n m cs)) m n cs' [nzi 8 v] [] 53)).mem++lPr t n:=by kernel_rfl
  rw [e1] at hb
  exact hb
theorem jo5 {dl k t:Int} {n m:Nat} {cs:List At} (hc:AllI cs (m*11)) (hp:1≤m) (hm:m≤32) (s:Asg):
  ToP Tryz.prog 199 (c2 (c2 (c2 (c2 (c2 (c2 (c2 (c2 (c2 (c2 (c2 smZ))))))))))) (je s (gu4 dl k t n m cs)) .normal (fun y=>∃cs',SameT cs cs' m∧jA (gu6 dl k t n m cs') y):=by
 refine ToP.cond (t:=186) (b:=true) (by kernel_rfl) (by kernel_rfl) ?_
 show ToP Tryz.prog 199 (c1 (c2 (c2 (c2 (c2 (c2 (c2 (c2 (c2 (c2 (c2 (c2 (smZ))))))))))))) _ _ _
 refine ToP.draw (by kernel_rfl) fun id=> ?_
 exact ToP.drawCall (m:=11) (z:=⟨false,false,false⟩) (dec:=[]) (mask:=[]) (os:=[]) (es:=Kv (gu5 dl k t n m cs)) (p:=(gu5 dl k t n m cs)) soundGC (by kernel_rfl) (by kernel_rfl) (by kernel_rfl) (by kernel_rfl) (fun dead=>by kernel_rfl) jd (ke _)
  (fun s=>yg 38 41 (t+1) n hc.ok) (by kernel_rfl) (jlo hc hp hm)
theorem stT {dl k t:Int} {n:Nat} (hn:n≤1000) (s:Asg):ToP Tryz.prog 199 smZ (je s (gw0 dl k t n)) .normal (fun y=>∃cs' m',OutL cs' m' (8000*(t+n))∧m'≤32∧jA (gu6 dl k t n m' cs') y):=by
 refine ToP.seq (by kernel_rfl) (jws s) ?_
 rintro x ⟨s,rfl⟩
 refine ToP.seq (by kernel_rfl) (jwt s) ?_
 rintro x ⟨s,rfl⟩
 refine ToP.seq (by kernel_rfl) (jwu s) ?_
 rintro x ⟨s,rfl⟩
 refine ToP.seq (by kernel_rfl) (ToP.seq (by kernel_rfl) (jwv s) ?_) (B:=fun y=>∃cs' m',OutL cs' m' (8000*(t+n))∧m'≤32∧jA (gu0 dl k t n m' cs') y) ?_
 ·rintro x ⟨s,rfl⟩
  exact ToP.cond (t:=26) (b:=true) (by kernel_rfl) (by kernel_rfl) (jwC hn s)
 rintro x ⟨cs',m',h1,h2,s,rfl⟩
 have hc:=h1.all.ok
 refine ToP.seq (by kernel_rfl) (jww hc s) ?_
 rintro x ⟨s,rfl⟩
 refine ToP.seq (by kernel_rfl) (jwx hc s) ?_
 rintro x ⟨s,rfl⟩
 refine ToP.seq (by kernel_rfl) (jwy hc s) ?_
 rintro x ⟨s,rfl⟩
 refine ToP.seq (by kernel_rfl) (jwz hc s) ?_
 rintro x ⟨s,rfl⟩
 refine ToP.seq (by kernel_rfl) (jwA hc s) ?_
 rintro x ⟨s,rfl⟩
 refine ToP.seq (by kernel_rfl) (jwB hc s) ?_
 rintro x ⟨s,rfl⟩
 refine ToP.seq (by kernel_rfl) (jte hc s) ?_
 rintro x ⟨s,rfl⟩
 refine (jo5 h1.all h1.pos h2 s).mono ?_
 rintro y ⟨c2,h3,hy⟩
 exact ⟨c2,m',h1.same h3,h2,hy⟩
end Go.Proofs.YtbpfipbhaagllaaGreat

/- TopNow: Imu ahead of the tilt, and at it. -/
namespace Go.Proofs.YtbpfipbhaagllaaGreat
open Go.Lr
set_option maxRecDepth 100000
def gw6 (dl k t:Int) (n:Nat):PS2:=⟨[nzp 0 11 0,nzi 4 0,nzi 5 0,nzp 6 34 0,nzi 9 0,nzp 96 11 0,(97,.agg (nzA (8000*t)))],[nzX (jln dl (qB false) (nzv 38 n) (qI 9) (qI (-758146374)) (qS (8000*(t - 1)))),kr,nzD (k+1),kt,nzP (qL .nilsl)]++(ku++[nzQ 38 (t+1) n,nzB 34 (8000*(k+1))]),39⟩
def Qy (dl:Int) (x72 x399 x413 x416 x421:Go.Lr.P2):List Go.Lr.P2:=nzR dl++[x72,qI 1073741824]++rq 299 (qI 0)++[qI 68719476736,qI 68719476736,qI 68719476736,qI 68719476736,qI 17592186044416,qI 17592186044416,qI 17592186044416,qI 17592186044416,qI 17592186044416,qI 17592186044416,qI 67108864,qI 67108864,qI 67108864,qI 4294967296,qI 4294967296,qI 4294967296,qI 17179869184,qI 17179869184,qI 17179869184,qI 17179869184,qI 17179869184,qI 17179869184,qI 17592186044416,qI 17592186044416,qL (.ptr 18 0),qL (.ptr 19 0),x399,qL (.ptr 22 0),qL (.ptr 23 0),qL (.ptr 24 0),qL (.ptr 25 0),qL (.ptr 26 0),qL (.ptr 27 0),qL (.ptr 20 0),qI 0,qI 0,qB false,qB false,qL (.ptr 21 0),qB false,x413,qI 0,qI 0,x416,qB false,qB false,qB false,qI 0,x421,qI 0,qI 1073741824]++rq 9 (qI 0)++[qL .nilsl]
def gi0 (dl k t i ft:Int) (n:Nat):PS2:=⟨[nzp 0 11 0,(1,.agg (nzA (8000*(k+1))))],[nzX (Qy dl (qB false) (qL .nilsl) (qS (0)) (qS (-84238486*(0))) (qS (0))),kr,(19,⟨130,(0,0),0,[qI 8000]++rq 8 (qI 0)++[qB false],none⟩),kt,nzP (qL .nilsl)]++(ku++[]),29⟩
def gi1 (dl k t i ft:Int) (n:Nat):PS2:=⟨[nzp 0 11 0,nzp 3 29 0,nzi 4 0,nzi 5 0],[nzX (Qy dl (qB false) (qL .nilsl) (qS (0)) (qS (-84238486*(0))) (qS (0))),kr,(19,⟨130,(0,0),0,[qI 8000]++rq 8 (qI 0)++[qB false],none⟩),kt,nzP (qL .nilsl)]++(ku++[nzB 29 (8000*(k+1))]),30⟩
def gi2 (dl k t i ft:Int) (n:Nat):PS2:=⟨[nzp 0 11 0,nzi 4 0,nzi 5 0,nzp 6 33 0,(7,.one (qB true)),nzi 8 0],[nzX (Qy dl (qB false) (qL .nilsl) (qS (0)) (qS (-84238486*(0))) (qS (0))),kr,nzD (k+1),kt,nzP (qL .nilsl)]++(ku++[nzB 33 (8000*(k+1))]),34⟩
def gi3 (dl k t i ft:Int) (n:Nat):PS2:=⟨[nzp 0 11 0,nzi 4 0,nzi 5 0,nzp 6 33 0],[nzX (Qy dl (qB false) (qL .nilsl) (qS (0)) (qS (-84238486*(0))) (qS (0))),kr,nzD (k+1),kt,nzP (qL .nilsl)]++(ku++[nzB 33 (8000*(k+1))]),34⟩
def gi4 (dl k t i ft:Int) (n:Nat):PS2:=⟨[nzp 0 11 0,nzi 4 0,nzi 5 0,nzp 6 33 0],[nzX (Qy dl (qB false) (qL (.slu 35 1)) (qS (0)) (qS (-84238486*(0))) (qS (0))),kr,nzD (k+1),kt,nzP (qL .nilsl)]++(ku++[nzB 33 (8000*(k+1)),(35,⟨58,(0,0),8,(nzA (8000*(k+1))),none⟩)]),36⟩
def gi5 (dl k t i ft:Int) (n:Nat):PS2:=⟨[nzp 0 11 0,nzi 4 0,nzi 5 0,nzp 6 33 0,nzi 9 0],[nzX (Qy dl (qB false) (qL (.slu 35 1)) (qS (0)) (qS (-84238486*(0))) (qS (0))),kr,nzD (k+1),kt,nzP (qL .nilsl)]++(ku++[nzB 33 (8000*(k+1)),(35,⟨58,(0,0),8,(nzA (8000*(k+1))),none⟩)]),36⟩
def gi6 (dl k t i ft:Int) (n:Nat):PS2:=⟨[nzp 0 11 0,(1,.agg (nzA (8000*(k+1))))],[nzX (Qy dl (qB false) (nzv 29 n) (qS (i)) (qS (-84238486*(i))) (qS (ft))),kr,nzD k,kt,nzP (qL .nilsl)]++(ku++[nzQ 29 t n]),30⟩
def gi7 (dl k t i ft:Int) (n:Nat):PS2:=⟨[nzp 0 11 0,nzp 3 30 0,nzi 4 0,nzi 5 0],[nzX (Qy dl (qB false) (nzv 29 n) (qS (i)) (qS (-84238486*(i))) (qS (ft))),kr,nzD k,kt,nzP (qL .nilsl)]++(ku++[nzQ 29 t n,nzB 30 (8000*(k+1))]),31⟩
def gi8 (dl k t i ft:Int) (n:Nat):PS2:=⟨[nzp 0 11 0,nzi 4 0,nzi 5 0,nzp 6 34 0,(7,.one (qB true)),nzi 8 0],[nzX (Qy dl (qB false) (nzv 29 n) (qS (i)) (qS (-84238486*(i))) (qS (ft))),kr,nzD (k+1),kt,nzP (qL .nilsl)]++(ku++[nzQ 29 t n,nzB 34 (8000*(k+1))]),35⟩
def gi9 (dl k t i ft:Int) (n:Nat):PS2:=⟨[nzp 0 11 0,nzi 4 0,nzi 5 0,nzp 6 34 0],[nzX (Qy dl (qB false) (nzv 29 n) (qS (i)) (qS (-84238486*(i))) (qS (ft))),kr,nzD (k+1),kt,nzP (qL .nilsl)]++(ku++[nzQ 29 t n,nzB 34 (8000*(k+1))]),35⟩
def jqJ (dl k t i ft:Int) (n:Nat):PS2:=⟨[nzp 0 11 0,nzi 4 0,nzi 5 0,nzp 6 34 0],[nzX (Qy dl (qB false) (nzv 36 (n+1)) (qS (i)) (qS (-84238486*(i))) (qS (ft))),kr,nzD (k+1),kt,nzP (qL .nilsl)]++(ku++[nzB 34 (8000*(k+1)),nzQ 36 t (n+1)]),37⟩
def juH (dl k t i ft:Int) (n:Nat):PS2:=⟨[nzp 0 11 0,nzi 4 0,nzi 5 0,nzp 6 34 0],[nzX (Qy dl (qB false) (nzv 36 (n+1)) (qS (i)) (qS (-84238486*(i))) (qS (ft))),kr,nzD (k+1),kt,nzP (qL .nilsl)]++(ku++[nzB 34 (8000*(k+1)),(36,⟨58,(0,0),8,[],some (XG ((jO t n).take (n*8)) (nzI (8000*(k+1))))⟩)]),37⟩
def jdN (dl k t i ft:Int) (n:Nat):PS2:=⟨[nzp 0 11 0,nzi 4 0,nzi 5 0,nzp 6 34 0,nzi 9 0],[nzX (Qy dl (qB false) (nzv 36 (n+1)) (qS (i)) (qS (-84238486*(i))) (qS (ft))),kr,nzD (k+1),kt,nzP (qL .nilsl)]++(ku++[nzB 34 (8000*(k+1)),nzQ 36 t (n+1)]),37⟩
def juI (dl k t i ft:Int) (n:Nat):PS2:=⟨[nzp 0 11 0,nzi 4 0,nzi 5 0,nzi 9 0],[nzX (Qy dl (qB false) (nzv 36 (n+1)) (qS (i)) (qS (-84238486*(i))) (qS (ft))),kr,nzD (k+1),kt,nzP (qL .nilsl)]++(ku++[nzQ 36 t (n+1)]),37⟩
def jg9 (dl k t i ft:Int) (n:Nat):PS2:=⟨[nzp 0 11 0,nzi 4 0,nzi 5 0],[nzX (Qy dl (qB false) (nzv 36 (n+1)) (qS (i)) (qS (-84238486*(i))) (qS (ft))),kr,nzD (k+1),kt,nzP (qL .nilsl)]++(ku++[nzQ 36 t (n+1)]),37⟩
def juJ (dl k t i ft:Int) (n:Nat):PS2:=⟨[nzp 0 11 0,nzi 4 0,nzi 5 0,nzp 6 34 0,nzi 9 0,nzp 10 37 0],[nzX (Qy dl (qB false) (nzv 36 (n+1)) (qS (i)) (qS (-84238486*(i))) (qS (ft))),kr,nzD (k+1),kt,nzP (qL .nilsl)]++(ku++[nzB 34 (8000*(k+1)),nzQ 36 t (n+1),nzB 37 (8000*t)]),38⟩
def jcE (dl k t i ft:Int) (n:Nat):PS2:=⟨[nzp 0 11 0,nzi 4 0,nzi 5 0,nzp 6 34 0,nzi 9 0,nzp 10 37 0],[nzX (Qy dl (qB false) (nzv 38 n) (qS (i)) (qS (-84238486*(i))) (qS (ft))),kr,nzD (k+1),kt,nzP (qL .nilsl)]++(ku++[nzB 34 (8000*(k+1)),nzB 37 (8000*t),nzQ 38 (t+1) n]),39⟩
def jeE (dl k t i ft:Int) (n:Nat):PS2:=⟨[nzp 0 11 0,nzi 4 0,nzi 5 0,nzp 6 34 0,nzi 9 0],[nzX (Qy dl (qB false) (nzv 38 n) (qS (i)) (qS (-84238486*(i))) (qS (8000*t))),kr,nzD (k+1),kt,nzP (qL .nilsl)]++(ku++[nzB 34 (8000*(k+1)),nzQ 38 (t+1) n]),60⟩
def jqK (dl k t i ft:Int) (n:Nat):PS2:=⟨[nzp 0 11 0,nzi 4 0,nzi 5 0,nzp 6 34 0,nzi 9 1],[nzX (Qy dl (qB false) (nzv 38 n) (qS (i)) (qS (-84238486*(i))) (qS (8000*t))),kr,nzD (k+1),kt,nzP (qL .nilsl)]++(ku++[nzB 34 (8000*(k+1)),nzQ 38 (t+1) n]),60⟩
def jqL (dl k t i ft:Int) (n:Nat):PS2:=⟨[nzp 0 11 0,nzi 4 0,nzi 5 0,nzi 9 1],[nzX (Qy dl (qB false) (nzv 38 n) (qS (i)) (qS (-84238486*(i))) (qS (8000*t))),kr,nzD (k+1),kt,nzP (qL .nilsl)]++(ku++[nzQ 38 (t+1) n]),60⟩
def joG (dl k t i ft:Int) (n:Nat):PS2:=⟨[nzp 0 11 0,nzi 4 1,nzi 5 0],[nzX (Qy dl (qB false) (nzv 38 n) (qS (i)) (qS (-84238486*(i))) (qS (8000*t))),kr,nzD (k+1),kt,nzP (qL .nilsl)]++(ku++[nzQ 38 (t+1) n]),60⟩
def jqM (dl:Int) (x72 x399 x413 x416 x421:Go.Lr.P2):List Go.Lr.P2:=nzR dl++[x72]++rq 324 (qH)++[qL (.ptr 18 0),qL (.ptr 19 0),x399,qL (.ptr 22 0),qL (.ptr 23 0),qL (.ptr 24 0),qL (.ptr 25 0),qL (.ptr 26 0),qL (.ptr 27 0),qL (.ptr 20 0),qI 1,qI 0,qB false,qB false,qL (.ptr 21 0),qB true,x413,qI 0,qI 0,x416,qB true,qB false,qB false,qI 0,x421,qI 0,qI 1073741824]++rq 9 (qI 0)++[qL .nilsl]
def gr0 (dl k t:Int) (n m:Nat) (cs:List At):PS2:=⟨[nzp 0 11 0,nzi 4 0,nzi 5 0,nzp 6 34 0,nzi 9 0],[nzX (jqM dl (qO) (nzv 38 n) (qI 10) (qI (-842384860)) (qS (8000*t))),kr,nzD (k+1),kt,nzP (nzv 41 m)]++(ku++[nzO 41 cs,nzQ 38 (t+1) n,nzB 34 (8000*(k+1))]),53⟩
def gr1 (dl k t:Int) (n m:Nat) (cs:List At):PS2:=⟨[nzp 0 11 0,nzi 4 0,nzi 5 0,nzp 6 34 0,nzi 9 1],[nzX (jqM dl (qO) (nzv 38 n) (qI 10) (qI (-842384860)) (qS (8000*t))),kr,nzD (k+1),kt,nzP (nzv 41 m)]++(ku++[nzO 41 cs,nzQ 38 (t+1) n,nzB 34 (8000*(k+1))]),53⟩
def gr2 (dl k t:Int) (n m:Nat) (cs:List At):PS2:=⟨[nzp 0 11 0,nzi 4 0,nzi 5 0,nzi 9 1],[nzX (jqM dl (qO) (nzv 38 n) (qI 10) (qI (-842384860)) (qS (8000*t))),kr,nzD (k+1),kt,nzP (nzv 41 m)]++(ku++[nzO 41 cs,nzQ 38 (t+1) n]),53⟩
def gr3 (dl k t:Int) (n m:Nat) (cs:List At):PS2:=⟨[nzp 0 11 0,nzi 4 1,nzi 5 0],[nzX (jqM dl (qO) (nzv 38 n) (qI 10) (qI (-842384860)) (qS (8000*t))),kr,nzD (k+1),kt,nzP (nzv 41 m)]++(ku++[nzO 41 cs,nzQ 38 (t+1) n]),53⟩
theorem jvD {dl k:Int} (s:Asg):ToP Tryz.prog 102 (c1 (imZ)) (je s (gi0 dl k 1 0 0 0)) .normal (jA (gi1 dl k 1 0 0 0)):=
 nst soundGC [] [] [] [] (fun s i b hb hi=>nomatch hi) jd
theorem jvE {dl k:Int} (h0:0≤k) (h1:k≤1000) (s:Asg):ToP Tryz.prog 102 (c1 (c2 (imZ))) (je s (gi1 dl k 1 0 0 0)) .normal (jA (gi2 dl k 1 0 0 0)):=
 nst soundGC [] [false,false,false,false,false,false,false,false,false,false,false,false,false,false,false,false,false,false,false,true] [] [(jbf (8000*(k+1)) 8000 0 0 0 0 0 (-84238486),true)] (fun s i b hb hi=>nomatch hi) (jk6 (jk7 (by omega) (by omega)))
theorem jvF {dl k:Int} (s:Asg):ToP Tryz.prog 102 (c1 (c2 (c2 (imZ)))) (je s (gi2 dl k 1 0 0 0)) .normal (jA (gi3 dl k 1 0 0 0)):=
 nst soundGC [] [] [] [] (fun s i b hb hi=>nomatch hi) jd
theorem jvG {dl k:Int} (s:Asg):ToP Tryz.prog 102 (c1 (c2 (c2 (c2 (imZ))))) (je s (gi3 dl k 1 0 0 0)) .normal (jA (gi3 dl k 1 0 0 0)):=
 nst soundGC [] [] [] [] (fun s i b hb hi=>nomatch hi) jd
theorem jvH {dl k:Int} (s:Asg):ToP Tryz.prog 102 (c1 (c2 (c2 (c2 (c2 (imZ)))))) (je s (gi3 dl k 1 0 0 0)) .normal (jA (gi4 dl k 1 0 0 0)):=
 nst soundGC [] [false] [] [] (fun s i b hb hi=>nomatch hi) jd
theorem jvI {dl k:Int} (s:Asg):ToP Tryz.prog 102 (c1 (c2 (c2 (c2 (c2 (c2 (imZ))))))) (je s (gi4 dl k 1 0 0 0)) .normal (jA (gi5 dl k 1 0 0 0)):=
 nst soundGC [] [] [] [] (fun s i b hb hi=>nomatch hi) jd
theorem jvJ {dl k t i ft:Int} {n:Nat} (s:Asg):ToP Tryz.prog 102 (c1 (imZ)) (je s (gi6 dl k t i ft n)) .normal (jA (gi7 dl k t i ft n)):=
 nst soundGC [29] [] [] [] (fun s=>xF t n) jd
theorem jvK {dl k t i ft:Int} {n:Nat} (h0:0≤k) (h1:k≤1000) (s:Asg):ToP Tryz.prog 102 (c1 (c2 (imZ))) (je s (gi7 dl k t i ft n)) .normal (jA (gi8 dl k t i ft n)):=
 nst soundGC [29] [false,false,false,false,false,false,false,false,false,false,false,false,false,false,false,false,false,false,true,true] [] [(decide (8000*(k+1)≤8000*k),false),(jbf (8000*(k+1)) 8000 0 0 0 0 0 (-84238486),true)] (fun s=>xF t n) (joL (decide_eq_false (by omega)) (jk7 (by omega) (by omega)))
theorem jvL {dl k t i ft:Int} {n:Nat} (s:Asg):ToP Tryz.prog 102 (c1 (c2 (c2 (imZ)))) (je s (gi8 dl k t i ft n)) .normal (jA (gi9 dl k t i ft n)):=
 nst soundGC [29] [] [] [] (fun s=>xF t n) jd
theorem jvM {dl k t i ft:Int} {n:Nat} (s:Asg):ToP Tryz.prog 102 (c1 (c2 (c2 (c2 (imZ))))) (je s (gi9 dl k t i ft n)) .normal (jA (gi9 dl k t i ft n)):=
 nst soundGC [29] [] [] [] (fun s=>xF t n) jd
theorem jsl {dl k t i ft:Int} {n:Nat} (hk:k+1=t+n):(juH dl k t i ft n)=(jqJ dl k t i ft n):=by unfold juH jqJ;rw [XO hk rfl]
theorem jvN {dl k t i ft:Int} {n:Nat} (hk:k+1=t+n) (hn:n≤1000) (s:Asg):ToP Tryz.prog 102 (c1 (c2 (c2 (c2 (c2 (imZ)))))) (je s (gi9 dl k t i ft n)) .normal (jA (jqJ dl k t i ft n)):=by
 have e:=jsl (dl:=dl) (i:=i) (ft:=ft) hk
 rw [←e]
 exact nst soundGC [36] [true,true] [] [(Nat.ble ((n+1)*65) 140737488355328&&true,true),(decide (n*8≤(jO t n).length),true)] (fun s=>jlk (ty:=58) (t:=t) (n:=n+1) (by rw [e];kernel_rfl)) (joL (by rw [Kx];simp;omega) (decide_eq_true (by rw [qJ];omega)))
theorem jvO {dl k t i ft:Int} {n:Nat} (s:Asg):ToP Tryz.prog 102 (c1 (c2 (c2 (c2 (c2 (c2 (imZ))))))) (je s (jqJ dl k t i ft n)) .normal (jA (jdN dl k t i ft n)):=
 nst soundGC [36] [] [] [] (fun s=>xF t (n+1)) jd
theorem jvP {dl k t i ft:Int} {n:Nat} (h0:0≤k) (h1:k≤1000) (d0:0≤dl) (d1:dl≤300000) (hs:8000*(k+1) - dl<8000*t) (s:Asg):ToP Tryz.prog 102 (c1 (c1 (c1 (c2 (c2 (c2 (c2 (c2 (c2 (imZ)))))))))) (je s (jdN dl k t i ft n)) (.exit 0) (jA (juI dl k t i ft n)):=
 nst soundGC [36] [true,true,true,true,true,true,true,true,true,true,true,true,false,true,true,true,true,true,true,true] (tt 17 (ff 1 [])) (ra 1 (decide (8000*t≤wr .i64 (8000*(k+1) - dl)),false) (ra 13 (decide (((n+1:Nat):Int)>0),true) (ra 1 (decide ((0:Int)≤0)&&decide ((0:Int)<((n+1:Nat):Int)),true) (ra 4 (decide (((n+1:Nat):Int)>0),true) [])))) (fun s=>xF t (n+1)) (j9 (decide_eq_false (by rw [Go.Lr.w1 (by omega)];omega)) (j9 (decide_eq_true (by omega)) (j9 (by rw [decide_eq_true (Int.le_refl 0),decide_eq_true (by omega)];rfl) (j9 (decide_eq_true (by omega)) jd _) _) _) _)
theorem jvQ {dl k t i ft:Int} {n:Nat} (s:Asg):ToP Tryz.prog 102 (c1 (c2 (c2 (c2 (c2 (c2 (c2 (c2 (imZ))))))))) (je s (juI dl k t i ft n)) .normal (jA (jg9 dl k t i ft n)):=
 nst soundGC [36] [] [] [] (fun s=>xF t (n+1)) jd
theorem jvR {dl k t i ft:Int} {n:Nat} (s:Asg):ToP Tryz.prog 102 (c2 (c2 (c2 (c2 (c2 (c2 (c2 (c2 (imZ))))))))) (je s (jg9 dl k t i ft n)) .ret (jA (jg9 dl k t i ft n)):=
 nst soundGC [36] [] [] [] (fun s=>xF t (n+1)) jd
theorem gA {dl k t i ft:Int} {n:Nat} (h0:0≤k) (h1:k≤1000) (d0:0≤dl) (d1:dl≤300000) (hs:8000*t≤8000*(k+1) - dl) (s:Asg):ToP Tryz.prog 102 (c1 (c1 (c1 (c1 (c2 (c2 (c2 (c2 (c2 (c2 (imZ))))))))))) (je s (jdN dl k t i ft n)) .normal (jA (jdN dl k t i ft n)):=
 nst soundGC [36] [true,true,true,true,true,true,true,true,true,true,true,true,false,true,true,true,true,true,true,true] (tt 17 (tt 1 [])) (ra 1 (decide (8000*t≤wr .i64 (8000*(k+1) - dl)),true) (ra 13 (decide (((n+1:Nat):Int)>0),true) (ra 1 (decide ((0:Int)≤0)&&decide ((0:Int)<((n+1:Nat):Int)),true) (ra 4 (decide (((n+1:Nat):Int)>0),true) [])))) (fun s=>xF t (n+1)) (j9 (decide_eq_true (by rw [Go.Lr.w1 (by omega)];omega)) (j9 (decide_eq_true (by omega)) (j9 (by rw [decide_eq_true (Int.le_refl 0),decide_eq_true (by omega)];rfl) (j9 (decide_eq_true (by omega)) jd _) _) _) _)
theorem gB9 {dl k t i ft:Int} {n:Nat} (s:Asg):ToP Tryz.prog 102 (c1 (c1 (c2 (c1 (c1 (c1 (c2 (c2 (c2 (c2 (c2 (c2 (imZ))))))))))))) (je s (jdN dl k t i ft n)) .normal (jA (juJ dl k t i ft n)):=
 nst soundGC [36] [false,true] [] [(decide ((0:Int)≤0)&&decide ((0:Int)<((n+1:Nat):Int)),true)] (fun s=>xF t (n+1)) (jk6 (by rw [decide_eq_true (Int.le_refl 0),decide_eq_true (by omega)];rfl))
theorem juK {dl k t i ft:Int} {n:Nat} (s:Asg):ToP Tryz.prog 102 (c1 (c2 (c1 (c2 (c1 (c1 (c1 (c2 (c2 (c2 (c2 (c2 (c2 (imZ)))))))))))))) (je s (juJ dl k t i ft n)) .normal (jA (jcE dl k t i ft n)):=
 nst soundGC [38] [true] [] [(decide (0+1≤n+1)&&decide ((jO t (n+1)).length=(n+1)*8),true)] (fun s=>xF (t+1) n) (jk6 (by rw [qJ];simp))
theorem gL0 {dl k t ft:Int} {n:Nat} (s:Asg):ToP Tryz.prog 102 (c1 (c2 (c2 (c1 (c2 (c1 (c1 (c1 (c2 (c2 (c2 (c2 (c2 (c2 (imZ))))))))))))))) (je s (jcE dl k t 0 ft n)) .normal (jA (jeE dl k t 1 ft n)):=
 nst soundGC [38] [false,false,false,false,false,false,false,false,false] [] [] (fun s=>xF (t+1) n) jd
theorem gL1 {dl k t ft:Int} {n:Nat} (s:Asg):ToP Tryz.prog 102 (c1 (c2 (c2 (c1 (c2 (c1 (c1 (c1 (c2 (c2 (c2 (c2 (c2 (c2 (imZ))))))))))))))) (je s (jcE dl k t 1 ft n)) .normal (jA (jeE dl k t 2 ft n)):=
 nst soundGC [38] [false,false,false,false,false,false,false,false,false] [] [] (fun s=>xF (t+1) n) jd
theorem gL2 {dl k t ft:Int} {n:Nat} (s:Asg):ToP Tryz.prog 102 (c1 (c2 (c2 (c1 (c2 (c1 (c1 (c1 (c2 (c2 (c2 (c2 (c2 (c2 (imZ))))))))))))))) (je s (jcE dl k t 2 ft n)) .normal (jA (jeE dl k t 3 ft n)):=
 nst soundGC [38] [false,false,false,false,false,false,false,false,false] [] [] (fun s=>xF (t+1) n) jd
theorem gL3 {dl k t ft:Int} {n:Nat} (s:Asg):ToP Tryz.prog 102 (c1 (c2 (c2 (c1 (c2 (c1 (c1 (c1 (c2 (c2 (c2 (c2 (c2 (c2 (imZ))))))))))))))) (je s (jcE dl k t 3 ft n)) .normal (jA (jeE dl k t 4 ft n)):=
 nst soundGC [38] [false,false,false,false,false,false,false,false,false] [] [] (fun s=>xF (t+1) n) jd
theorem gL4 {dl k t ft:Int} {n:Nat} (s:Asg):ToP Tryz.prog 102 (c1 (c2 (c2 (c1 (c2 (c1 (c1 (c1 (c2 (c2 (c2 (c2 (c2 (c2 (imZ))))))))))))))) (je s (jcE dl k t 4 ft n)) .normal (jA (jeE dl k t 5 ft n)):=
 nst soundGC [38] [false,false,false,false,false,false,false,false,false] [] [] (fun s=>xF (t+1) n) jd
theorem gL5 {dl k t ft:Int} {n:Nat} (s:Asg):ToP Tryz.prog 102 (c1 (c2 (c2 (c1 (c2 (c1 (c1 (c1 (c2 (c2 (c2 (c2 (c2 (c2 (imZ))))))))))))))) (je s (jcE dl k t 5 ft n)) .normal (jA (jeE dl k t 6 ft n)):=
 nst soundGC [38] [false,false,false,false,false,false,false,false,false] [] [] (fun s=>xF (t+1) n) jd
theorem gL6 {dl k t ft:Int} {n:Nat} (s:Asg):ToP Tryz.prog 102 (c1 (c2 (c2 (c1 (c2 (c1 (c1 (c1 (c2 (c2 (c2 (c2 (c2 (c2 (imZ))))))))))))))) (je s (jcE dl k t 6 ft n)) .normal (jA (jeE dl k t 7 ft n)):=
 nst soundGC [38] [false,false,false,false,false,false,false,false,false] [] [] (fun s=>xF (t+1) n) jd
theorem gL7 {dl k t ft:Int} {n:Nat} (s:Asg):ToP Tryz.prog 102 (c1 (c2 (c2 (c1 (c2 (c1 (c1 (c1 (c2 (c2 (c2 (c2 (c2 (c2 (imZ))))))))))))))) (je s (jcE dl k t 7 ft n)) .normal (jA (jeE dl k t 8 ft n)):=
 nst soundGC [38] [false,false,false,false,false,false,false,false,false] [] [] (fun s=>xF (t+1) n) jd
theorem gL8 {dl k t ft:Int} {n:Nat} (s:Asg):ToP Tryz.prog 102 (c1 (c2 (c2 (c1 (c2 (c1 (c1 (c1 (c2 (c2 (c2 (c2 (c2 (c2 (imZ))))))))))))))) (je s (jcE dl k t 8 ft n)) .normal (jA (jeE dl k t 9 ft n)):=
 nst soundGC [38] [false,false,false,false,false,false,false,false,false] [] [] (fun s=>xF (t+1) n) jd
theorem jvS {dl k t i ft:Int} {n:Nat} (s:Asg):ToP Tryz.prog 102 (c2 (c2 (c2 (c1 (c2 (c1 (c1 (c1 (c2 (c2 (c2 (c2 (c2 (c2 (imZ))))))))))))))) (je s (jeE dl k t i ft n)) .normal (jA (jqK dl k t i ft n)):=
 nst soundGC [38] [] [] [] (fun s=>xF (t+1) n) jd
theorem gY0 {dl k t i ft:Int} (s:Asg):ToP Tryz.prog 102 (c1 (c1 (c1 (c2 (c2 (c2 (c2 (c2 (c2 (imZ)))))))))) (je s (jqK dl k t i ft 0)) (.exit 0) (jA (jqL dl k t i ft 0)):=
 nst soundGC [38] [false,false,false,false,false,false,false,false,false,false,false,false,false,false,false,false,false,false] (ff 18 []) [] (fun s=>xF (t+1) 0) jd
theorem gY1 {dl k t i ft:Int} {n:Nat} (h0:0≤k) (h1:k≤1000) (d0:0≤dl) (d1:dl≤300000) (hs:8000*(k+1) - dl<8000*(t+1)) (s:Asg):ToP Tryz.prog 102 (c1 (c1 (c1 (c2 (c2 (c2 (c2 (c2 (c2 (imZ)))))))))) (je s (jqK dl k t i ft (n+1))) (.exit 0) (jA (jqL dl k t i ft (n+1))):=
 nst soundGC [38] [true,true,true,true,true,true,true,true,true,true,true,true,false,true,true,true,true,true,true,true] (tt 17 (ff 1 [])) (ra 1 (decide (8000*(t+1)≤wr .i64 (8000*(k+1) - dl)),false) (ra 13 (decide (((n+1:Nat):Int)>0),true) (ra 1 (decide ((0:Int)≤0)&&decide ((0:Int)<((n+1:Nat):Int)),true) (ra 4 (decide (((n+1:Nat):Int)>0),true) [])))) (fun s=>xF (t+1) (n+1)) (j9 (decide_eq_false (by rw [Go.Lr.w1 (by omega)];omega)) (j9 (decide_eq_true (by omega)) (j9 (by rw [decide_eq_true (Int.le_refl 0),decide_eq_true (by omega)];rfl) (j9 (decide_eq_true (by omega)) jd _) _) _) _)
theorem gZ1 {dl k t i ft:Int} {n:Nat} (s:Asg):ToP Tryz.prog 102 (c1 (c2 (c2 (c2 (c2 (c2 (c2 (c2 (imZ))))))))) (je s (jqL dl k t i ft n)) .normal (jA (joG dl k t i ft n)):=
 nst soundGC [38] [] [] [] (fun s=>xF (t+1) n) jd
theorem gZ2 {dl k t i ft:Int} {n:Nat} (s:Asg):ToP Tryz.prog 102 (c2 (c2 (c2 (c2 (c2 (c2 (c2 (c2 (imZ))))))))) (je s (joG dl k t i ft n)) .ret (jA (joG dl k t i ft n)):=
 nst soundGC [38] [] [] [] (fun s=>xF (t+1) n) jd
def gJ (k:Int):Mem:=[(34,⟨58,(0,0),0,(nzI (8000*(k+1)))⟩)]
theorem joH {k:Int} {i:Nat} (h:(getM (gJ k) i).isSome):i=34:=by
 unfold gJ at h
 rw [jm] at h
 split at h
 ·assumption
 ·cases h
def gtL (s:Asg) (dl k t:Int) (n:Nat):List LV:=(je s (gw0 dl k t n)).live.map (·.2)
theorem jvT {dl k t:Int} {n:Nat} (s:Asg):ToO Tryz.prog 102 (xL (c1 (c2 (c2 (c1 (c2 (c1 (c1 (c1 (c2 (c2 (c2 (c2 (c2 (c2 (imZ)))))))))))))))) 0 2 (je s (jcE dl k t 9 (8000*(t - 1)) n)) (jA (gw6 dl k t n)):=
 ToO.run2 (z:=⟨false,false,false⟩) (n:=20000) (dec:=[]) (mask:=[]) (os:=[]) (es:=Kv (gw6 dl k t n)) soundGC (by kernel_rfl) (by kernel_rfl) (fun dead=>by kernel_rfl) jd (ke _) (fun s=>ZN 38 (t+1) n) (by kernel_rfl)
theorem joI {dl k t:Int} {n:Nat} (hn:n≤1000) (s:Asg):
  ToP Tryz.prog 199 smZ ⟨jS 0 (gtL s dl k t n),(je s (gw6 dl k t n)).mem,(je s (gw6 dl k t n)).nb⟩ .normal (fun y=>∃x,(∃cs' m',OutL cs' m' (8000*(t+n))∧m'≤32∧jA (gu6 dl k t n m' cs') x)∧y=⟨x.live,x.mem++gJ k,x.nb⟩):=by
 have h:=stT (dl:=dl) (k:=k) (t:=t) hn s
 have e:je s (gw0 dl k t n)=⟨jS 0 (gtL s dl k t n),(je s (gw0 dl k t n)).mem,39⟩:=by kernel_rfl
 have e1:(je s (gw6 dl k t n)).mem=(je s (gw0 dl k t n)).mem++gJ k:=by kernel_rfl
 have e2:(je s (gw6 dl k t n)).nb=39:=by kernel_rfl
 have hK:KstOK (je s (gw0 dl k t n)):=ZN 38 (t+1) n
 have hd:∀i,(getM (gJ k) i).isSome→getM (je s (gw0 dl k t n)).mem i=none:=fun i hi=>by
  obtain rfl:=joH hi
  kernel_rfl
 rw [e] at h hK
 rw [e1,e2]
 refine ToP.frame h hK hd (fun x hx i hi=> ?_) (fun x hx=> ?_)
 ·obtain ⟨cs',m',h1,h2,s',rfl⟩:=hx
  obtain rfl:=joH hi
  kernel_rfl
 ·obtain ⟨cs',m',h1,h2,s',rfl⟩:=hx
  exact yg 38 41 (t+1) n h1.all.ok
theorem jvU {dl k t:Int} {n:Nat} (hn:n≤1000) (s:Asg):
  ToO Tryz.prog 102 (xL (c1 (c2 (c2 (c1 (c2 (c1 (c1 (c1 (c2 (c2 (c2 (c2 (c2 (c2 (imZ)))))))))))))))) 2 1 (je s (gw6 dl k t n)) (fun y=>∃cs' m',OutL cs' m' (8000*(t+n))∧m'≤32∧jA (gr0 dl k t n m' cs') y):=by
 refine ToO.less (ToO.callK (sz:=102) (c:=smZ) (A:=je s (gw6 dl k t n)) (t:=98) (f:=28) (args:=gtL s dl k t n) (e:= .normal) (v:=fun _=> .tup []) soundGC [0,4,5,6,9] (fun dead=>by kernel_rfl) Tryz.func28 (by kernel_rfl) (by kernel_rfl) (by kernel_rfl) (by kernel_rfl) (joI hn s) (.inl rfl) ?_ ?_) ?_
 ·rintro y ⟨x,⟨cs',m',h1,h2,s',rfl⟩,rfl⟩ dead
  kernel_rfl
 ·rintro y ⟨x,⟨cs',m',h1,h2,s',rfl⟩,rfl⟩
  exact yg 38 41 (t+1) n h1.all.ok
 ·rintro z ⟨y,⟨x,⟨cs',m',h1,h2,s',rfl⟩,rfl⟩,rfl⟩
  exact ⟨je s' (gr0 dl k t n m' cs'),[(98,.tup [])],[],⟨cs',m',h1,h2,s',rfl⟩,yg 38 41 (t+1) n h1.all.ok,by kernel_rfl,by kernel_rfl,by kernel_rfl⟩
theorem joJ {dl k t:Int} {n:Nat} (hn:n≤1000) (s:Asg):ToP Tryz.prog 102 (c1 (c2 (c2 (c1 (c2 (c1 (c1 (c1 (c2 (c2 (c2 (c2 (c2 (c2 (imZ))))))))))))))) (je s (jcE dl k t 9 (8000*(t - 1)) n)) .normal (fun y=>∃cs' m',OutL cs' m' (8000*(t+n))∧m'≤32∧jA (gr0 dl k t n m' cs') y):=by
 refine ToP.of_ToO (n:=3) (by kernel_rfl) (by kernel_rfl) (ToO.seq (m:=2) (m':=1) (jvT s) ?_)
 rintro x ⟨s,rfl⟩
 exact jvU hn s
theorem jsm {dl k t:Int} {n m:Nat} {cs:List At} (hc:okL noP cs=true) (s:Asg):ToP Tryz.prog 102 (c2 (c2 (c2 (c1 (c2 (c1 (c1 (c1 (c2 (c2 (c2 (c2 (c2 (c2 (imZ))))))))))))))) (je s (gr0 dl k t n m cs)) .normal (jA (gr1 dl k t n m cs)):=
 nst soundGC [38,41] [] [] [] (fun s=>xP (t+1) n hc) jd
theorem jvV {dl k t:Int} {m:Nat} {cs:List At} (hc:okL noP cs=true) (s:Asg):ToP Tryz.prog 102 (c1 (c1 (c1 (c2 (c2 (c2 (c2 (c2 (c2 (imZ)))))))))) (je s (gr1 dl k t 0 m cs)) (.exit 0) (jA (gr2 dl k t 0 m cs)):=
 nst soundGC [38,41] [false,false,false,false,false,false,false,false,false,false,false,false,false,false,false,false,false,false] (ff 18 []) [] (fun s=>xP (t+1) 0 hc) jd
theorem jvW {dl k t:Int} {n m:Nat} {cs:List At} (hc:okL noP cs=true) (h0:0≤k) (h1:k≤1000) (d0:0≤dl) (d1:dl≤300000) (hs:8000*(k+1) - dl<8000*(t+1)) (s:Asg):ToP Tryz.prog 102 (c1 (c1 (c1 (c2 (c2 (c2 (c2 (c2 (c2 (imZ)))))))))) (je s (gr1 dl k t (n+1) m cs)) (.exit 0) (jA (gr2 dl k t (n+1) m cs)):=
 nst soundGC [38,41] [true,true,true,true,true,true,true,true,true,true,true,true,false,true,true,true,true,true,true,true] (tt 17 (ff 1 [])) (ra 1 (decide (8000*(t+1)≤wr .i64 (8000*(k+1) - dl)),false) (ra 13 (decide (((n+1:Nat):Int)>0),true) (ra 1 (decide ((0:Int)≤0)&&decide ((0:Int)<((n+1:Nat):Int)),true) (ra 4 (decide (((n+1:Nat):Int)>0),true) [])))) (fun s=>xP (t+1) (n+1) hc) (j9 (decide_eq_false (by rw [Go.Lr.w1 (by omega)];omega)) (j9 (decide_eq_true (by omega)) (j9 (by rw [decide_eq_true (Int.le_refl 0),decide_eq_true (by omega)];rfl) (j9 (decide_eq_true (by omega)) jd _) _) _) _)
theorem jvX {dl k t:Int} {n m:Nat} {cs:List At} (hc:okL noP cs=true) (s:Asg):ToP Tryz.prog 102 (c1 (c2 (c2 (c2 (c2 (c2 (c2 (c2 (imZ))))))))) (je s (gr2 dl k t n m cs)) .normal (jA (gr3 dl k t n m cs)):=
 nst soundGC [38,41] [] [] [] (fun s=>xP (t+1) n hc) jd
theorem jvY {dl k t:Int} {n m:Nat} {cs:List At} (hc:okL noP cs=true) (s:Asg):ToP Tryz.prog 102 (c2 (c2 (c2 (c2 (c2 (c2 (c2 (c2 (imZ))))))))) (je s (gr3 dl k t n m cs)) .ret (jA (gr3 dl k t n m cs)):=
 nst soundGC [38,41] [] [] [] (fun s=>xP (t+1) n hc) jd
theorem jk5 {dl k t i ft:Int} {n:Nat} {e:Ex} {C:Kst→Prop} (hk:k+1=t+n) (hn:n≤1000) (h0:0≤k) (h1:k≤1000) (s:Asg) (h:∀s,ToP Tryz.prog 102 (c2 (c2 (c2 (c2 (c2 (c2 (imZ))))))) (je s (jdN dl k t i ft n)) e C):ToP Tryz.prog 102 imZ (je s (gi6 dl k t i ft n)) e C:=by
 refine ToP.seq (by kernel_rfl) (jvJ s) ?_
 rintro x ⟨s,rfl⟩
 refine ToP.seq (by kernel_rfl) (jvK h0 h1 s) ?_
 rintro x ⟨s,rfl⟩
 refine ToP.seq (by kernel_rfl) (jvL s) ?_
 rintro x ⟨s,rfl⟩
 refine ToP.seq (by kernel_rfl) (jvM s) ?_
 rintro x ⟨s,rfl⟩
 refine ToP.seq (by kernel_rfl) (jvN hk hn s) ?_
 rintro x ⟨s,rfl⟩
 refine ToP.seq (by kernel_rfl) (jvO s) ?_
 rintro x ⟨s,rfl⟩
 exact h s
theorem joK {dl:Int} {C:Kst→Prop} (s:Asg) (h:∀s,ToP Tryz.prog 102 (c2 (c2 (c2 (c2 (c2 (c2 (imZ))))))) (je s (jdN dl 0 1 0 0 0)) .ret C) (hC:∀x,C x→Nat.ble 29 x.nb=true):ToP Tryz.prog 102 imZ (je s (gi0 dl 0 1 0 0 0)) .ret C:=by
 refine ToP.of_ToR (N:=29) ?_ (by kernel_rfl) hC
 refine ToR.seq (by kernel_rfl) (ToR.of_ToP (jvD s) (by kernel_rfl)) ?_
 rintro x ⟨s,rfl⟩
 refine ToR.seq (by kernel_rfl) (ToR.of_ToP (jvE (Int.le_refl 0) (by omega) s) (by kernel_rfl)) ?_
 rintro x ⟨s,rfl⟩
 refine ToR.seq (by kernel_rfl) (ToR.of_ToP (jvF s) (by kernel_rfl)) ?_
 rintro x ⟨s,rfl⟩
 refine ToR.seq (by kernel_rfl) (ToR.of_ToP (jvG s) (by kernel_rfl)) ?_
 rintro x ⟨s,rfl⟩
 refine ToR.seq (by kernel_rfl) (ToR.of_ToP (jvH s) (by kernel_rfl)) ?_
 rintro x ⟨s,rfl⟩
 refine ToR.seq (by kernel_rfl) (B:=jA (jdN dl 0 1 0 0 0)) (ToR.ren (B:=fun y=>∃s,y=⟨(je s (gi5 dl 0 1 0 0 0)).live,jbk [] (je s (gi5 dl 0 1 0 0 0)).mem,36⟩) (ToR.of_ToP (ToP.slv (jvI s) [] ?_) (by kernel_rfl)) [(33,34),(35,36)] (by kernel_rfl) ?_) ?_
 ·rintro x ⟨s,rfl⟩
  refine ⟨?_,s,by kernel_rfl⟩
  exact q8 [] (by kernel_rfl) (by kernel_rfl) fun i b hb hi=>nomatch hi
 ·rintro x ⟨s,rfl⟩
  have e:(⟨qF (swp [(33,34),(35,36)]) (je s (gi5 dl 0 1 0 0 0)).live,zG (swp [(33,34),(35,36)]) (jbk [] (je s (gi5 dl 0 1 0 0 0)).mem),37⟩:Kst)=je s (jdN dl 0 1 0 0 0):=by kernel_rfl
  refine ⟨37, ?_⟩
  show KstOK (⟨qF (swp [(33,34),(35,36)]) (je s (gi5 dl 0 1 0 0 0)).live,zG (swp [(33,34),(35,36)]) (jbk [] (je s (gi5 dl 0 1 0 0 0)).mem),37⟩:Kst)∧jA (jdN dl 0 1 0 0 0) ⟨qF (swp [(33,34),(35,36)]) (je s (gi5 dl 0 1 0 0 0)).live,zG (swp [(33,34),(35,36)]) (jbk [] (je s (gi5 dl 0 1 0 0 0)).mem),37⟩
  rw [e]
  exact ⟨ZN 36 1 1,s,rfl⟩
 ·rintro x ⟨s,rfl⟩
  exact ToR.of_ToP (h s) (by kernel_rfl)
theorem juL {dl k t i ft:Int} {n:Nat} (h0:0≤k) (h1:k≤1000) (d0:0≤dl) (d1:dl≤300000) (hs:8000*(k+1) - dl<8000*t) (s:Asg):ToP Tryz.prog 102 (c2 (c2 (c2 (c2 (c2 (c2 (imZ))))))) (je s (jdN dl k t i ft n)) .ret (jA (jg9 dl k t i ft n)):=by
 refine ToP.seq (by kernel_rfl) (ToP.block (id:=0) (e:= .exit 0) (by kernel_rfl) (ToP.loop (m:=1) (by kernel_rfl) (RdP.last (by simp) (jvP h0 h1 d0 d1 hs s))) (.inl rfl)) ?_
 rintro x ⟨s,rfl⟩
 refine ToP.seq (by kernel_rfl) (jvQ s) ?_
 rintro x ⟨s,rfl⟩
 exact jvR s
theorem juM {dl k t i ft:Int} {n:Nat} (h0:0≤k) (h1:k≤1000) (d0:0≤dl) (d1:dl≤300000) (hs:8000*t≤8000*(k+1) - dl) (hs2:n=0∨8000*(k+1) - dl<8000*(t+1))
  (hL:∀s,ToP Tryz.prog 102 (c1 (c2 (c2 (c1 (c2 (c1 (c1 (c1 (c2 (c2 (c2 (c2 (c2 (c2 (imZ))))))))))))))) (je s (jcE dl k t i ft n)) .normal (jA (jeE dl k t (i+1) ft n))) (s:Asg):ToP Tryz.prog 102 (c2 (c2 (c2 (c2 (c2 (c2 (imZ))))))) (je s (jdN dl k t i ft n)) .ret (jA (joG dl k t (i+1) ft n)):=by
 refine ToP.seq (by kernel_rfl) (B:=jA (jqL dl k t (i+1) ft n)) (ToP.block (id:=0) (e:= .exit 0) (by kernel_rfl) (ToP.loop (m:=2) (by kernel_rfl) (RdP.next (B:=jA (jqK dl k t (i+1) ft n)) ?_ ?_)) (.inl rfl)) ?_
 ·refine ToP.seq (by kernel_rfl) (gA h0 h1 d0 d1 hs s) ?_
  rintro x ⟨s,rfl⟩
  refine ToP.block (id:=1) (e:= .normal) (by kernel_rfl) ?_ (.inr rfl)
  refine ToP.seq (by kernel_rfl) (gB9 s) ?_
  rintro x ⟨s,rfl⟩
  refine ToP.seq (by kernel_rfl) (juK s) ?_
  rintro x ⟨s,rfl⟩
  refine ToP.seq (by kernel_rfl) (hL s) ?_
  rintro x ⟨s,rfl⟩
  exact jvS s
 ·rintro x ⟨s,rfl⟩
  refine RdP.last (by simp) ?_
  cases n with
  | zero=>exact gY0 s
  | succ n=>exact gY1 h0 h1 d0 d1 (by rcases hs2 with d3 | d3 <;> omega) s
 rintro x ⟨s,rfl⟩
 refine ToP.seq (by kernel_rfl) (gZ1 s) ?_
 rintro x ⟨s,rfl⟩
 exact gZ2 s
theorem jvZ {dl k t:Int} {n:Nat} (hn:n≤1000) (h0:0≤k) (h1:k≤1000) (d0:0≤dl) (d1:dl≤300000) (hs:8000*t≤8000*(k+1) - dl) (hs2:n=0∨8000*(k+1) - dl<8000*(t+1)) (s:Asg):ToP Tryz.prog 102 (c2 (c2 (c2 (c2 (c2 (c2 (imZ))))))) (je s (jdN dl k t 9 (8000*(t - 1)) n)) .ret (fun y=>∃cs' m',OutL cs' m' (8000*(t+n))∧m'≤32∧jA (gr3 dl k t n m' cs') y):=by
 refine ToP.seq (by kernel_rfl) (B:=fun y=>∃cs' m',OutL cs' m' (8000*(t+n))∧m'≤32∧jA (gr2 dl k t n m' cs') y) (ToP.block (id:=0) (e:= .exit 0) (by kernel_rfl) (ToP.loop (m:=2) (by kernel_rfl) (RdP.next (B:=fun y=>∃cs' m',OutL cs' m' (8000*(t+n))∧m'≤32∧jA (gr1 dl k t n m' cs') y) ?_ ?_)) (.inl rfl)) ?_
 ·refine ToP.seq (by kernel_rfl) (gA h0 h1 d0 d1 hs s) ?_
  rintro x ⟨s,rfl⟩
  refine ToP.block (id:=1) (e:= .normal) (by kernel_rfl) ?_ (.inr rfl)
  refine ToP.seq (by kernel_rfl) (gB9 s) ?_
  rintro x ⟨s,rfl⟩
  refine ToP.seq (by kernel_rfl) (juK s) ?_
  rintro x ⟨s,rfl⟩
  refine ToP.seq (by kernel_rfl) (joJ hn s) ?_
  rintro x ⟨cs',m',h2,h3,s,rfl⟩
  exact (jsm h2.all.ok s).mono fun y hy=>⟨cs',m',h2,h3,hy⟩
 ·rintro x ⟨cs',m',h2,h3,s,rfl⟩
  refine RdP.last (by simp) ?_
  cases n with
  | zero=>exact (jvV h2.all.ok s).mono fun y hy=>⟨cs',m',h2,h3,hy⟩
  | succ n=>exact (jvW h2.all.ok h0 h1 d0 d1 (by rcases hs2 with d3 | d3 <;> omega) s).mono fun y hy=>⟨cs',m',h2,h3,hy⟩
 rintro x ⟨cs',m',h2,h3,s,rfl⟩
 refine ToP.seq (by kernel_rfl) (jvX h2.all.ok s) ?_
 rintro x ⟨s,rfl⟩
 exact (jvY h2.all.ok s).mono fun y hy=>⟨cs',m',h2,h3,hy⟩
end Go.Proofs.YtbpfipbhaagllaaGreat

/- TopNow: a sample at rest ahead of the tilt, at it, behind it. -/
namespace Go.Proofs.YtbpfipbhaagllaaGreat
open Go.Lr
set_option maxRecDepth 100000
def zE (dl k t i ft:Int) (n:Nat) (v:Int):PS2:=⟨[nzp 0 11 0,(4,.one (qS v)),nzi 5 0],[nzX (Qy dl (qB false) (nzv 38 n) (qS (i)) (qS (-84238486*(i))) (qS (ft))),kr,nzD k,kt,nzP (qL .nilsl)]++(ku++[nzQ 38 t n]),60⟩
def mZ (dl k t ft:Int) (n m:Nat) (cs:List At):PS2:=⟨[nzp 0 11 0,(4,.one (qS 1)),nzi 5 0],[nzX (mF0 dl qO (nzv 38 n) (qS ft)),kr,nzD k,kt,nzP (nzv 41 m)]++(ku++[nzO 41 cs,nzQ 38 t n]),60⟩
theorem jlJ {dl k t i ft v:Int} {n:Nat} (s:Asg):KstOK (je s (zE dl k t i ft n v)):=ZN 38 t n
theorem jin {dl k t ft:Int} {n m:Nat} {cs:List At} (hc:okL noP cs=true) (s:Asg):KstOK (je s (mZ dl k t ft n m cs)):=yg 38 41 t n hc
theorem ju4 {dl k t i ft:Int} {n:Nat} {A:Kst} (hs:jjP A.nb [(36,38)]=true) (hn:Nat.ble A.nb 60=true) (h:ToP Tryz.prog 102 imZ A .ret (jA (jg9 dl k t i ft n))):ToP Tryz.prog 102 imZ A .ret (jA (zE dl (k+1) t i ft (n+1) 0)):=by
 refine ToP.ren h [(36,38)] hs ?_
 rintro x ⟨s,rfl⟩
 have hK:KstOK (je s (jg9 dl k t i ft n)):=q8 [36] (by kernel_rfl) (by kernel_rfl) (xF t (n+1))
 have hraw:Jx [36] (je s (jg9 dl k t i ft n)).mem:=qu hK.uq fun j hj b hb=>jlk (A:=je s (jg9 dl k t i ft n)) (Q:=36) (ty:=58) (t:=t) (n:=n+1) (by kernel_rfl) j b hb hj
 have e:(⟨qF (swp [(36,38)]) (je s (jg9 dl k t i ft n)).live,zG (swp [(36,38)]) (je s (jg9 dl k t i ft n)).mem,60⟩:Kst)=je s (zE dl (k+1) t i ft (n+1) 0):=by
  rw [qt hraw]
  kernel_rfl
 refine ⟨60,Nat.le_of_ble_eq_true hn, ?_⟩
 rw [e]
 exact ⟨jlJ s,s,rfl⟩
theorem jwS {dl k t:Int} {n:Nat} {A:Kst} (hs:jjP A.nb []=true) (hn:Nat.ble A.nb 60=true) (h:ToP Tryz.prog 102 imZ A .ret (fun y=>∃cs' m',OutL cs' m' (8000*(t+n))∧m'≤32∧jA (gr3 dl k t n m' cs') y)):ToP Tryz.prog 102 imZ A .ret (fun y=>∃cs' m',OutL cs' m' (8000*(t+n))∧m'≤32∧jA (mZ dl (k+1) (t+1) (8000*t) n m' cs') y):=by
 refine ToP.ren h [] hs ?_
 rintro x ⟨cs,m,h1,h2,s,rfl⟩
 have hc:=h1.all.ok
 have hK:KstOK (je s (gr3 dl k t n m cs)):=yg 38 41 (t+1) n hc
 have hraw:Jx [38,41] (je s (gr3 dl k t n m cs)).mem:=qu hK.uq fun j hj b hb=>jhW (A:=je s (gr3 dl k t n m cs)) (tq:=58) (to:=38) (t:=t+1) (n:=n) (by kernel_rfl) (by kernel_rfl) hc j b hb hj
 have e:(⟨qF (swp []) (je s (gr3 dl k t n m cs)).live,zG (swp []) (je s (gr3 dl k t n m cs)).mem,60⟩:Kst)=je (joY (je s (gr3 dl k t n m cs)) s.fs s.gs) (mZ dl (k+1) (t+1) (8000*t) n m cs):=by
  rw [qt hraw]
  kernel_rfl
 refine ⟨60,Nat.le_of_ble_eq_true hn, ?_⟩
 rw [e]
 exact ⟨jin hc _,cs,m,h1,h2,_,rfl⟩
theorem jwT {dl k t:Int} {n:Nat} {A:Kst} (hn:Nat.ble A.nb 60=true) {T:Int} (h:ToP Tryz.prog 102 imZ A .ret (fun y=>∃cs' m',OutL cs' m' T∧m'≤32∧jA (mqS dl k t n m' cs' [nzp 0 11 0,nzi 4 1,nzi 5 0] [] 53) y)):ToP Tryz.prog 102 imZ A .ret (fun y=>∃cs' m',OutL cs' m' T∧m'≤32∧jA (mZ dl (k+1) (t+1) (8000*t) n m' cs') y):=by
 refine ToP.ren h [] (by kernel_rfl) ?_
 rintro x ⟨cs,m,h1,h2,s,rfl⟩
 have hc:=h1.all.ok
 have hK:KstOK (je s (mqS dl k t n m cs [nzp 0 11 0,nzi 4 1,nzi 5 0] [] 53)):=yg 38 41 (t+1) n hc
 have hraw:Jx [38,41] (je s (mqS dl k t n m cs [nzp 0 11 0,nzi 4 1,nzi 5 0] [] 53)).mem:=qu hK.uq fun j hj b hb=>jhW (A:=je s (mqS dl k t n m cs [nzp 0 11 0,nzi 4 1,nzi 5 0] [] 53)) (tq:=58) (to:=38) (t:=t+1) (n:=n) (by kernel_rfl) (by kernel_rfl) hc j b hb hj
 have e:(⟨qF (swp []) (je s (mqS dl k t n m cs [nzp 0 11 0,nzi 4 1,nzi 5 0] [] 53)).live,zG (swp []) (je s (mqS dl k t n m cs [nzp 0 11 0,nzi 4 1,nzi 5 0] [] 53)).mem,60⟩:Kst)=je s (mZ dl (k+1) (t+1) (8000*t) n m cs):=by
  rw [qt hraw]
  kernel_rfl
 refine ⟨60,Nat.le_of_ble_eq_true hn, ?_⟩
 rw [e]
 exact ⟨jin hc _,cs,m,h1,h2,_,rfl⟩
theorem jtI {dl k t i ft st t' i' ft' v:Int} {n n':Nat} (h0:0≤k) (h1:k≤1000) (h:∀s,ToP Tryz.prog 102 imZ (je s (gi6 dl k t i ft n)) .ret (jA (zE dl (k+1) t' i' ft' n' v))) (s:Asg):ToP Tryz.prog 37 rtZ (je s (rt0 (gi6 dl k t i ft n) (8000*k) st)) .normal (fun y=>∃s,y=⟨[],Jr (8000*(k+1)) (wr .i64 (st+v))++(je s (zE dl (k+1) t' i' ft' n' v)).mem,60⟩):=
 (jc8 (ι:=Unit) (X:=gi6 dl k t i ft n) (Y:=fun _=>zE dl (k+1) t' i' ft' n' v) (Q:=fun _=>True) (v:=v) h0 h1 (fun s=>(h s).mono fun y hy=>⟨(),trivial,hy⟩) (fun s=>by kernel_rfl) (fun s dead=>by kernel_rfl)
  (fun s=>ZN 29 t n) (fun s=>ZN 29 t n)
  (by kernel_rfl) (fun s=>by kernel_rfl) (fun _ s=>by kernel_rfl) (fun _ _ s=>jlJ s) (fun _ s=>by kernel_rfl) (fun _ s dead=>by kernel_rfl) s).mono (by rintro y ⟨_,_,h⟩;exact h)
theorem jtJ {dl st t' i' ft' v:Int} {n':Nat} (h:∀s,ToP Tryz.prog 102 imZ (je s (gi0 dl 0 1 0 0 0)) .ret (jA (zE dl (0+1) t' i' ft' n' v))) (s:Asg):ToP Tryz.prog 37 rtZ (je s (rt0 (gi0 dl 0 1 0 0 0) (8000*0) st)) .normal (fun y=>∃s,y=⟨[],Jr (8000*(0+1)) (wr .i64 (st+v))++(je s (zE dl (0+1) t' i' ft' n' v)).mem,60⟩):=
 (jc8 (ι:=Unit) (X:=gi0 dl 0 1 0 0 0) (Y:=fun _=>zE dl (0+1) t' i' ft' n' v) (Q:=fun _=>True) (v:=v) (k:=0) (by decide) (by decide) (fun s=>(h s).mono fun y hy=>⟨(),trivial,hy⟩) (fun s=>by kernel_rfl) (fun s dead=>by kernel_rfl)
  (fun s=>jI (by kernel_rfl)) (fun s=>jI (by kernel_rfl))
  (by kernel_rfl) (fun s=>by kernel_rfl) (fun _ s=>by kernel_rfl) (fun _ _ s=>jlJ s) (fun _ s=>by kernel_rfl) (fun _ s dead=>by kernel_rfl) s).mono (by rintro y ⟨_,_,h⟩;exact h)
theorem jtK {dl k t i ft st t' ft':Int} {n n':Nat} (h0:0≤k) (h1:k≤1000) (h:∀s,ToP Tryz.prog 102 imZ (je s (gi6 dl k t i ft n)) .ret (fun y=>∃cs' m',OutL cs' m' (8000*(k+1))∧m'≤32∧jA (mZ dl (k+1) t' ft' n' m' cs') y)) (s:Asg):ToP Tryz.prog 37 rtZ (je s (rt0 (gi6 dl k t i ft n) (8000*k) st)) .normal (fun y=>∃cs' m',OutL cs' m' (8000*(k+1))∧m'≤32∧∃s,y=⟨[],Jr (8000*(k+1)) (wr .i64 (st+1))++(je s (mZ dl (k+1) t' ft' n' m' cs')).mem,60⟩):=
 (jc8 (ι:=List At×Nat) (X:=gi6 dl k t i ft n) (Y:=fun e=>mZ dl (k+1) t' ft' n' e.2 e.1) (Q:=fun e=>OutL e.1 e.2 (8000*(k+1))∧e.2≤32) (v:=1) h0 h1 (fun s=>(h s).mono fun y ⟨cs',m',a,b,c⟩=>⟨(cs',m'),⟨a,b⟩,c⟩) (fun s=>by kernel_rfl) (fun s dead=>by kernel_rfl)
  (fun s=>ZN 29 t n) (fun s=>ZN 29 t n)
  (by kernel_rfl) (fun s=>by kernel_rfl) (fun _ s=>by kernel_rfl) (fun e he s=>jin he.1.all.ok s) (fun _ s=>by kernel_rfl) (fun _ s dead=>by kernel_rfl) s).mono (by rintro y ⟨⟨cs',m'⟩,⟨a,b⟩,c⟩;exact ⟨cs',m',a,b,c⟩)
theorem jtL {dl k t st t' ft':Int} {n n' m:Nat} {cs:List At} (h0:0≤k) (h1:k≤1000) (hc:okL noP cs=true) (h:∀s,ToP Tryz.prog 102 imZ (je s (ms0 dl k t n m cs)) .ret (fun y=>∃cs' m',OutL cs' m' (8000*(k+1))∧m'≤32∧jA (mZ dl (k+1) t' ft' n' m' cs') y)) (s:Asg):ToP Tryz.prog 37 rtZ (je s (rt0 (ms0 dl k t n m cs) (8000*k) st)) .normal (fun y=>∃cs' m',OutL cs' m' (8000*(k+1))∧m'≤32∧∃s,y=⟨[],Jr (8000*(k+1)) (wr .i64 (st+1))++(je s (mZ dl (k+1) t' ft' n' m' cs')).mem,60⟩):=
 (jc8 (ι:=List At×Nat) (X:=ms0 dl k t n m cs) (Y:=fun e=>mZ dl (k+1) t' ft' n' e.2 e.1) (Q:=fun e=>OutL e.1 e.2 (8000*(k+1))∧e.2≤32) (v:=1) h0 h1 (fun s=>(h s).mono fun y ⟨cs',m',a,b,c⟩=>⟨(cs',m'),⟨a,b⟩,c⟩) (fun s=>by kernel_rfl) (fun s dead=>by kernel_rfl)
  (fun s=>yg 29 30 t n hc) (fun s=>yg 29 30 t n hc)
  (by kernel_rfl) (fun s=>by kernel_rfl) (fun _ s=>by kernel_rfl) (fun e he s=>jin he.1.all.ok s) (fun _ s=>by kernel_rfl) (fun _ s dead=>by kernel_rfl) s).mono (by rintro y ⟨⟨cs',m'⟩,⟨a,b⟩,c⟩;exact ⟨cs',m',a,b,c⟩)
end Go.Proofs.YtbpfipbhaagllaaGreat

/- astrolabetop.awake: stage by stage; numbers behind the tilt do not matter. -/
namespace Go.Proofs.YtbpfipbhaagllaaGreat
open Go.Lr
def zF:Md:=⟨false,false,false⟩
def XB:List Go.Lr.P1:=[pI 8000,pI 40000,pI 16]++rp 7 (pI 5)++[pI 1000000,pI 1000000,pI 1000000,pI 1000000,pI 1000000,pI 1000000,pI 1048576,pI 1048576,pI 1048576,pI 1048576,pI 17179869184,pI 17179869184,pI 17179869184,pI 16384,pI 16384,pI 16384,pI 1024,pI 1024,pI 1024,pI 65536,pI 65536,pI 65536,pI 16384,pI 16384,pI 16384,pI 16384,pI 16384,pI 16384,pI 17179869184,pI 17179869184,pI 68719476736,pI 68719476736,pI 68719476736,pI 68719476736,pI 17592186044416,pI 17592186044416,pI 17592186044416,pI 17592186044416,pI 17592186044416,pI 17592186044416,pI 67108864,pI 67108864,pI 67108864,pI 4294967296,pI 4294967296,pI 4294967296,pI 17179869184,pI 17179869184,pI 17179869184,pI 17179869184,pI 17179869184,pI 17179869184,pI 17592186044416,pI 17592186044416,pI 5000000,pI 68719476736,pI 1,pI 268435456,pI 32,pI 0,pI 0,pI 0]
def Zj:List Go.Lr.P1:=[pI 68719476736,pI 68719476736,pI 68719476736,pI 68719476736,pI 17592186044416,pI 17592186044416,pI 17592186044416,pI 17592186044416,pI 17592186044416,pI 17592186044416,pI 67108864,pI 67108864,pI 67108864,pI 4294967296,pI 4294967296,pI 4294967296,pI 17179869184,pI 17179869184,pI 17179869184,pI 17179869184,pI 17179869184,pI 17179869184,pI 17592186044416,pI 17592186044416]
def jva:List Go.Lr.P1:=[pI 0,pI 0,pB false,pI 0,pI 1000000,pI 5,pI 0,pI 0,pB false,pI 1,pI 1000000,pI 5,pI 0,pI 0,pB false,pI 2,pI 1000000,pI 5,pI 0,pI 0,pB false,pI 3,pI 1000000,pI 5,pI 0,pI 0,pB false,pI 4,pI 1000000,pI 5,pI 0,pI 0,pB false,pI 5,pI 1000000,pI 5,pI 0]
def kG:List Go.Lr.P1:=[pI 8000,pI 0,pI 0,pI 0,pI 0,pI 0,pI (-84238486)]
def XC:List Go.Lr.P1:=[pL (.ptr 20 0),pL (.ptr 21 0),pL (.ptr 22 0),pL (.ptr 23 0),pL (.ptr 24 0),pL (.ptr 25 0),pL (.ptr 18 0)]
def XD:List Go.Lr.P1:=[pI 1073741824]++rp 9 (pI 0)++[pL .nilsl]
def wFr:Nat×PB:=(16,⟨128,(0,0),0,[pI 0,pI 0,pI 0,pI 12157770197,pI 12239707452]⟩)
def wMo:Nat×PB:=(18,⟨115,(0,0),0,jva⟩)
def XE (h:Int):List (Nat×PB):=[(20,⟨135,(0,0),0,[pI 0,pI 0,pI 0,pI 0,pI 0,pI 16,pL .nilsl,pI h]⟩),(21,⟨135,(0,0),0,[pI 0,pI 0,pI 0,pI 0,pI 0,pI 16,pL .nilsl,pI h]⟩),(22,⟨135,(0,0),0,[pI 0,pI 0,pI 0,pI 0,pI 0,pI 16,pL .nilsl,pI h]⟩),(23,⟨135,(0,0),0,[pI 0,pI 0,pI 0,pI 0,pI 0,pI 16,pL .nilsl,pI h]⟩),(24,⟨135,(0,0),0,[pI 0,pI 0,pI 0,pI 0,pI 0,pI 16,pL .nilsl,pI h]⟩),(25,⟨135,(0,0),0,[pI 0,pI 0,pI 0,pI 0,pI 0,pI 16,pL .nilsl,pI h]⟩)]
def jmL:PS:=⟨[],[],0⟩
theorem jrk (s:Asg):ToP Tryz.prog 44 (c1 (jj Tryz.prog 4)) (⟨[],[],0⟩:Kst) .normal (Fil jmL):=ToP.run (z:=zF) (n:=20000) (dec:=[]) soundK37u (fun dead=>by kernel_rfl) (fun s=>by kernel_rfl) (by kernel_rfl)
def jmM:PS:=⟨[(1,.one (pL (.ptr 9 0))),(2,.one (pI 0))],[(9,⟨77,(0,0),0,XB++[pB false,pI 1073741824]++rp 299 (pI 0)++Zj++[pL (.ptr 16 0),pL (.ptr 17 0),pL .nilsl]++XC++[pI 0,pI 0,pB false,pB false,pL (.ptr 19 0),pB false,pI 0,pI 0,pI 0,pI 0,pB false,pB false,pB false,pI 0,pI 0,pI 0]++XD⟩),wFr,(17,⟨130,(0,0),0,[pI 8000]++rp 8 (pI 0)++[pB false]⟩),wMo,(19,⟨107,(0,0),0,[pI 32,pI 268435456,pL .nilsl]⟩)]++XE (-9223372036854775808),26⟩
theorem jrl (s:Asg):ToP Tryz.prog 44 (c1 (c2 (jj Tryz.prog 4))) (JX s jmL) .normal (Fil jmM):=ToP.run (z:=zF) (n:=20000) (dec:=[]) soundK37u (fun dead=>by kernel_rfl) (fun s=>by kernel_rfl) (by kernel_rfl)
def jmN:PS:=⟨[(1,.one (pL (.ptr 9 0)))],[(9,⟨77,(0,0),0,XB++[pB false,pI 1073741824]++rp 299 (pI 0)++Zj++[pL (.ptr 16 0),pL (.ptr 17 0),pL .nilsl]++XC++[pI 0,pI 0,pB false,pB false,pL (.ptr 19 0),pB false,pI 0,pI 0,pI 0,pI 0,pB false,pB false,pB false,pI 0,pI 0,pI 0]++XD⟩),wFr,(17,⟨130,(0,0),0,[pI 8000]++rp 8 (pI 0)++[pB false]⟩),wMo,(19,⟨107,(0,0),0,[pI 32,pI 268435456,pL .nilsl]⟩)]++XE (-9223372036854775808),26⟩
theorem jrm (s:Asg):ToP Tryz.prog 44 (c1 (c2 (c2 (jj Tryz.prog 4)))) (JX s jmM) .normal (Fil jmN):=ToP.run (z:=zF) (n:=20000) (dec:=[]) soundK37u (fun dead=>by kernel_rfl) (fun s=>by kernel_rfl) (by kernel_rfl)
def jkf:PS:=⟨[(1,.one (pL (.ptr 9 0))),(3,.one (pI 1))],[(9,⟨77,(0,0),0,XB++[pB false,pI 1073741824]++rp 299 (pI 0)++Zj++[pL (.ptr 16 0),pL (.ptr 17 0),pL .nilsl]++XC++[pI 0,pI 0,pB false,pB false,pL (.ptr 19 0),pB false,pI 0,pI 0,pI 0,pI 0,pB false,pB false,pB false,pI 0,pI 0,pI 0]++XD⟩),wFr,(17,⟨130,(0,0),0,[pI 8000]++rp 8 (pI 0)++[pB false]⟩),wMo,(19,⟨107,(0,0),0,[pI 32,pI 268435456,pL .nilsl]⟩)]++XE (-9223372036854775808),26⟩
theorem jrn (s:Asg):ToP Tryz.prog 44 (c1 (c1 (c2 (c2 (c2 (jj Tryz.prog 4)))))) (JX s jmN) .normal (Fil jkf):=ToP.run (z:=zF) (n:=20000) (dec:=[]) soundK37u (fun dead=>by kernel_rfl) (fun s=>by kernel_rfl) (by kernel_rfl)
def jmO:PS:=⟨[(1,.one (pL (.ptr 9 0))),(3,.one (pI 2))],[(9,⟨77,(0,0),0,XB++[pB false,pI 1073741824]++rp 299 (pI 0)++Zj++[pL (.ptr 16 0),pL (.ptr 17 0),pL (.slu 32 1)]++XC++[pI 0,pI 0,pB false,pB false,pL (.ptr 19 0),pB false,pI 0,pI 0,pI 0,pI 0,pB false,pB false,pB false,pI 0,pI 0,pI 0]++XD⟩),wFr,(17,⟨130,(0,0),0,[pI 8000,pI 8000]++rp 7 (pI 0)++[pB true]⟩),wMo,(19,⟨107,(0,0),0,[pI 32,pI 268435456,pL .nilsl]⟩)]++XE (-9223372036854775808)++[(32,⟨58,(0,0),8,[pI 8000]++kG⟩)],33⟩
theorem jro (s:Asg):ToP Tryz.prog 44 (c1 (c1 (c2 (c1 (c2 (c2 (c2 (jj Tryz.prog 4)))))))) (JX s jkf) .normal (Fil jmO):=ToP.run (z:=zF) (n:=20000) (dec:=[]) soundK37u (fun dead=>by kernel_rfl) (fun s=>by kernel_rfl) (by kernel_rfl)
def jmP:PS:=⟨[(1,.one (pL (.ptr 9 0))),(3,.one (pI 3))],[(9,⟨77,(0,0),0,XB++[pB false,pI 1073741824]++rp 299 (pI 0)++Zj++[pL (.ptr 16 0),pL (.ptr 17 0),pL (.slu 39 2)]++XC++[pI 0,pI 0,pB false,pB false,pL (.ptr 19 0),pB false,pI 0,pI 0,pI 0,pI 0,pB false,pB false,pB false,pI 0,pI 0,pI 0]++XD⟩),wFr,(17,⟨130,(0,0),0,[pI 8000,pI 16000]++rp 7 (pI 0)++[pB true]⟩),wMo,(19,⟨107,(0,0),0,[pI 32,pI 268435456,pL .nilsl]⟩)]++XE (-9223372036854775808)++[(39,⟨58,(0,0),8,[pI 8000]++kG++[pI 16000]++kG⟩)],40⟩
theorem jrp (s:Asg):ToP Tryz.prog 44 (c1 (c1 (c2 (c1 (c2 (c2 (c2 (jj Tryz.prog 4)))))))) (JX s jmO) .normal (Fil jmP):=ToP.run (z:=zF) (n:=20000) (dec:=[]) soundK37u (fun dead=>by kernel_rfl) (fun s=>by kernel_rfl) (by kernel_rfl)
def jmQ:PS:=⟨[(1,.one (pL (.ptr 9 0))),(3,.one (pI 4))],[(9,⟨77,(0,0),0,XB++[pB false,pI 1073741824]++rp 299 (pI 0)++Zj++[pL (.ptr 16 0),pL (.ptr 17 0),pL (.slu 46 3)]++XC++[pI 0,pI 0,pB false,pB false,pL (.ptr 19 0),pB false,pI 0,pI 0,pI 0,pI 0,pB false,pB false,pB false,pI 0,pI 0,pI 0]++XD⟩),wFr,(17,⟨130,(0,0),0,[pI 8000,pI 24000]++rp 7 (pI 0)++[pB true]⟩),wMo,(19,⟨107,(0,0),0,[pI 32,pI 268435456,pL .nilsl]⟩)]++XE (-9223372036854775808)++[(46,⟨58,(0,0),8,[pI 8000]++kG++[pI 16000]++kG++[pI 24000]++kG⟩)],47⟩
theorem jrq (s:Asg):ToP Tryz.prog 44 (c1 (c1 (c2 (c1 (c2 (c2 (c2 (jj Tryz.prog 4)))))))) (JX s jmP) .normal (Fil jmQ):=ToP.run (z:=zF) (n:=20000) (dec:=[]) soundK37u (fun dead=>by kernel_rfl) (fun s=>by kernel_rfl) (by kernel_rfl)
def jmR:PS:=⟨[(1,.one (pL (.ptr 9 0))),(3,.one (pI 5))],[(9,⟨77,(0,0),0,XB++[pB false,pI 1073741824]++rp 299 (pI 0)++Zj++[pL (.ptr 16 0),pL (.ptr 17 0),pL (.slu 53 4)]++XC++[pI 0,pI 0,pB false,pB false,pL (.ptr 19 0),pB false,pI 0,pI 0,pI 0,pI 0,pB false,pB false,pB false,pI 0,pI 0,pI 0]++XD⟩),wFr,(17,⟨130,(0,0),0,[pI 8000,pI 32000]++rp 7 (pI 0)++[pB true]⟩),wMo,(19,⟨107,(0,0),0,[pI 32,pI 268435456,pL .nilsl]⟩)]++XE (-9223372036854775808)++[(53,⟨58,(0,0),8,[pI 8000]++kG++[pI 16000]++kG++[pI 24000]++kG++[pI 32000]++kG⟩)],54⟩
theorem jrr (s:Asg):ToP Tryz.prog 44 (c1 (c1 (c2 (c1 (c2 (c2 (c2 (jj Tryz.prog 4)))))))) (JX s jmQ) .normal (Fil jmR):=ToP.run (z:=zF) (n:=20000) (dec:=[]) soundK37u (fun dead=>by kernel_rfl) (fun s=>by kernel_rfl) (by kernel_rfl)
def jmS:PS:=⟨[(1,.one (pL (.ptr 9 0))),(3,.one (pI 6))],[(9,⟨77,(0,0),0,XB++[pB false,pI 1073741824]++rp 299 (pI 0)++Zj++[pL (.ptr 16 0),pL (.ptr 17 0),pL (.slu 60 5)]++XC++[pI 0,pI 0,pB false,pB false,pL (.ptr 19 0),pB false,pI 0,pI 0,pI 0,pI 0,pB false,pB false,pB false,pI 0,pI 0,pI 0]++XD⟩),wFr,(17,⟨130,(0,0),0,[pI 8000,pI 40000]++rp 7 (pI 0)++[pB true]⟩),wMo,(19,⟨107,(0,0),0,[pI 32,pI 268435456,pL .nilsl]⟩)]++XE (-9223372036854775808)++[(60,⟨58,(0,0),8,[pI 8000]++kG++[pI 16000]++kG++[pI 24000]++kG++[pI 32000]++kG++[pI 40000]++kG⟩)],61⟩
theorem jrs (s:Asg):ToP Tryz.prog 44 (c1 (c1 (c2 (c1 (c2 (c2 (c2 (jj Tryz.prog 4)))))))) (JX s jmR) .normal (Fil jmS):=ToP.run (z:=zF) (n:=20000) (dec:=[]) soundK37u (fun dead=>by kernel_rfl) (fun s=>by kernel_rfl) (by kernel_rfl)
def jmT:PS:=⟨[(1,.one (pL (.ptr 9 0))),(3,.one (pI 7))],[(9,⟨77,(0,0),0,XB++[pB false,pI 1073741824]++rp 299 (pI 0)++Zj++[pL (.ptr 16 0),pL (.ptr 17 0),pL (.slu 69 5)]++XC++[pI 0,pI 0,pB false,pB false,pL (.ptr 19 0),pB false,pI 1,pI 0,pI 0,pI (-84238486),pB false,pB false,pB false,pI 0,pI 8000,pI 0]++XD⟩),wFr,(17,⟨130,(0,0),0,[pI 8000,pI 48000]++rp 7 (pI 0)++[pB true]⟩),wMo,(19,⟨107,(0,0),0,[pI 32,pI 268435456,pL .nilsl]⟩)]++XE 8000++[(69,⟨58,(0,0),8,[pI 16000]++kG++[pI 24000]++kG++[pI 32000]++kG++[pI 40000]++kG++[pI 48000]++kG⟩)],91⟩
theorem jrt (s:Asg):ToP Tryz.prog 44 (c1 (c1 (c2 (c1 (c2 (c2 (c2 (jj Tryz.prog 4)))))))) (JX s jmS) .normal (Fil jmT):=ToP.run (z:=zF) (n:=20000) (dec:=[]) soundK37u (fun dead=>by kernel_rfl) (fun s=>by kernel_rfl) (by kernel_rfl)
def jmU:PS:=⟨[(1,.one (pL (.ptr 9 0))),(3,.one (pI 8))],[(9,⟨77,(0,0),0,XB++[pB false,pI 1073741824]++rp 299 (pI 0)++Zj++[pL (.ptr 16 0),pL (.ptr 17 0),pL (.slu 99 5)]++XC++[pI 0,pI 0,pB false,pB false,pL (.ptr 19 0),pB false,pI 2,pI 0,pI 0,pI (-168476972),pB false,pB false,pB false,pI 0,pI 16000,pI 0]++XD⟩),wFr,(17,⟨130,(0,0),0,[pI 8000,pI 56000]++rp 7 (pI 0)++[pB true]⟩),wMo,(19,⟨107,(0,0),0,[pI 32,pI 268435456,pL .nilsl]⟩)]++XE 16000++[(99,⟨58,(0,0),8,[pI 24000]++kG++[pI 32000]++kG++[pI 40000]++kG++[pI 48000]++kG++[pI 56000]++kG⟩)],121⟩
theorem jru (s:Asg):ToP Tryz.prog 44 (c1 (c1 (c2 (c1 (c2 (c2 (c2 (jj Tryz.prog 4)))))))) (JX s jmT) .normal (Fil jmU):=ToP.run (z:=zF) (n:=20000) (dec:=[]) soundK37u (fun dead=>by kernel_rfl) (fun s=>by kernel_rfl) (by kernel_rfl)
def jmV:PS:=⟨[(1,.one (pL (.ptr 9 0))),(3,.one (pI 9))],[(9,⟨77,(0,0),0,XB++[pB false,pI 1073741824]++rp 299 (pI 0)++Zj++[pL (.ptr 16 0),pL (.ptr 17 0),pL (.slu 129 5)]++XC++[pI 0,pI 0,pB false,pB false,pL (.ptr 19 0),pB false,pI 3,pI 0,pI 0,pI (-252715458),pB false,pB false,pB false,pI 0,pI 24000,pI 0]++XD⟩),wFr,(17,⟨130,(0,0),0,[pI 8000,pI 64000]++rp 7 (pI 0)++[pB true]⟩),wMo,(19,⟨107,(0,0),0,[pI 32,pI 268435456,pL .nilsl]⟩)]++XE 24000++[(129,⟨58,(0,0),8,[pI 32000]++kG++[pI 40000]++kG++[pI 48000]++kG++[pI 56000]++kG++[pI 64000]++kG⟩)],151⟩
theorem jrv (s:Asg):ToP Tryz.prog 44 (c1 (c1 (c2 (c1 (c2 (c2 (c2 (jj Tryz.prog 4)))))))) (JX s jmU) .normal (Fil jmV):=ToP.run (z:=zF) (n:=20000) (dec:=[]) soundK37u (fun dead=>by kernel_rfl) (fun s=>by kernel_rfl) (by kernel_rfl)
def jmW:PS:=⟨[(1,.one (pL (.ptr 9 0))),(3,.one (pI 10))],[(9,⟨77,(0,0),0,XB++[pB false,pI 1073741824]++rp 299 (pI 0)++Zj++[pL (.ptr 16 0),pL (.ptr 17 0),pL (.slu 159 5)]++XC++[pI 0,pI 0,pB false,pB false,pL (.ptr 19 0),pB false,pI 4,pI 0,pI 0,pI (-336953944),pB false,pB false,pB false,pI 0,pI 32000,pI 0]++XD⟩),wFr,(17,⟨130,(0,0),0,[pI 8000,pI 72000]++rp 7 (pI 0)++[pB true]⟩),wMo,(19,⟨107,(0,0),0,[pI 32,pI 268435456,pL .nilsl]⟩)]++XE 32000++[(159,⟨58,(0,0),8,[pI 40000]++kG++[pI 48000]++kG++[pI 56000]++kG++[pI 64000]++kG++[pI 72000]++kG⟩)],181⟩
theorem jrw (s:Asg):ToP Tryz.prog 44 (c1 (c1 (c2 (c1 (c2 (c2 (c2 (jj Tryz.prog 4)))))))) (JX s jmV) .normal (Fil jmW):=ToP.run (z:=zF) (n:=20000) (dec:=[]) soundK37u (fun dead=>by kernel_rfl) (fun s=>by kernel_rfl) (by kernel_rfl)
def jjg:PS:=⟨[(1,.one (pL (.ptr 9 0))),(3,.one (pI 11))],[(9,⟨77,(0,0),0,XB++[pB false,pI 1073741824]++rp 299 (pI 0)++Zj++[pL (.ptr 16 0),pL (.ptr 17 0),pL (.slu 189 5)]++XC++[pI 0,pI 0,pB false,pB false,pL (.ptr 19 0),pB false,pI 5,pI 0,pI 0,pI (-421192430),pB false,pB false,pB false,pI 0,pI 40000,pI 0]++XD⟩),wFr,(17,⟨130,(0,0),0,[pI 8000,pI 80000]++rp 7 (pI 0)++[pB true]⟩),wMo,(19,⟨107,(0,0),0,[pI 32,pI 268435456,pL .nilsl]⟩)]++XE 40000++[(189,⟨58,(0,0),8,[pI 48000]++kG++[pI 56000]++kG++[pI 64000]++kG++[pI 72000]++kG++[pI 80000]++kG⟩)],211⟩
theorem jmX (s:Asg):ToP Tryz.prog 44 (c1 (c1 (c2 (c1 (c2 (c2 (c2 (jj Tryz.prog 4)))))))) (JX s jmW) .normal (Fil jjg):=ToP.run (z:=zF) (n:=20000) (dec:=[]) soundK37u (fun dead=>by kernel_rfl) (fun s=>by kernel_rfl) (by kernel_rfl)
def jjh:PS:=⟨[(1,.one (pL (.ptr 9 0))),(3,.one (pI 12))],[(9,⟨77,(0,0),0,XB++[pB false,pI 1073741824]++rp 299 (pI 0)++Zj++[pL (.ptr 16 0),pL (.ptr 17 0),pL (.slu 219 5)]++XC++[pI 0,pI 0,pB false,pB false,pL (.ptr 19 0),pB false,pI 6,pI 0,pI 0,pI (-505430916),pB false,pB false,pB false,pI 0,pI 48000,pI 0]++XD⟩),wFr,(17,⟨130,(0,0),0,[pI 8000,pI 88000]++rp 7 (pI 0)++[pB true]⟩),wMo,(19,⟨107,(0,0),0,[pI 32,pI 268435456,pL .nilsl]⟩)]++XE 48000++[(219,⟨58,(0,0),8,[pI 56000]++kG++[pI 64000]++kG++[pI 72000]++kG++[pI 80000]++kG++[pI 88000]++kG⟩)],241⟩
theorem jmY (s:Asg):ToP Tryz.prog 44 (c1 (c1 (c2 (c1 (c2 (c2 (c2 (jj Tryz.prog 4)))))))) (JX s jjg) .normal (Fil jjh):=ToP.run (z:=zF) (n:=20000) (dec:=[]) soundK37u (fun dead=>by kernel_rfl) (fun s=>by kernel_rfl) (by kernel_rfl)
def jji:PS:=⟨[(1,.one (pL (.ptr 9 0))),(3,.one (pI 13))],[(9,⟨77,(0,0),0,XB++[pB false,pI 1073741824]++rp 299 (pI 0)++Zj++[pL (.ptr 16 0),pL (.ptr 17 0),pL (.slu 249 5)]++XC++[pI 0,pI 0,pB false,pB false,pL (.ptr 19 0),pB false,pI 7,pI 0,pI 0,pI (-589669402),pB false,pB false,pB false,pI 0,pI 56000,pI 0]++XD⟩),wFr,(17,⟨130,(0,0),0,[pI 8000,pI 96000]++rp 7 (pI 0)++[pB true]⟩),wMo,(19,⟨107,(0,0),0,[pI 32,pI 268435456,pL .nilsl]⟩)]++XE 56000++[(249,⟨58,(0,0),8,[pI 64000]++kG++[pI 72000]++kG++[pI 80000]++kG++[pI 88000]++kG++[pI 96000]++kG⟩)],271⟩
theorem jmZ (s:Asg):ToP Tryz.prog 44 (c1 (c1 (c2 (c1 (c2 (c2 (c2 (jj Tryz.prog 4)))))))) (JX s jjh) .normal (Fil jji):=ToP.run (z:=zF) (n:=20000) (dec:=[]) soundK37u (fun dead=>by kernel_rfl) (fun s=>by kernel_rfl) (by kernel_rfl)
def jjj:PS:=⟨[(1,.one (pL (.ptr 9 0))),(3,.one (pI 14))],[(9,⟨77,(0,0),0,XB++[pB false,pI 1073741824]++rp 299 (pI 0)++Zj++[pL (.ptr 16 0),pL (.ptr 17 0),pL (.slu 279 5)]++XC++[pI 0,pI 0,pB false,pB false,pL (.ptr 19 0),pB false,pI 8,pI 0,pI 0,pI (-673907888),pB false,pB false,pB false,pI 0,pI 64000,pI 0]++XD⟩),wFr,(17,⟨130,(0,0),0,[pI 8000,pI 104000]++rp 7 (pI 0)++[pB true]⟩),wMo,(19,⟨107,(0,0),0,[pI 32,pI 268435456,pL .nilsl]⟩)]++XE 64000++[(279,⟨58,(0,0),8,[pI 72000]++kG++[pI 80000]++kG++[pI 88000]++kG++[pI 96000]++kG++[pI 104000]++kG⟩)],301⟩
theorem jm0 (s:Asg):ToP Tryz.prog 44 (c1 (c1 (c2 (c1 (c2 (c2 (c2 (jj Tryz.prog 4)))))))) (JX s jji) .normal (Fil jjj):=ToP.run (z:=zF) (n:=20000) (dec:=[]) soundK37u (fun dead=>by kernel_rfl) (fun s=>by kernel_rfl) (by kernel_rfl)
def jjk:PS:=⟨[(1,.one (pL (.ptr 9 0))),(3,.one (pI 15))],[(9,⟨77,(0,0),0,XB++[pB false,pI 1073741824]++rp 299 (pI 0)++Zj++[pL (.ptr 16 0),pL (.ptr 17 0),pL (.slu 309 5)]++XC++[pI 0,pI 0,pB false,pB false,pL (.ptr 19 0),pB false,pI 9,pI 0,pI 0,pI (-758146374),pB false,pB false,pB false,pI 0,pI 72000,pI 0]++XD⟩),wFr,(17,⟨130,(0,0),0,[pI 8000,pI 112000]++rp 7 (pI 0)++[pB true]⟩),wMo,(19,⟨107,(0,0),0,[pI 32,pI 268435456,pL .nilsl]⟩)]++XE 72000++[(309,⟨58,(0,0),8,[pI 80000]++kG++[pI 88000]++kG++[pI 96000]++kG++[pI 104000]++kG++[pI 112000]++kG⟩)],331⟩
theorem jm1 (s:Asg):ToP Tryz.prog 44 (c1 (c1 (c2 (c1 (c2 (c2 (c2 (jj Tryz.prog 4)))))))) (JX s jjj) .normal (Fil jjk):=ToP.run (z:=zF) (n:=20000) (dec:=[]) soundK37u (fun dead=>by kernel_rfl) (fun s=>by kernel_rfl) (by kernel_rfl)
def jjl:PS:=⟨[(1,.one (pL (.ptr 9 0))),(3,.one (pI 16))],[(9,⟨77,(0,0),0,XB++[P1.hb,pI 1073741824]++rp 23 (pI 0)++rp 300 (P1.hi)++[pL (.ptr 16 0),pL (.ptr 17 0),pL (.slu 339 5)]++XC++[pI 1,pI 0,pB false,pB false,pL (.ptr 19 0),pB true,pI 10,pI 0,pI 0,pI (-842384860),pB true,pB false,pB false,pI 0,pI 80000,pI 0]++XD⟩),wFr,(17,⟨130,(0,0),0,[pI 8000,pI 120000]++rp 7 (pI 0)++[pB true]⟩),wMo,(19,⟨107,(0,0),0,[pI 32,pI 268435456,pL (.slu 394 6)]⟩)]++XE 80000++[(339,⟨58,(0,0),8,[pI 88000]++kG++[pI 96000]++kG++[pI 104000]++kG++[pI 112000]++kG++[pI 120000]++kG⟩),(394,⟨38,(0,0),11,[pI 80000,pI 1073741824]++rp 9 (pI 0)++[pI 88000]++rp 10 (P1.hi)++[pI 96000]++rp 10 (P1.hi)++[pI 104000]++rp 10 (P1.hi)++[pI 112000]++rp 10 (P1.hi)++[pI 120000]++rp 10 (P1.hi)⟩)],415⟩
theorem jm2 (s:Asg):ToP Tryz.prog 44 (c1 (c1 (c2 (c1 (c2 (c2 (c2 (jj Tryz.prog 4)))))))) (JX s jjk) .normal (Fil jjl):=ToP.run (z:=zF) (n:=20000) (dec:=[]) soundK37u (fun dead=>by kernel_rfl) (fun s=>by kernel_rfl) (by kernel_rfl)
def jhh:PS:=⟨[(1,.one (pL (.ptr 9 0)))],[(9,⟨77,(0,0),0,XB++[P1.hb,pI 1073741824]++rp 23 (pI 0)++rp 300 (P1.hi)++[pL (.ptr 16 0),pL (.ptr 17 0),pL (.slu 339 5)]++XC++[pI 1,pI 0,pB false,pB false,pL (.ptr 19 0),pB true,pI 10,pI 0,pI 0,pI (-842384860),pB true,pB false,pB false,pI 0,pI 80000,pI 0]++XD⟩),wFr,(17,⟨130,(0,0),0,[pI 8000,pI 120000]++rp 7 (pI 0)++[pB true]⟩),wMo,(19,⟨107,(0,0),0,[pI 32,pI 268435456,pL (.slu 394 6)]⟩)]++XE 80000++[(339,⟨58,(0,0),8,[pI 88000]++kG++[pI 96000]++kG++[pI 104000]++kG++[pI 112000]++kG++[pI 120000]++kG⟩),(394,⟨38,(0,0),11,[pI 80000,pI 1073741824]++rp 9 (pI 0)++[pI 88000]++rp 10 (P1.hi)++[pI 96000]++rp 10 (P1.hi)++[pI 104000]++rp 10 (P1.hi)++[pI 112000]++rp 10 (P1.hi)++[pI 120000]++rp 10 (P1.hi)⟩)],415⟩
theorem jrx (s:Asg):ToP Tryz.prog 44 (c1 (c1 (c2 (c1 (c2 (c2 (c2 (jj Tryz.prog 4)))))))) (JX s jjl) (.exit 0) (Fil jhh):=ToP.run (z:=zF) (n:=20000) (dec:=[]) soundK37u (fun dead=>by kernel_rfl) (fun s=>by kernel_rfl) (by kernel_rfl)
def jm3:PS:=⟨[(1,.one (pL (.ptr 9 0))),(4,.one (pL (.ptr 417 0))),(5,.one (pB true))],[(9,⟨77,(0,0),0,XB++[P1.hb,pI 1073741824]++rp 23 (pI 0)++rp 300 (P1.hi)++[pL (.ptr 16 0),pL (.ptr 17 0),pL (.slu 339 5)]++XC++[pI 1,pI 0,pB false,pB false,pL (.ptr 19 0),pB true,pI 10,pI 0,pI 0,pI (-842384860),pB true,pB false,pB false,pI 0,pI 80000,pI 0]++XD⟩),wFr,(17,⟨130,(0,0),0,[pI 8000,pI 120000]++rp 7 (pI 0)++[pB true]⟩),wMo,(19,⟨107,(0,0),0,[pI 32,pI 268435456,pL (.slu 394 6)]⟩)]++XE 80000++[(339,⟨58,(0,0),8,[pI 88000]++kG++[pI 96000]++kG++[pI 104000]++kG++[pI 112000]++kG++[pI 120000]++kG⟩),(394,⟨38,(0,0),11,[pI 80000,pI 1073741824]++rp 9 (pI 0)++[pI 88000]++rp 10 (P1.hi)++[pI 96000]++rp 10 (P1.hi)++[pI 104000]++rp 10 (P1.hi)++[pI 112000]++rp 10 (P1.hi)++[pI 120000]++rp 10 (P1.hi)⟩),(417,⟨38,(0,0),0,[pI 120000]++rp 10 (P1.hi)⟩)],418⟩
theorem jry (s:Asg):ToP Tryz.prog 44 (c1 (c2 (c2 (c2 (c2 (jj Tryz.prog 4)))))) (JX s jhh) .normal (Fil jm3):=ToP.run (z:=zF) (n:=20000) (dec:=[]) soundK37u (fun dead=>by kernel_rfl) (fun s=>by kernel_rfl) (by kernel_rfl)
def jm4:PS:=⟨[(0,.one (pB true))],[],419⟩
theorem jrz (s:Asg):ToP Tryz.prog 44 (c1 (c2 (c2 (c2 (c2 (c2 (jj Tryz.prog 4))))))) (JX s jm3) .normal (Fil jm4):=ToP.run (z:=zF) (n:=20000) (dec:=[]) soundK37u (fun dead=>by kernel_rfl) (fun s=>by kernel_rfl) (by kernel_rfl)
def jm5:PS:=⟨[(0,.one (pB true))],[],419⟩
theorem jrA (s:Asg):ToP Tryz.prog 44 (c2 (c2 (c2 (c2 (c2 (c2 (jj Tryz.prog 4))))))) (JX s jm4) .ret (Fil jm5):=ToP.run (z:=zF) (n:=20000) (dec:=[]) soundK37u (fun dead=>by kernel_rfl) (fun s=>by kernel_rfl) (by kernel_rfl)
theorem jkg (s:Asg):RdP Tryz.prog 44 (c1 (c1 (c2 (c1 (c2 (c2 (c2 (jj Tryz.prog 4)))))))) 16 (JX s jkf) (.exit 0) (Fil jhh):=by
 refine RdP.next (jro s) ?_
 rintro x ⟨s,rfl⟩
 refine RdP.next (jrp s) ?_
 rintro x ⟨s,rfl⟩
 refine RdP.next (jrq s) ?_
 rintro x ⟨s,rfl⟩
 refine RdP.next (jrr s) ?_
 rintro x ⟨s,rfl⟩
 refine RdP.next (jrs s) ?_
 rintro x ⟨s,rfl⟩
 refine RdP.next (jrt s) ?_
 rintro x ⟨s,rfl⟩
 refine RdP.next (jru s) ?_
 rintro x ⟨s,rfl⟩
 refine RdP.next (jrv s) ?_
 rintro x ⟨s,rfl⟩
 refine RdP.next (jrw s) ?_
 rintro x ⟨s,rfl⟩
 refine RdP.next (jmX s) ?_
 rintro x ⟨s,rfl⟩
 refine RdP.next (jmY s) ?_
 rintro x ⟨s,rfl⟩
 refine RdP.next (jmZ s) ?_
 rintro x ⟨s,rfl⟩
 refine RdP.next (jm0 s) ?_
 rintro x ⟨s,rfl⟩
 refine RdP.next (jm1 s) ?_
 rintro x ⟨s,rfl⟩
 refine RdP.next (jm2 s) ?_
 rintro x ⟨s,rfl⟩
 exact RdP.last (by simp) (jrx s)
theorem jm6:ToP Tryz.prog 44 (jj Tryz.prog 4) ⟨jS 0 [],[],0⟩ .ret (Fil jm5):=by
 refine ToP.seq (by kernel_rfl) (jrk ⟨fun _ _=>0,fun _ _=>false,fun _ _=>0,fun _ _=>false⟩) ?_
 rintro x ⟨s,rfl⟩
 refine ToP.seq (by kernel_rfl) (jrl s) ?_
 rintro x ⟨s,rfl⟩
 refine ToP.seq (by kernel_rfl) (jrm s) ?_
 rintro x ⟨s,rfl⟩
 refine ToP.seq (by kernel_rfl) (B:=Fil jhh) (ToP.seq (by kernel_rfl) (jrn s) ?_) ?_
 ·rintro x ⟨s,rfl⟩
  exact ToP.block (id:=0) (e:= .exit 0) (by kernel_rfl) (ToP.loop (by kernel_rfl) (jkg s)) (.inl rfl)
 rintro x ⟨s,rfl⟩
 refine ToP.seq (by kernel_rfl) (jry s) ?_
 rintro x ⟨s,rfl⟩
 refine ToP.seq (by kernel_rfl) (jrz s) ?_
 rintro x ⟨s,rfl⟩
 exact jrA s
def jrB:List LV→Option (LV×List (Bool×Bool))
 | []=>some (.v (.one (.bool true)),[])
 | _=>none
theorem jm7:SumOK Tryz.prog 4 (jq jrB):=by
 refine xx fun args v cs hF hc hp hv w=> ?_
 unfold jrB at hF
 split at hF
 ·cases hF
  have ho:=jl soundK37u Tryz.func4 (by kernel_rfl)
  refine jbs (fn:=Tryz.f4) ho Tryz.func4 (c:=(jj Tryz.prog 4)) (by kernel_rfl) (by decide) (by decide) hp jm6 (.inr rfl) ?_ hv w
  rintro x ⟨s,rfl⟩ dead
  kernel_rfl
 ·cases hF
end Go.Proofs.YtbpfipbhaagllaaGreat

/- TopNow: the law's summaries. -/
namespace Go.Proofs.YtbpfipbhaagllaaGreat
open Go.Lr
noncomputable def GL:FuncId→Option SumK:=more GC 4 (jq jrB)
theorem kj:Sound Tryz.prog GL:=soundGC.more jm7
end Go.Proofs.YtbpfipbhaagllaaGreat

/- TopNow: the law up to its loop, behind its loop. -/
namespace Go.Proofs.YtbpfipbhaagllaaGreat
open Go.Lr
set_option maxRecDepth 100000
noncomputable abbrev lwZ:Code:=jj Tryz.prog 3
noncomputable abbrev mdZ:Code:=jj Tryz.prog 6
def lw2 (dl ln:Int):List (Nat×PV2):=[(0,.one (qS dl)),(1,.one (qS ln))]
def Xm (dl:Int):List Go.Lr.P2:=(Qy dl (qB false) (qI 0) (qI 0) (qI 0) (qI 0)).take 72
def lwP (dl:Int):Nat×PB2:=(2,⟨29,(0,0),0,Xm dl,none⟩)
theorem jwE {dl ln:Int} (s:Asg):ToP Tryz.prog 91 (c1 lwZ) (je s ⟨lw2 dl ln,[],0⟩) .normal (jA ⟨lw2 dl ln,[],0⟩):=nst kj [] [] [] [] (fun s i b hb hi=>nomatch hi) jd
theorem jwF {dl ln:Int} (s:Asg):ToP Tryz.prog 91 (c1 (c2 lwZ)) (je s ⟨lw2 dl ln,[],0⟩) .normal (jA ⟨lw2 dl ln,[],0⟩):=nst kj [] [] [] [] (fun s i b hb hi=>nomatch hi) jd
theorem jwG {dl ln:Int} (s:Asg):ToP Tryz.prog 91 (c1 (c2 (c2 (c2 lwZ)))) (je s ⟨lw2 dl ln,[],0⟩) .normal (jA ⟨lw2 dl ln++[nzp 5 2 0],[(2,⟨29,(0,0),0,Xm 40000,none⟩)],3⟩):=nst kj [] [] [] [] (fun s i b hb hi=>nomatch hi) jd
theorem jwH {dl ln:Int} (s:Asg):ToP Tryz.prog 91 (c1 (c2 (c2 (c2 (c2 lwZ))))) (je s ⟨lw2 dl ln++[nzp 5 2 0],[(2,⟨29,(0,0),0,Xm 40000,none⟩)],3⟩) .normal (jA ⟨lw2 dl ln++[nzp 5 2 0],[lwP dl],3⟩):=nst kj [] [] [] [] (fun s i b hb hi=>nomatch hi) jd
theorem jo6 {dl:Int} (d0:0≤dl) (d1:dl≤300000) (s:Asg):ToP Tryz.prog 19 mdZ (je s ⟨[(0,.agg (Xm dl))],[],3⟩) .ret (jA ⟨[nzp 2 28 0],(gi0 dl 0 1 0 0 0).mem++[drv 0 0],29⟩):=
 nst soundGN [] (Xr 8 []) (nn 564 (tt 4 (nn 1 (tt 4 (nn 107 []))))) (ra 4 (decide (dl≤300000),true) (ra 4 (decide (dl≥0),true) [])) (fun s i b hb hi=>nomatch hi) (j9 (decide_eq_true d1) (j9 (decide_eq_true d0) jd _) _)
def lwE (dl ln k t st:Int) (n m:Nat) (cs:List At):PS2:=⟨[(0,.one (qS dl)),(1,.one (qS ln)),nzp 6 28 0,(7,.one (qS k))],drv (8000*k) st::(mZ dl k t (8000*(t - 1)) n m cs).mem,60⟩
theorem jo7 {dl ln k t st:Int} {n m:Nat} {cs:List At} (hO:OutL cs m (8000*k)) (hm:m≤32) (h0:0≤k) (h1:k≤1000) (d0:0≤dl) (d1:dl≤300000) (ht:8000*(t - 1)≤8000*k - dl) (s:Asg):
  ToP Tryz.prog 91 (c2 (c2 (c2 (c2 (c2 (c2 (c2 (c2 lwZ)))))))) (je s (lwE dl ln k t st n m cs)) .ret (jA ⟨[(4,.one (.raw (.bool (decide (8000*(t - 1)>wr .i64 (wr .i64 (8000*k - dl) - 8000))))))],[],65⟩):=by
 have hp:=hO.pos
 have e1:wr .i64 ((m:Int) - 1)=((m - 1:Nat):Int):=by rw [Go.Lr.w1 (by omega)];omega
 refine nst kj [] (Xr 24 []) (ff 1 (nn 8 (tt 21 []))) (ra 11 (decide (8000*(t - 1)≤wr .i64 (8000*k - dl)),true) (ra 10 (intAt cs ((wr .i64 ((m:Int) - 1)).toNat*11)==8000*k,true) [(jV cs ((wr .i64 ((m:Int) - 1)).toNat*11) 11&&decide (11≠0),true),(decide (0≤wr .i64 ((m:Int) - 1))&&decide (wr .i64 ((m:Int) - 1)<(m:Int)),true),((m:Int)==0,false)])) (fun s i b hb hi=>nomatch hi) ?_
 rw [e1,Int.toNat_natCast,hO.last,hO.all.areI 11 _ (by omega),decide_eq_true (show (0:Int)≤((m - 1:Nat):Int) by omega),decide_eq_true (show ((m - 1:Nat):Int)<(m:Int) by omega),show ((m:Int)==0)=false by simp;omega]
 exact j9 (decide_eq_true (by rw [Go.Lr.w1 (by omega)];exact ht)) (j9 (by simp) (ja rfl (ja rfl (ja rfl jd))) _) _
end Go.Proofs.YtbpfipbhaagllaaGreat

/- TopNow: the law's call of made, a round of its loop. -/
namespace Go.Proofs.YtbpfipbhaagllaaGreat
open Go.Lr
set_option maxRecDepth 100000
noncomputable abbrev jtg:Code:=c1 (c2 (c2 (c2 (c2 (c2 lwZ)))))
theorem jth {dl ln:Int} (s:Asg):ToO Tryz.prog 91 (xL jtg) 0 1 (je s ⟨lw2 dl ln++[nzp 5 2 0],[lwP dl],3⟩) (jA ⟨lw2 dl ln++[(30,.agg (Xm dl))],[lwP dl],3⟩):=
 ToO.run2 (z:=⟨false,false,false⟩) (n:=20000) (dec:=[]) (mask:=[]) (os:=[]) (es:=Kv ⟨lw2 dl ln++[(30,.agg (Xm dl))],[lwP dl],3⟩) kj (by kernel_rfl) (by kernel_rfl) (fun dead=>by kernel_rfl) jd (ke _) (fun s=>jI (by kernel_rfl)) (by kernel_rfl)
theorem jti {dl:Int} (d0:0≤dl) (d1:dl≤300000) (s:Asg):ToP Tryz.prog 19 mdZ ⟨jS 0 [.v (.agg (Xo (fun _=>0) (fun _=>false) 0 (Xm dl)))],[]++z4 s [lwP dl],3⟩ .ret (fun y=>∃x,jA ⟨[nzp 2 28 0],(gi0 dl 0 1 0 0 0).mem++[drv 0 0],29⟩ x∧y=⟨x.live,x.mem++z4 s [lwP dl],x.nb⟩):=by
 have h:∀i,(getM (z4 s [lwP dl]) i).isSome→i=2:=fun i hi=>by
  by_cases e:i=2
  ·exact e
  ·rw [show z4 s [lwP dl]=[(2,_)] from rfl,jm,if_neg e] at hi;cases hi
 exact ToP.frame (m:=[]) (jo6 d0 d1 s) (jI (by kernel_rfl)) (fun _ _=>rfl) (by rintro x ⟨t,rfl⟩ i hi;obtain rfl:=h i hi;kernel_rfl) (by rintro x ⟨t,rfl⟩;exact jI (by kernel_rfl))
theorem jtj {dl ln:Int} (d0:0≤dl) (d1:dl≤300000) (s:Asg):ToO Tryz.prog 91 (xL jtg) 1 1 (je s ⟨lw2 dl ln++[(30,.agg (Xm dl))],[lwP dl],3⟩) (jA ⟨nzp 31 28 0::lw2 dl ln,(gi0 dl 0 1 0 0 0).mem++[drv 0 0],29⟩):=by
 refine ToO.less (ToO.callK (sz:=91) (c:=mdZ) (A:=je s ⟨lw2 dl ln++[(30,.agg (Xm dl))],[lwP dl],3⟩) (t:=31) (f:=6) (args:=[.v (.agg (Xo (fun _=>0) (fun _=>false) 0 (Xm dl)))]) (e:= .ret) (v:=fun _=> .v (.one (.ptr 28 0))) kj [0,1] (fun dead=>by kernel_rfl) Tryz.func6 (by kernel_rfl) (by kernel_rfl) (by kernel_rfl) (by kernel_rfl) (jti d0 d1 s) (.inr rfl) (by rintro y ⟨x,⟨t,rfl⟩,rfl⟩ dead;kernel_rfl) (by rintro y ⟨x,⟨t,rfl⟩,rfl⟩;exact jI (by kernel_rfl))) ?_
 rintro z ⟨y,⟨x,⟨t,rfl⟩,rfl⟩,rfl⟩
 exact ⟨je t ⟨nzp 31 28 0::lw2 dl ln,(gi0 dl 0 1 0 0 0).mem++[drv 0 0],29⟩,[],z4 s [lwP dl],⟨t,rfl⟩,jI (by kernel_rfl),by kernel_rfl,by kernel_rfl,by kernel_rfl⟩
def lw6 (dl ln:Int):List (Nat×PV2):=[(0,.one (qS dl)),(1,.one (qS ln)),nzp 6 28 0]
theorem jwI {dl ln:Int} (d0:0≤dl) (d1:dl≤300000) (s:Asg):ToP Tryz.prog 91 jtg (je s ⟨lw2 dl ln++[nzp 5 2 0],[lwP dl],3⟩) .normal (jA ⟨lw6 dl ln,drv 0 0::(gi0 dl 0 1 0 0 0).mem,29⟩):=by
 refine ToP.of_ToO (n:=3) (by kernel_rfl) (by kernel_rfl) (ToO.seq (m:=2) (m':=1) (ToO.seq (m:=1) (m':=1) (jth s) (by rintro x ⟨s,rfl⟩;exact jtj d0 d1 s)) ?_)
 rintro x ⟨s,rfl⟩
 exact ToO.run2 (z:=⟨false,false,false⟩) (n:=20000) (dec:=[]) (mask:=[]) (os:=[]) (es:=Kv ⟨lw6 dl ln,drv 0 0::(gi0 dl 0 1 0 0 0).mem,29⟩) kj (by kernel_rfl) (by kernel_rfl) (fun dead=>by kernel_rfl) jd (ke _) (fun s=>jI (by kernel_rfl)) (by kernel_rfl)
def lwK (dl ln k:Int):List (Nat×PV2):=lw6 dl ln++[(7,.one (qS k))]
def jbj (dl ln k:Int):List (Nat×LV):=[(0,I dl),(1,I ln),(6,.v (.one (.ptr 28 0))),(7,I k)]
theorem jwJ {dl ln:Int} (s:Asg):ToP Tryz.prog 91 (c1 (c2 (c2 (c2 (c2 (c2 (c2 lwZ))))))) (je s ⟨lw6 dl ln,drv 0 0::(gi0 dl 0 1 0 0 0).mem,29⟩) .normal (jA ⟨lw6 dl ln,drv 0 0::(gi0 dl 0 1 0 0 0).mem,29⟩):=nst kj [] [] [] [] (fun s i b hb hi=>nomatch hi) jd
noncomputable abbrev jtk:Code:=c2 (c2 (c2 (c2 (c2 (c2 (c2 lwZ))))))
theorem jtl {dl ln:Int} (s:Asg):ToP Tryz.prog 91 (c1 (c1 jtk)) (je s ⟨lw6 dl ln,drv 0 0::(gi0 dl 0 1 0 0 0).mem,29⟩) .normal (jA ⟨lwK dl ln 0,drv (8000*0) 0::(gi0 dl 0 1 0 0 0).mem,60⟩):=nst kj [] [] [] [] (fun s i b hb hi=>nomatch hi) jd
noncomputable abbrev jcM:Code:=c1 (c1 (c2 (c1 jtk)))
theorem jlp {c:Code} {e:Ex} {dl ln k k':Int} {M:Mem} (h:∀s,ToP Tryz.prog 91 c (je s ⟨lwK dl ln k,[],60⟩) e (jA ⟨lwK dl ln k',[],60⟩)):ToP Tryz.prog 91 c ⟨jbj dl ln k,M,60⟩ e (fun y=>y=⟨jbj dl ln k',M,60⟩):=
 (ToP.beside (m:=[]) (m2:=M) (h ⟨fun _ _=>0,fun _ _=>false,fun _ _=>0,fun _ _=>false⟩) (by rintro x ⟨s,rfl⟩;exact ⟨jI (by kernel_rfl),rfl,fun i hi=>hi⟩)).mono (by rintro y ⟨x,⟨s,rfl⟩,rfl⟩;rfl)
theorem jwK {dl ln k:Int} (h:k<wr .i64 (wr .i64 (11+wr .i64 (dl.tdiv 8000))+ln)) (s:Asg):ToP Tryz.prog 91 (c1 jcM) (je s ⟨lwK dl ln k,[],60⟩) .normal (jA ⟨lwK dl ln k,[],60⟩):=
 nst kj [] [true] [some true] [(decide (k<wr .i64 (wr .i64 (11+wr .i64 (dl.tdiv 8000))+ln)),true)] (fun s i b hb hi=>nomatch hi) (jk6 (decide_eq_true h))
theorem jwL {dl ln k:Int} (h:¬k<wr .i64 (wr .i64 (11+wr .i64 (dl.tdiv 8000))+ln)) (s:Asg):ToP Tryz.prog 91 (c1 jcM) (je s ⟨lwK dl ln k,[],60⟩) (.exit 0) (jA ⟨lwK dl ln k,[],60⟩):=
 nst kj [] [true] [some false] [(decide (k<wr .i64 (wr .i64 (11+wr .i64 (dl.tdiv 8000))+ln)),false)] (fun s i b hb hi=>nomatch hi) (jk6 (decide_eq_false h))
theorem jwM {dl ln k:Int} (s:Asg):ToP Tryz.prog 91 (c2 (c2 jcM)) (je s ⟨lwK dl ln k,[],60⟩) .normal (jA ⟨lwK dl ln (wr .i64 (k+1)),[],60⟩):=nst kj [] [] [] [] (fun s i b hb hi=>nomatch hi) jd
theorem jh5 {X:PS2} {dl ln k L st:Int} {B:Kst→Prop}
  (hop:∀s,ToO Tryz.prog 91 (xL (c1 (c1 (c2 jcM)))) 0 1 (je s ⟨lwK dl ln k,drv L st::X.mem,X.nb⟩) (jA ⟨nzp 43 28 0::lwK dl ln k,drv L st::X.mem,X.nb⟩))
  (hr:∀s,ToP Tryz.prog 37 rtZ (je s (rt0 X L st)) .normal B)
  (hB:∀x,B x→x.nb=60∧x.live=[]∧∀live,kE 60 live=true→KstOK ⟨live,x.mem,60⟩) (s:Asg):
  ToP Tryz.prog 91 (c1 (c2 jcM)) (je s ⟨lwK dl ln k,drv L st::X.mem,X.nb⟩) .normal (fun y=>∃x,B x∧y=⟨jbj dl ln k,x.mem,60⟩):=by
 refine ToP.block (id:=1) (e:= .normal) (by kernel_rfl) ?_ (.inr rfl)
 refine ToP.of_ToO (n:=2) (by kernel_rfl) (by kernel_rfl) (ToO.seq (m:=1) (m':=1) (hop s) ?_)
 rintro x ⟨s,rfl⟩
 refine ToO.less (ToO.callK (sz:=91) (c:=rtZ) (A:=je s ⟨nzp 43 28 0::lwK dl ln k,drv L st::X.mem,X.nb⟩) (t:=44) (f:=7) (args:=[.v (.one (.ptr 28 0))]) (e:= .normal) (v:=fun _=> .tup []) (B:=B) kj [0,1,6,7] (fun dead=>by kernel_rfl) Tryz.func7 (by kernel_rfl) (by kernel_rfl) (by kernel_rfl) (by kernel_rfl) (hr s) (.inl rfl) ?_ ?_) ?_
 ·rintro y hy dead
  obtain ⟨h1,h2,h3⟩:=hB y hy
  kernel_rfl
 ·rintro y hy
  obtain ⟨h1,h2,h3⟩:=hB y hy
  rw [h1]
  exact h3 _ (by kernel_rfl)
 ·rintro z ⟨y,hy,rfl⟩
  obtain ⟨h1,h2,h3⟩:=hB y hy
  exact ⟨⟨jbj dl ln k,y.mem,60⟩,[(44,.tup [])],[],⟨y,hy,rfl⟩,h3 _ (by kernel_rfl),by kernel_rfl,(List.append_nil _).symm,h1⟩
theorem jh6 {dl ln k:Int} {M:Mem} {l:List (Nat×Nat)} {A:Kst} {B:Kst→Prop} (hk:k<wr .i64 (wr .i64 (11+wr .i64 (dl.tdiv 8000))+ln)) (h0:0≤k) (h1:k≤1000) (hs:jjP 29 l=true) (hren:(⟨qF (swp l) (jbj dl ln k),zG (swp l) M,A.nb⟩:Kst)=A) (hA:KstOK A) (hN:Nat.ble 29 A.nb=true)
  (hcall:ToP Tryz.prog 91 (c1 (c2 jcM)) A .normal (fun y=>∃x,B x∧y=⟨jbj dl ln k,x.mem,60⟩)):ToR Tryz.prog 91 29 jcM ⟨jbj dl ln k,M,60⟩ .normal (fun y=>∃x,B x∧y=⟨jbj dl ln (k+1),x.mem,60⟩):=by
 refine ToR.seq (by kernel_rfl) (B:=fun y=>y=A) (ToR.ren (ToR.of_ToP (jlp (jwK hk)) (by kernel_rfl)) l hs ?_) ?_
 ·rintro x rfl
  refine ⟨A.nb, ?_⟩
  show KstOK (⟨qF (swp l) (jbj dl ln k),zG (swp l) M,A.nb⟩:Kst)∧(⟨qF (swp l) (jbj dl ln k),zG (swp l) M,A.nb⟩:Kst)=A
  rw [hren]
  exact ⟨hA,rfl⟩
 ·rintro x rfl
  refine ToR.of_ToP (ToP.seq (by kernel_rfl) hcall ?_) hN
  rintro x ⟨y,hy,rfl⟩
  refine (jlp jwM).mono ?_
  rintro z rfl
  exact ⟨y,hy,by rw [Go.Lr.w1 (by omega)]⟩
end Go.Proofs.YtbpfipbhaagllaaGreat

/- TopNow: the law's loop, the law. -/
namespace Go.Proofs.YtbpfipbhaagllaaGreat
open Go.Lr
set_option maxRecDepth 100000
abbrev lwN (dl ln:Int):Int:=wr .i64 (wr .i64 (11+wr .i64 (dl.tdiv 8000))+ln)
def inZ (dl ln k t i ft:Int) (n:Nat) (y:Kst):Prop:=∃s v st,y=⟨jbj dl ln k,Jr (8000*k) st++(je s (zE dl k t i ft n v)).mem,60⟩
def inM (dl ln k t:Int) (n:Nat) (y:Kst):Prop:=∃s m cs st,OutL cs m (8000*k)∧m≤32∧y=⟨jbj dl ln k,Jr (8000*k) st++(je s (mZ dl k t (8000*(t - 1)) n m cs)).mem,60⟩
theorem jtm {dl k t i ft v L st:Int} {n:Nat} {s:Asg} {live:List (Nat×LV)} (hl:kE 60 live=true):KstOK ⟨live,Jr L st++(je s (zE dl k t i ft n v)).mem,60⟩:=q8 [38] hl (by kernel_rfl) (xF t n)
theorem jtn {dl k t ft L st:Int} {n m:Nat} {cs:List At} {s:Asg} {live:List (Nat×LV)} (hc:okL noP cs=true) (hl:kE 60 live=true):KstOK ⟨live,Jr L st++(je s (mZ dl k t ft n m cs)).mem,60⟩:=q8 [38,41] hl (by kernel_rfl) (xP t n hc)
theorem juT {dl ln k t i ft v st:Int} {n:Nat} (s:Asg):(⟨qF (swp [(38,29)]) (jbj dl ln k),zG (swp [(38,29)]) (Jr (8000*k) st++(je s (zE dl k t i ft n v)).mem),30⟩:Kst)=je s ⟨lwK dl ln k,drv (8000*k) st::(gi6 dl k t i ft n).mem,30⟩:=by
 have hK:KstOK ⟨[],Jr (8000*k) st++(je s (zE dl k t i ft n v)).mem,60⟩:=jtm rfl
 have hraw:Jx [38] (Jr (8000*k) st++(je s (zE dl k t i ft n v)).mem):=qu hK.uq fun j hj b hb=>jlk (A:=⟨[],Jr (8000*k) st++(je s (zE dl k t i ft n v)).mem,60⟩) (Q:=38) (ty:=58) (t:=t) (n:=n) (by kernel_rfl) j b hb hj
 rw [qt hraw]
 show (_:Kst)=_
 kernel_rfl
def mS (dl k t:Int) (n m:Nat) (cs:List At):List (Nat×PB2):=(ms0 dl k t n m cs).mem.take 11++[nzO 30 cs,nzQ 29 t n]
theorem jwN {dl ln k t st:Int} {n m:Nat} {cs:List At} (hc:okL noP cs=true) (s:Asg):(⟨qF (swp [(38,29),(41,30)]) (jbj dl ln k),zG (swp [(38,29),(41,30)]) (Jr (8000*k) st++(je s (mZ dl k t (8000*(t - 1)) n m cs)).mem),31⟩:Kst)=je s ⟨lwK dl ln k,drv (8000*k) st::mS dl k t n m cs,31⟩:=by
 have hK:KstOK ⟨[],Jr (8000*k) st++(je s (mZ dl k t (8000*(t - 1)) n m cs)).mem,60⟩:=jtn hc rfl
 have hraw:Jx [38,41] (Jr (8000*k) st++(je s (mZ dl k t (8000*(t - 1)) n m cs)).mem):=qu hK.uq fun j hj b hb=>jhW (A:=⟨[],Jr (8000*k) st++(je s (mZ dl k t (8000*(t - 1)) n m cs)).mem,60⟩) (Q:=38) (O:=41) (tq:=58) (to:=38) (t:=t) (n:=n) (cs:=cs) (by kernel_rfl) (by kernel_rfl) hc j b hb hj
 rw [qt hraw]
 show (_:Kst)=_
 kernel_rfl
theorem juU {dl ln st t' i' ft' v':Int} {n':Nat} (hk:0<lwN dl ln) (h:∀s,ToP Tryz.prog 102 imZ (je s (gi0 dl 0 1 0 0 0)) .ret (jA (zE dl (0+1) t' i' ft' n' v'))) (s:Asg):ToR Tryz.prog 91 29 jcM (je s ⟨lwK dl ln 0,drv (8000*0) st::(gi0 dl 0 1 0 0 0).mem,60⟩) .normal (inZ dl ln (0+1) t' i' ft' n'):=by
 refine (jh6 (k:=0) (M:=(je s ⟨lwK dl ln 0,drv (8000*0) st::(gi0 dl 0 1 0 0 0).mem,60⟩).mem) (l:=[]) (A:=je s ⟨lwK dl ln 0,drv (8000*0) st::(gi0 dl 0 1 0 0 0).mem,29⟩) hk (by decide) (by decide) (by kernel_rfl) (by kernel_rfl) (jI (by kernel_rfl)) (by kernel_rfl)
  (jh5 (X:=gi0 dl 0 1 0 0 0) (L:=8000*0) (st:=st) (fun s=>ToO.run2 (z:=⟨false,false,false⟩) (n:=20000) (dec:=[]) (mask:=[]) (os:=[]) (es:=Kv ⟨nzp 43 28 0::lwK dl ln 0,drv (8000*0) st::(gi0 dl 0 1 0 0 0).mem,29⟩) kj (by kernel_rfl) (by kernel_rfl) (fun dead=>by kernel_rfl) jd (ke _) (fun s=>jI (by kernel_rfl)) (by kernel_rfl)) (jtJ h) ?_ s)).mono ?_
 ·rintro x ⟨s',rfl⟩
  exact ⟨rfl,rfl,fun live hl=>jtm hl⟩
 ·rintro y ⟨x,⟨s',rfl⟩,rfl⟩
  exact ⟨s',v',_,rfl⟩
theorem juV {dl ln k t i ft t' i' ft' v':Int} {n n':Nat} (hk:k<lwN dl ln) (h0:0≤k) (h1:k≤1000) (h:∀s,ToP Tryz.prog 102 imZ (je s (gi6 dl k t i ft n)) .ret (jA (zE dl (k+1) t' i' ft' n' v'))) {y:Kst} (hy:inZ dl ln k t i ft n y):ToR Tryz.prog 91 29 jcM y .normal (inZ dl ln (k+1) t' i' ft' n'):=by
 obtain ⟨s,v,st,rfl⟩:=hy
 refine (jh6 (l:=[(38,29)]) (A:=je s ⟨lwK dl ln k,drv (8000*k) st::(gi6 dl k t i ft n).mem,30⟩) hk h0 h1 (by kernel_rfl) (juT s) (ZN 29 t n) (by kernel_rfl)
  (jh5 (X:=gi6 dl k t i ft n) (L:=8000*k) (st:=st) (fun s=>ToO.run2 (z:=⟨false,false,false⟩) (n:=20000) (dec:=[]) (mask:=[]) (os:=[]) (es:=Kv ⟨nzp 43 28 0::lwK dl ln k,drv (8000*k) st::(gi6 dl k t i ft n).mem,30⟩) kj (by kernel_rfl) (by kernel_rfl) (fun dead=>by kernel_rfl) jd (ke _) (fun s=>ZN 29 t n) (by kernel_rfl)) (jtI h0 h1 h) ?_ s)).mono ?_
 ·rintro x ⟨s',rfl⟩
  exact ⟨rfl,rfl,fun live hl=>jtm hl⟩
 ·rintro y ⟨x,⟨s',rfl⟩,rfl⟩
  exact ⟨s',v',_,rfl⟩
theorem jwO {dl ln k t i ft t':Int} {n n':Nat} (hk:k<lwN dl ln) (h0:0≤k) (h1:k≤1000) (h:∀s,ToP Tryz.prog 102 imZ (je s (gi6 dl k t i ft n)) .ret (fun y=>∃cs' m',OutL cs' m' (8000*(k+1))∧m'≤32∧jA (mZ dl (k+1) t' (8000*(t' - 1)) n' m' cs') y)) {y:Kst} (hy:inZ dl ln k t i ft n y):ToR Tryz.prog 91 29 jcM y .normal (inM dl ln (k+1) t' n'):=by
 obtain ⟨s,v,st,rfl⟩:=hy
 refine (jh6 (l:=[(38,29)]) (A:=je s ⟨lwK dl ln k,drv (8000*k) st::(gi6 dl k t i ft n).mem,30⟩) hk h0 h1 (by kernel_rfl) (juT s) (ZN 29 t n) (by kernel_rfl)
  (jh5 (X:=gi6 dl k t i ft n) (L:=8000*k) (st:=st) (fun s=>ToO.run2 (z:=⟨false,false,false⟩) (n:=20000) (dec:=[]) (mask:=[]) (os:=[]) (es:=Kv ⟨nzp 43 28 0::lwK dl ln k,drv (8000*k) st::(gi6 dl k t i ft n).mem,30⟩) kj (by kernel_rfl) (by kernel_rfl) (fun dead=>by kernel_rfl) jd (ke _) (fun s=>ZN 29 t n) (by kernel_rfl)) (jtK h0 h1 h) ?_ s)).mono ?_
 ·rintro x ⟨cs',m',a,b,s',rfl⟩
  exact ⟨rfl,rfl,fun live hl=>jtn a.all.ok hl⟩
 ·rintro y ⟨x,⟨cs',m',a,b,s',rfl⟩,rfl⟩
  exact ⟨s',m',cs',_,a,b,rfl⟩
theorem jwP {dl ln k t t':Int} {n n':Nat} (hk:k<lwN dl ln) (h0:0≤k) (h1:k≤1000) (h:∀m cs,OutL cs m (8000*k)→m≤32→∀s,ToP Tryz.prog 102 imZ (je s (ms0 dl k t n m cs)) .ret (fun y=>∃cs' m',OutL cs' m' (8000*(k+1))∧m'≤32∧jA (mZ dl (k+1) t' (8000*(t' - 1)) n' m' cs') y)) {y:Kst} (hy:inM dl ln k t n y):ToR Tryz.prog 91 29 jcM y .normal (inM dl ln (k+1) t' n'):=by
 obtain ⟨s,m,cs,st,hO,hm,rfl⟩:=hy
 have hc:=hO.all.ok
 refine (jh6 (l:=[(38,29),(41,30)]) (A:=je s ⟨lwK dl ln k,drv (8000*k) st::mS dl k t n m cs,31⟩) hk h0 h1 (by kernel_rfl) (jwN hc s) (yg 29 30 t n hc) (by kernel_rfl)
  (ToP.sub (A0:=je s ⟨lwK dl ln k,drv (8000*k) st::(ms0 dl k t n m cs).mem,31⟩) (yg 29 30 t n hc) (fun q hq=>hq) (fun i b hb=> ?_) rfl (jh5 (X:=ms0 dl k t n m cs) (L:=8000*k) (st:=st) (fun s=>ToO.run2 (z:=⟨false,false,false⟩) (n:=20000) (dec:=[]) (mask:=[]) (os:=[]) (es:=Kv ⟨nzp 43 28 0::lwK dl ln k,drv (8000*k) st::(ms0 dl k t n m cs).mem,31⟩) kj (by kernel_rfl) (by kernel_rfl) (fun dead=>by kernel_rfl) jd (ke _) (fun s=>yg 29 30 t n hc) (by kernel_rfl)) (jtL h0 h1 hc (h m cs hO hm)) ?_ s))).mono ?_
 ·have e0:(je s ⟨lwK dl ln k,drv (8000*k) st::(ms0 dl k t n m cs).mem,31⟩).mem=(je s ⟨[],drv (8000*k) st::(ms0 dl k t n m cs).mem.take 11,31⟩).mem++([(29,⟨58,(0,0),8,jO t n⟩)]++[(30,⟨38,(0,0),11,cs⟩)]):=by kernel_rfl
  have e1:(je s ⟨lwK dl ln k,drv (8000*k) st::mS dl k t n m cs,31⟩).mem=((je s ⟨[],drv (8000*k) st::(ms0 dl k t n m cs).mem.take 11,31⟩).mem++[(30,⟨38,(0,0),11,cs⟩)])++[(29,⟨58,(0,0),8,jO t n⟩)]:=by kernel_rfl
  rw [e1]
  rw [e0,QC] at hb
  ·exact hb
  ·intro j hj
   rw [jm] at hj
   split at hj
   ·rename_i e;subst e;rfl
   ·cases hj
 ·rintro x ⟨cs',m',a,b,s',rfl⟩
  exact ⟨rfl,rfl,fun live hl=>jtn a.all.ok hl⟩
 ·rintro y ⟨x,⟨cs',m',a,b,s',rfl⟩,rfl⟩
  exact ⟨s',m',cs',_,a,b,rfl⟩
end Go.Proofs.YtbpfipbhaagllaaGreat

/- TopNow: the law: rounds up to the first step, level steps, the tilt, rounds behind it; what is told at the end. -/
namespace Go.Proofs.YtbpfipbhaagllaaGreat
open Go.Lr
set_option maxRecDepth 100000
structure Wt (dl:Int) (w:Nat):Prop where
 d0:0≤dl
 d1:dl≤300000
 h1:dl≤8000*w
 h2:w=0∨8000*((w:Int) - 1)<dl
theorem jjF {dl k t i ft:Int} {n:Nat} (h0:0≤i) (h1:i<9) (s:Asg):ToP Tryz.prog 102 (c1 (c2 (c2 (c1 (c2 (c1 (c1 (c1 (c2 (c2 (c2 (c2 (c2 (c2 (imZ))))))))))))))) (je s (jcE dl k t i ft n)) .normal (jA (jeE dl k t (i+1) ft n)):=by
 have h:i=0∨i=1∨i=2∨i=3∨i=4∨i=5∨i=6∨i=7∨i=8:=by omega
 rcases h with rfl | rfl | rfl | rfl | rfl | rfl | rfl | rfl | rfl
 ·exact gL0 s
 ·exact gL1 s
 ·exact gL2 s
 ·exact gL3 s
 ·exact gL4 s
 ·exact gL5 s
 ·exact gL6 s
 ·exact gL7 s
 ·exact gL8 s
theorem juW {dl k t i ft:Int} {n:Nat} {A:Kst} (h:ToP Tryz.prog 102 imZ A .ret (jA (joG dl k t i ft n))):ToP Tryz.prog 102 imZ A .ret (jA (zE dl (k+1) (t+1) i (8000*t) n 1)):=
 h.mono (by rintro y ⟨s,rfl⟩;exact ⟨s,by kernel_rfl⟩)
section
variable {dl ln:Int} {w:Nat}
theorem juX (hw:Wt dl w) (hN:lwN dl ln≤1000):∀(j:Nat) (k t:Int) (y:Kst),inM dl ln k t w y→k+1=t+w→0≤k→k+j=lwN dl ln→RdR Tryz.prog 91 29 jcM (j+1) y (.exit 0) (fun z=>∃t,lwN dl ln+1=t+w∧inM dl ln (lwN dl ln) t w z)
 | 0,k,t,y,hy,ht,h0,hj=>by
  obtain ⟨s,m,cs,st,hO,hm,rfl⟩:=hy
  have hk:k=lwN dl ln:=by omega
  refine RdR.last (by simp) (ToR.seq_out (by kernel_rfl) (by simp) (ToR.of_ToP ((jlp (jwL (by show ¬k<lwN dl ln;omega))).mono ?_) (by kernel_rfl)))
  rintro z rfl
  exact ⟨t,by omega,hk ▸ ⟨s,m,cs,st,hO,hm,rfl⟩⟩
 | j+1,k,t,y,hy,ht,h0,hj=>by
  have:=hw.d0;have:=hw.d1;have:=hw.h1;have:=hw.h2
  refine RdR.next (jwP (t':=t+1) (n':=w) (by omega) h0 (by omega) (fun m cs hO hm s=> ?_) hy) fun x hx=>juX hw hN j (k+1) (t+1) x hx (by omega) (by omega) (by omega)
  have h:=jwT (by kernel_rfl) (jld hO hm ht (by omega) h0 (by omega) hw.d0 hw.d1 hw.h1 hw.h2 s)
  rw [show t+1 - 1=t by omega]
  exact h
theorem jto (hw:Wt dl w) (hN:lwN dl ln≤1000) (hN2:w+10≤lwN dl ln):∀(d j:Nat) (k t i ft:Int) (y:Kst),inZ dl ln k t i ft w y→i+d=9→0≤i→k=w+i→t=i+1→ft=8000*i→k+j=lwN dl ln→RdR Tryz.prog 91 29 jcM (j+1) y (.exit 0) (fun z=>∃t,lwN dl ln+1=t+w∧inM dl ln (lwN dl ln) t w z)
 | _,0,k,t,i,ft,y,hy,hd,h0,hk,ht,hf,hj=>by exfalso;omega
 | 0,j+1,k,t,i,ft,y,hy,hd,h0,hk,ht,hf,hj=>by
  have:=hw.d0;have:=hw.d1;have:=hw.h1;have:=hw.h2
  obtain rfl:i=9:=by omega
  obtain rfl:ft=8000*(t - 1):=by omega
  refine RdR.next (jwO (t':=t+1) (n':=w) (by omega) (by omega) (by omega) (fun s=> ?_) hy) fun x hx=>juX hw hN j (k+1) (t+1) x hx (by omega) (by omega) (by omega)
  have h:=jwS (by kernel_rfl) (by kernel_rfl) (jk5 (e:= .ret) (show k+1=t+w by omega) (by omega) (by omega) (by omega) s fun s=>jvZ (by omega) (by omega) (by omega) hw.d0 hw.d1 (by omega) (by rcases hw.h2 with h | h <;> omega) s)
  rw [show t+(w:Int)=k+1 by omega] at h
  rw [show t+1 - 1=t by omega]
  exact h
 | d+1,j+1,k,t,i,ft,y,hy,hd,h0,hk,ht,hf,hj=>by
  have:=hw.d0;have:=hw.d1;have:=hw.h1;have:=hw.h2
  refine RdR.next (juV (t':=t+1) (i':=i+1) (ft':=8000*t) (n':=w) (v':=1) (by omega) (by omega) (by omega) (fun s=> ?_) hy) fun x hx=>jto hw hN hN2 d j (k+1) (t+1) (i+1) (8000*t) x hx (by omega) (by omega) (by omega) (by omega) (by omega) (by omega)
  exact juW (jk5 (show k+1=t+w by omega) (by omega) (by omega) (by omega) s fun s=>juM (by omega) (by omega) hw.d0 hw.d1 (by omega) (by rcases hw.h2 with h | h <;> omega) (jjF h0 (by omega)) s)
theorem juY (hw:Wt dl w) (hN:lwN dl ln≤1000) (hN2:w+10≤lwN dl ln):∀(d j:Nat) (k:Int) (n:Nat) (y:Kst),inZ dl ln k 1 0 0 n y→k=n→n+d=w→k+j=lwN dl ln→RdR Tryz.prog 91 29 jcM (j+1) y (.exit 0) (fun z=>∃t,lwN dl ln+1=t+w∧inM dl ln (lwN dl ln) t w z)
 | 0,j,k,n,y,hy,hk,hd,hj=>by
  obtain rfl:n=w:=by omega
  exact jto hw hN hN2 9 j k 1 0 0 y hy (by omega) (by omega) (by omega) (by omega) (by omega) hj
 | d+1,0,k,n,y,hy,hk,hd,hj=>by exfalso;omega
 | d+1,j+1,k,n,y,hy,hk,hd,hj=>by
  have:=hw.d0;have:=hw.d1;have:=hw.h1;have:=hw.h2
  refine RdR.next (juV (t':=1) (i':=0) (ft':=0) (n':=n+1) (v':=0) (by omega) (by omega) (by omega) (fun s=> ?_) hy) fun x hx=>juY hw hN hN2 d j (k+1) (n+1) x hx (by omega) (by omega) (by omega)
  exact ju4 (by kernel_rfl) (by kernel_rfl) (jk5 (show k+1=1+n by omega) (by omega) (by omega) (by omega) s fun s=>juL (by omega) (by omega) hw.d0 hw.d1 (by omega) s)
theorem jo8 (hw:Wt dl w) (hN:lwN dl ln≤1000) (hN2:w+10≤lwN dl ln) (s:Asg):ToR Tryz.prog 91 29 (c2 (c1 jtk)) (je s ⟨lwK dl ln 0,drv (8000*0) 0::(gi0 dl 0 1 0 0 0).mem,60⟩) .normal (fun z=>∃t,lwN dl ln+1=t+w∧inM dl ln (lwN dl ln) t w z):=by
 have:=hw.d0;have:=hw.d1;have:=hw.h1;have:=hw.h2
 obtain ⟨j,hj⟩:∃j:Nat,((j+1:Nat):Int)=lwN dl ln:=⟨(lwN dl ln - 1).toNat,by omega⟩
 refine ToR.block (id:=0) (e:= .exit 0) (by kernel_rfl) (ToR.loop (m:=j+1+1) (by kernel_rfl) ?_) (.inl rfl)
 by_cases h:dl=0
 ·obtain rfl:w=0:=by omega
  subst h
  refine RdR.next (juU (t':=1+1) (i':=0+1) (ft':=8000*1) (n':=0) (v':=1) (by omega) (fun s=> ?_) s) fun x hx=>jto hw hN hN2 8 j (0+1) (1+1) (0+1) (8000*1) x hx (by omega) (by omega) (by omega) (by omega) (by omega) (by omega)
  exact juW (joK s (fun s=>juM (by omega) (by omega) hw.d0 hw.d1 (by omega) (.inl rfl) (jjF (by omega) (by omega)) s) (by rintro x ⟨s,rfl⟩;kernel_rfl))
 ·refine RdR.next (juU (t':=1) (i':=0) (ft':=0) (n':=0+1) (v':=0) (by omega) (fun s=> ?_) s) fun x hx=>juY hw hN hN2 (w - 1) j (0+1) (0+1) x hx (by omega) (by omega) (by omega)
  exact ju4 (by kernel_rfl) (by kernel_rfl) (joK s (fun s=>juL (by omega) (by omega) hw.d0 hw.d1 (by omega) s) (by rintro x ⟨s,rfl⟩;kernel_rfl))
end
end Go.Proofs.YtbpfipbhaagllaaGreat

/- TopNow: the law. -/
namespace Go.Proofs.YtbpfipbhaagllaaGreat
open Go.Lr
set_option maxRecDepth 100000
theorem ToR.low {P:Program} {sz N:Nat} {c:Code} {A:Kst} {e:Ex} {B:Kst→Prop} (h:ToR P sz N c A e B):ToR P sz 0 c A e B:=
 fun E a w hr Q hQ=>h E a w hr Q fun B0 hB E' a' w' hr' hx=>hQ B0 hB E' a' w' hr' ⟨fun i hi=>absurd hi (Nat.not_lt_zero i),hx.os,hx.tape,hx.output,hx.size,hx.frame,hx.src⟩
def lwF (y:Kst):Prop:=∃s j,y=je s ⟨[(4,.one (.raw (.bool true)))],[],j⟩
theorem jtp {dl ln:Int} (h:dl<0) (s:Asg):ToP Tryz.prog 91 (c1 (c2 (c2 lwZ))) (je s ⟨lw2 dl ln,[],0⟩) .ret (jA ⟨[(4,.one (.raw (.bool true)))],[],0⟩):=
 nst kj [] (Xr 3 []) (tt 3 (nn 7 [])) (ra 3 (decide (dl<0),true) []) (fun s i b hb hi=>nomatch hi) (j9 (decide_eq_true h) jd _)
theorem jtq {dl ln:Int} (a:¬dl<0) (h:dl>300000) (s:Asg):ToP Tryz.prog 91 (c1 (c2 (c2 lwZ))) (je s ⟨lw2 dl ln,[],0⟩) .ret (jA ⟨[(4,.one (.raw (.bool true)))],[],0⟩):=
 nst kj [] (Xr 6 []) (ff 3 (tt 3 (nn 4 []))) (ra 3 (decide (dl>300000),true) (ra 3 (decide (dl<0),false) [])) (fun s i b hb hi=>nomatch hi) (j9 (decide_eq_true h) (j9 (decide_eq_false a) jd _) _)
theorem jtr {dl ln:Int} (a:¬dl<0) (b:¬dl>300000) (h:ln<0) (s:Asg):ToP Tryz.prog 91 (c1 (c2 (c2 lwZ))) (je s ⟨lw2 dl ln,[],0⟩) .ret (jA ⟨[(4,.one (.raw (.bool true)))],[],0⟩):=
 nst kj [] (Xr 9 []) (ff 6 (tt 3 (nn 1 []))) (ra 3 (decide (ln<0),true) (ra 3 (decide (dl>300000),false) (ra 3 (decide (dl<0),false) []))) (fun s i b hb hi=>nomatch hi) (j9 (decide_eq_true h) (j9 (decide_eq_false b) (j9 (decide_eq_false a) jd _) _) _)
theorem jts {dl ln:Int} (a:¬dl<0) (b:¬dl>300000) (c:¬ln<0) (h:ln>30) (s:Asg):ToP Tryz.prog 91 (c1 (c2 (c2 lwZ))) (je s ⟨lw2 dl ln,[],0⟩) .ret (jA ⟨[(4,.one (.raw (.bool true)))],[],0⟩):=
 nst kj [] (Xr 10 []) (ff 9 (tt 1 [])) (ra 1 (decide (ln>30),true) (ra 3 (decide (ln<0),false) (ra 3 (decide (dl>300000),false) (ra 3 (decide (dl<0),false) [])))) (fun s i b hb hi=>nomatch hi) (j9 (decide_eq_true h) (j9 (decide_eq_false c) (j9 (decide_eq_false b) (j9 (decide_eq_false a) jd _) _) _) _)
theorem jtt {dl ln:Int} (a:¬dl<0) (b:¬dl>300000) (c:¬ln<0) (h:¬ln>30) (s:Asg):ToP Tryz.prog 91 (c1 (c2 (c2 lwZ))) (je s ⟨lw2 dl ln,[],0⟩) .normal (jA ⟨lw2 dl ln,[],0⟩):=
 nst kj [] (Xr 10 []) (ff 10 []) (ra 1 (decide (ln>30),false) (ra 3 (decide (ln<0),false) (ra 3 (decide (dl>300000),false) (ra 3 (decide (dl<0),false) [])))) (fun s i b hb hi=>nomatch hi) (j9 (decide_eq_false h) (j9 (decide_eq_false c) (j9 (decide_eq_false b) (j9 (decide_eq_false a) jd _) _) _) _)
theorem jo9 {dl ln:Int} (a:0≤dl) (b:dl≤300000) (c:0≤ln) (d:ln≤30):lwN dl ln=11+dl/8000+ln:=by
 unfold lwN
 rw [Int.tdiv_eq_ediv_of_nonneg a,Go.Lr.w1 (x:=dl/8000) (by omega),Go.Lr.w1 (x:=11+dl/8000) (by omega),Go.Lr.w1 (by omega)]
theorem jpa (s:Asg) {dl ln:Int}:ToR Tryz.prog 91 0 lwZ (je s ⟨lw2 dl ln,[],0⟩) .ret lwF:=by
 refine ToR.seq (by kernel_rfl) (ToR.of_ToP (jwE s) (by kernel_rfl)) ?_
 rintro x ⟨s,rfl⟩
 refine ToR.seq (by kernel_rfl) (ToR.of_ToP (jwF s) (by kernel_rfl)) ?_
 rintro x ⟨s,rfl⟩
 by_cases h0:dl<0
 ·exact ToR.seq_out (by kernel_rfl) (by simp) ((ToR.of_ToP (jtp h0 s) (by kernel_rfl)).mono (by rintro x ⟨s,rfl⟩;exact ⟨s,0,rfl⟩))
 by_cases h1:dl>300000
 ·exact ToR.seq_out (by kernel_rfl) (by simp) ((ToR.of_ToP (jtq h0 h1 s) (by kernel_rfl)).mono (by rintro x ⟨s,rfl⟩;exact ⟨s,0,rfl⟩))
 by_cases h2:ln<0
 ·exact ToR.seq_out (by kernel_rfl) (by simp) ((ToR.of_ToP (jtr h0 h1 h2 s) (by kernel_rfl)).mono (by rintro x ⟨s,rfl⟩;exact ⟨s,0,rfl⟩))
 by_cases h3:ln>30
 ·exact ToR.seq_out (by kernel_rfl) (by simp) ((ToR.of_ToP (jts h0 h1 h2 h3 s) (by kernel_rfl)).mono (by rintro x ⟨s,rfl⟩;exact ⟨s,0,rfl⟩))
 refine ToR.seq (by kernel_rfl) (ToR.of_ToP (jtt h0 h1 h2 h3 s) (by kernel_rfl)) ?_
 rintro x ⟨s,rfl⟩
 refine ToR.seq (by kernel_rfl) (ToR.of_ToP (jwG s) (by kernel_rfl)) ?_
 rintro x ⟨s,rfl⟩
 refine ToR.seq (by kernel_rfl) (ToR.of_ToP (jwH s) (by kernel_rfl)) ?_
 rintro x ⟨s,rfl⟩
 have e:=jo9 (dl:=dl) (ln:=ln) (by omega) (by omega) (by omega) (by omega)
 have hw:Wt dl ((dl+7999)/8000).toNat:=⟨by omega,by omega,by omega,by omega⟩
 refine ToR.seq (by kernel_rfl) (ToR.of_ToP (jwI (by omega) (by omega) s) (by kernel_rfl)) ?_
 rintro x ⟨s,rfl⟩
 refine ToR.seq (by kernel_rfl) (ToR.of_ToP (jwJ s) (by kernel_rfl)) ?_
 rintro x ⟨s,rfl⟩
 refine ToR.seq (by kernel_rfl) (ToR.seq (by kernel_rfl) (ToR.of_ToP (jtl s) (by kernel_rfl)) ?_) (B:=fun z=>∃t,lwN dl ln+1=t+((dl+7999)/8000).toNat∧inM dl ln (lwN dl ln) t ((dl+7999)/8000).toNat z) ?_
 ·rintro x ⟨s,rfl⟩
  exact ToR.low (jo8 hw (by omega) (by omega) s)
 rintro x ⟨t,ht,s,m,cs,st,hO,hm,rfl⟩
 have:=hw.h1;have:=hw.h2
 have h:=jo7 (dl:=dl) (ln:=ln) (t:=t) (st:=st) (n:=((dl+7999)/8000).toNat) hO hm (by omega) (by omega) hw.d0 hw.d1 (by omega) s
 have e2:(⟨jbj dl ln (lwN dl ln),Jr (8000*lwN dl ln) st++(je s (mZ dl (lwN dl ln) t (8000*(t - 1)) ((dl+7999)/8000).toNat m cs)).mem,60⟩:Kst)=je s (lwE dl ln (lwN dl ln) t st ((dl+7999)/8000).toNat m cs):=by kernel_rfl
 rw [e2]
 refine (ToR.of_ToP h (by kernel_rfl)).mono ?_
 rintro z ⟨s,rfl⟩
 refine ⟨s,65, ?_⟩
 rw [Go.Lr.w1 (x:=8000*lwN dl ln - dl) (by omega),Go.Lr.w1 (by omega),decide_eq_true (by omega)]
def jwQ:Asg:=⟨fun _ _=>0,fun _ _=>false,fun _ _=>0,fun _ _=>false⟩
theorem lawTopNow (dl ln:Int) (w:Go.World):Go.Calls Tryz.prog 3 ([I dl,I ln].map (LV.den E0)).toArray w fun e w'=>e = .returned (.bool true)∧Go.RowKit.Below w.heap.size w w':=by
 have h:ToR Tryz.prog 91 0 lwZ ⟨jS 0 [I dl,I ln],[],0⟩ .ret lwF:=jpa jwQ
 refine jlG (args:=[I dl,I ln]) (m:=[]) (nb:=0) (N:=0) (v:= .v (.one (.bool true))) Tryz.func3 (by kernel_rfl) (Nat.le_of_ble_eq_true (by kernel_rfl)) (Nat.le_of_ble_eq_true (by kernel_rfl)) ?_ rfl ?_ ?_ ?_ h ?_ rfl E0 w ⟨fun i b h=>by simp [getM] at h,fun i j h=>by simp [getM] at h⟩
 ·intro u hu;simp at hu;rcases hu with rfl | rfl <;> rfl
 ·exact fun i b h=>by simp [getM] at h
 ·exact fun i b h=>by simp [getM] at h
 ·exact fun i b h=>by simp [getM] at h
 ·rintro x ⟨s,j,rfl⟩
  exact ⟨fun dead=>by kernel_rfl,fun i b h=>by simp [getM] at h⟩
end Go.Proofs.YtbpfipbhaagllaaGreat
