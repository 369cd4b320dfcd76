/- Joined texts. What each part proves stands ahead of it; no condition. -/
import Derived.Test.YtnlhpaidmiogbaaGreatLrM1
import Derived.Laws.Externs
import Derived.KernelRfl

/- The local evaluator: guards, one step in whatever state, what a step hangs on. -/
namespace Go.Lr
open Go.RowKit
section
variable {P:Program} {S:FuncId→Option SumK} {E:Env} {τ:Nat→LV} {a:Act} {w:World} {g:Nat→Option Blk} {nb:Nat} {p:Nat→Bool}
theorem Kz {ops:Array Oper} {o:Oper} {gd:Option Bool} {b:Bool} {cs:List (Bool×Bool)} (hτ:∀t:Nat,a.tmps.getD t undef=(τ t).den E)
  (h:Xs ops.toList τ o gd=some (b,cs)) (hc:∀c∈cs,c.1=c.2):Region.wanted o (yielded ops a.tmps)=b:=by
 unfold Xs at h
 unfold Region.wanted
 split at h
 ·rename_i ho;rw [ho];cases h;rfl
 ·rename_i j want ho
  rw [ho]
  simp only
  split at h
  ·rename_i t ht
   have hdst:(ops[j]?).bind (·.dst)=some t:=by
    unfold Qn at ht
    have:ops.toList[j]? = ops[j]? :=by simp
    rw [this] at ht
    split at ht
    ·rename_i q hq;rw [hq];exact ht
    ·cases ht
   have hy:∀v,(τ t).den E=v→yielded ops a.tmps j=match (if t<a.tmps.size then some v else none) with | some (.bool b)=>some b | _=>none:=by
    intro v hv
    have:=hτ t
    rw [hv] at this
    unfold yielded
    rw [hdst]
    simp only [Option.bind_some]
    by_cases hlt:t<a.tmps.size
    ·rw [if_pos hlt]
     have h2:a.tmps[t]? = some v:=by
      rw [Array.getD_eq_getD_getElem?,Array.getElem?_eq_getElem hlt] at this
      rw [Array.getElem?_eq_getElem hlt]
      simpa using this
     rw [h2]
     cases v <;> rfl
    ·rw [if_neg hlt,Array.getElem?_eq_none (Nat.le_of_not_lt hlt)]
   split at h
   ·rename_i q hq
    have h1:=hy (.bool q) (by rw [hq];rfl)
    have hlt:t<a.tmps.size:=by
     have h2:=hτ t
     rw [hq] at h2
     by_cases hlt:t<a.tmps.size
     ·exact hlt
     ·rw [Array.getD_eq_getD_getElem?,Array.getElem?_eq_none (Nat.le_of_not_lt hlt)] at h2
      simp [undef,LV.den,V1.den,At.den] at h2
    rw [if_pos hlt] at h1
    rw [h1]
    split at h
    ·rename_i c cs' hcs
     cases h
     have:=xQ hcs hc
     subst this
     cases q <;> cases want <;> rfl
    ·cases h
   ·rename_i vs hq
    have h1:=hy (.tuple vs) (by rw [hq];rfl)
    have:yielded ops a.tmps j=none:=by rw [h1];by_cases hlt:t<a.tmps.size <;> simp [hlt]
    rw [this]
    cases h
    cases want <;> rfl
   ·cases h
  ·cases h
def Y6 (P:Program):Prop:=
 ∀(E:Env) (w:World) (a:Act) (op:BinOp) (t:TypeId) (x y:LV) (xo yo:Operand) (kn:Bool) (d:Dl),a.eval xo=x.den E→a.eval yo=y.den E→jot P op t x y kn=some d→
  Pur P E w (do eqGuard op t xo yo (x.den E) (y.den E);binOp op t (x.den E) (y.den E)) d
theorem J7 (hτ:∀t:Nat,a.tmps.getD t undef=(τ t).den E):∀t,a.eval (.tmp t)=(τ t).den E:=hτ
theorem jdJ (hr:Rel E g w):Post w E g nb jfu E w:= .refl rfl rfl hr
theorem jio:OkD p g nb jfu:= .plain rfl rfl rfl
theorem jcU (hB:Y6 P) (hS:AllOK P S) {z:Md} {ops:Array Oper} {i:Nat} {o:Oper} {gd pd:Option Bool} {d:Dl} {cs:List (Bool×Bool)} (hi:ops[i]? = some o)
  (hτ:∀t:Nat,a.tmps.getD t undef=(τ t).den E) (hp:∀t,(τ t).ok p=true) (hr:Rel E g w) (hg:∀i c,g i=some c→p i=true∧okL p c.cells=true)
  (hn:∀i,nb≤i→i<nb+d.nw.length→p i=false)
  (h:Km P S z ops.toList τ g nb gd pd o=some (d,cs)) (hc:∀c∈d.cs,c.1=c.2) (hc':∀c∈cs,c.1=c.2) {K:Act→World→Prop} {Q:Exit→Act→World→Prop}
  (hk:∀E' w',Post w E g nb d E' w'→K (a.put o.dst (d.val.den E')) w'):wpOp P ops Q i K a w:=by
 unfold wpOp
 simp only [hi]
 unfold Km at h
 split at h
 ·rename_i cs' hw
  split at h
  ·rename_i d' hd
   cases h
   have:=Kz (a:=a) (E:=E) (ops:=ops) hτ hw hc'
   rw [this]
   simp only [if_true]
   exact .inl (jin hS (J7 hτ) hp (fun op t x y xo yo kn d h1 h2 h3=>hB E w a op t x y xo yo kn d h1 h2 h3) hd hr hg hn hc K Q hk)
  ·cases h
 ·rename_i cs' hw
  cases h
  have:=Kz (a:=a) (E:=E) (ops:=ops) hτ hw hc'
  rw [this]
  simp only [Bool.false_eq_true,if_false]
  exact hk E w (jdJ hr)
 ·cases h
theorem Y7 {z:Md} {all:List Oper} {o:Oper} {gd pd:Option Bool} {d:Dl} {cs:List (Bool×Bool)} (hp:∀t,(τ t).ok p=true)
  (hg:∀i c,g i=some c→p i=true∧okL p c.cells=true) (h:Km P S z all τ g nb gd pd o=some (d,cs)):OkD p g nb d:=by
 unfold Km at h
 split at h
 ·split at h
  ·rename_i d' hd
   cases h
   exact jqr hp hd hg
  ·cases h
 ·cases h;exact jio
 ·cases h
theorem jip {τ':Nat→LV} {x:Operand} (h:∀t∈qU [x],τ' t=τ t):ev τ' x=ev τ x:=by
 cases x with
 | tmp t=>simp [ev,h t (by simp [qU])]
 | _=>rfl
theorem yt:∀{l:List Operand} {t:Tmp},t∈qU l↔Operand.tmp t∈l
 | [],t=>by simp [qU]
 | .tmp u::l,t=>by simp [qU,yt (l:=l)]
 | .const v::l,t=>by simp [qU,yt (l:=l)]
 | .global v::l,t=>by simp [qU,yt (l:=l)]
 | .func v::l,t=>by simp [qU,yt (l:=l)]
theorem kJ {τ':Nat→LV} {l:List Operand} (h:∀t∈qU l,τ' t=τ t) {x:Operand} (hx:x∈l):ev τ' x=ev τ x:=
 jip fun t ht=>h t (by
  rw [yt] at ht ⊢
  rw [List.mem_singleton] at ht
  rw [ht];exact hx)
theorem jbN {τ':Nat→LV} {l:List Operand} (h:∀t∈qU l,τ' t=τ t):∀{xs:List Operand},(∀x∈xs,x∈l)→evs τ' xs=evs τ xs
 | [],_=>rfl
 | x::xs,hx=>by
  simp only [evs]
  rw [kJ h (hx x (by simp)),jbN h fun y hy=>hx y (by simp [hy])]
theorem JF {τ':Nat→LV} {l:List Operand} (h:∀t∈qU l,τ' t=τ t):∀{xs:List (Nat×Operand)},(∀x∈xs,x.2∈l)→yD τ' xs=yD τ xs
 | [],_=>rfl
 | (i,x)::xs,hx=>by
  simp only [yD]
  rw [kJ h (hx (i,x) (by simp)),JF h fun y hy=>hx y (by simp [hy])]
theorem Y8 {τ':Nat→LV} {l:List Operand} (h:∀t∈qU l,τ' t=τ t) {x:Option Operand} (hx:∀y,x=some y→y∈l):jhl τ' x=jhl τ x:=by
 cases x with
 | none=>rfl
 | some y=>simp only [jhl];rw [kJ h (hx y rfl)]
theorem jf8 {g':Nat→Option Blk} {t:TypeId} {v:LV} {d:Dl} (h:QC P t v g=some d) (hg:∀i∈d.rd++keys d.wr,g' i=g i):QC P t v g'=some d:=by
 unfold QC at h ⊢
 split at h
 ·rename_i b o
  split at h
  ·rename_i k hk
   split at h
   ·rename_i x hx
    cases h
    have:=hg b (by simp)
    simp [this,hk,hx]
   ·cases h
  ·cases h
 ·cases h
theorem jdK {g':Nat→Option Blk} {t:TypeId} {v:LV} {d:Dl} (h:KG P t v g=some d) (hg:∀i∈d.rd++keys d.wr,g' i=g i):KG P t v g'=some d:=by
 unfold KG at h ⊢
 split at h
 ·rename_i b o
  split at h
  ·rename_i k hk
   split at h
   ·rename_i x cs hx
    cases h
    have:=hg b (by simp)
    simp [this,hk,hx]
   ·cases h
  ·cases h
 ·exact jf8 h hg
theorem Yd {g':Nat→Option Blk} {t:TypeId} {u v:LV} {d:Dl} (h:zb P t u v g=some d) (hg:∀i∈d.rd++keys d.wr,g' i=g i):zb P t u v g'=some d:=by
 unfold zb at h ⊢
 split at h
 ·rename_i b o
  split at h
  ·rename_i ty es l hk
   split at h
   ·rename_i vs n hvs hn
    split at h
    ·rename_i r hlen hlay
     cases h
     have:=hg b (by simp [keys])
     simp [this,hk,hlen,hlay]
    ·cases h
   ·cases h
  ·cases h
 ·cases h
theorem jdL {g':Nat→Option Blk} {t:TypeId} {u v:LV} {d:Dl} (h:KH P t u v g=some d) (hg:∀i∈d.rd++keys d.wr,g' i=g i):KH P t u v g'=some d:=by
 unfold KH at h ⊢
 split at h
 ·split at h
  ·exact Yd h hg
  have h0:=h
  obtain ⟨ty,es,l,z,hk,rfl,hs,hz,rfl⟩:=Jz h
  have:=hg _ (by simp [keys];rfl)
  unfold jb7 at h0 ⊢
  simp only [this]
  exact h0
 ·exact Yd h hg
theorem jdM {g':Nat→Option Blk} {s:Nat} {x:LV} {m b:Nat} {news:List At} {cs:List (Bool×Bool)} (h:KJ g s x=some (m,news,b,cs)) (hg:g' b=g b):KJ g' s x=some (m,news,b,cs):=by
 unfold KJ at h ⊢
 split at h
 ·split at h
  ·rename_i k hk
   split at h
   ·rename_i l hcut
    split at h
    ·rename_i hall
     cases h
     simp [hg,hk,hcut,hall]
    ·cases h
   ·cases h
  ·cases h
 ·split at h
  ·rename_i k hk
   split at h
   ·rename_i l hcut
    split at h
    ·rename_i hall
     cases h
     simp [hg,hk,hcut,hall]
    ·cases h
   ·cases h
  ·cases h
 ·split at h
  ·rename_i k hk
   cases h
   simp [hg,hk]
  ·cases h
 ·cases h
theorem jdN {g':Nat→Option Blk} {e:TypeId} {s:Nat} {x:LV} {n:Nat} {old:List At} {kill:Option Nat} (h:Jk g e s x=some (n,old,kill)) (hg:∀q,kill=some q→g' q=g q):Jk g' e s x=some (n,old,kill):=by
 have h0:=h
 unfold Jk at h
 split at h
 ·exact h0
 ·rename_i b n'
  split at h
  ·rename_i ty es l hk
   split at h
   ·cases h
    unfold Jk at h0 ⊢
    simp only [hg _ rfl] at h0 ⊢
    exact h0
   ·cases h
  ·cases h
 ·exact h0
 ·rename_i b n' c hne
  split at h
  ·rename_i ty l hk
   split at h
   ·cases h
    unfold Jk at h0 ⊢
    simp only [hg _ rfl] at h0 ⊢
    exact h0
   ·cases h
  ·cases h
 ·cases h
theorem jbO {g':Nat→Option Blk} {ts:List TypeId} {args:List LV} {d:Dl} (h:zg P nb g ts args=some d) (hg:∀i∈d.rd++keys d.wr,g' i=g i):zg P nb g' ts args=some d:=by
 unfold zg at h ⊢
 split at h
 ·split at h
  ·split at h
   ·split at h
    ·rename_i n old kill m news b cs hold hnews
     split at h
     ·rename_i q1 q2 q3
      cases h
      have e1:g' b=g b:=hg b (by simp)
      have e2:∀q,kill=some q→g' q=g q:=fun q hq=>by subst hq;exact hg q (by simp [jxj])
      simp [jdN hold e2,jdM hnews e1,q1,q2,q3]
     ·cases h
    ·cases h
   ·cases h
  ·cases h
 ·cases h
theorem jbP {g':Nat→Option Blk} {ts:List TypeId} {args:List LV} {d:Dl} (h:zh P nb g ts args=some d) (hg:∀i∈d.rd++keys d.wr,g' i=g i):zh P nb g' ts args=some d:=by
 unfold zh at h ⊢
 split at h
 ·have h0:=h
  obtain ⟨t,e,i,-,-,-,hd⟩:=zE h
  unfold Yr at h0 ⊢
  rcases hd with ⟨rfl,hd⟩ | ⟨b,o,n,c,k,rfl,hk,-,rfl⟩ | ⟨b,n,ty,es,l,rfl,hk,-,-,rfl⟩
  ·exact h0
  ·have e1:g' b=g b:=hg b (by simp)
   simp only [e1]
   exact h0
  ·have e1:g' b=g b:=hg b (by simp)
   simp only [e1]
   exact h0
 ·exact jbO h hg
theorem jf9 {g':Nat→Option Blk} {ts:List TypeId} {args:List LV} {d:Dl} (h:Ys P g ts args=some d) (hg:∀i∈d.rd++keys d.wr,g' i=g i):Ys P g' ts args=some d:=by
 have h0:=h
 unfold Ys at h
 split at h
 ·split at h
  ·rename_i e b o n b' o' m hu hx hy
   split at h
   ·split at h
    ·split at h
     ·cases h
      have e1:g' b=g b:=hg b (by simp)
      have e2:g' b'=g b':=hg b' (by simp)
      unfold Ys at h0 ⊢
      simp only [hu,hx,hy,e1,e2] at h0 ⊢
      exact h0
     ·cases h
    ·cases h
   ·cases h
  ·cases h
 ·cases h
theorem jdO {g':Nat→Option Blk} {ts:List TypeId} {args:List LV} {d:Dl} (h:JP P g ts args=some d) (hg:∀i∈d.rd++keys d.wr,g' i=g i):JP P g' ts args=some d:=by
 have h0:=h
 unfold JP at h
 split at h
 ·split at h
  ·rename_i e b o n hu hx
   split at h
   ·split at h
    ·cases h
     have e1:g' b=g b:=hg b (by simp)
     unfold JP at h0 ⊢
     simp only [hu,hx,e1] at h0 ⊢
     exact h0
    ·cases h
   ·cases h
  ·cases h
 ·cases h
theorem jal {g':Nat→Option Blk} {b:Builtin} {ts:List TypeId} {args:List LV} {d:Dl} (h:zQ P g b ts args=some d) (hg:∀i∈d.rd++keys d.wr,g' i=g i):zQ P g' b ts args=some d:=by
 unfold zQ at h ⊢
 split at h
 ·exact jf9 h hg
 ·exact jdO h hg
 ·exact h
theorem jdP {g':Nat→Option Blk} {t:TypeId} {c:Bool} {b n:Nat} {lo hi:Option LV} {d:Dl} (h:Jj P g nb t c b n lo hi=some d) (hg:∀i∈d.rd++keys d.wr,g' i=g i):Jj P g' nb t c b n lo hi=some d:=by
 have h0:=h
 have key:b∈d.rd→Jj P g' nb t c b n lo hi=some d:=fun hb=>by
  have e1:g' b=g b:=hg b (by simp [hb])
  unfold Jj at h0 ⊢
  simp only [e1]
  exact h0
 unfold Jj at h
 split at h
 ·split at h
  ·split at h
   ·split at h
    ·cases h;exact key (by simp)
    ·split at h
     ·cases h;exact key (by simp)
     ·split at h
      ·cases h;exact key (by simp)
      ·cases h
    ·cases h
   ·cases h
  ·cases h
 ·cases h
theorem jdQ {g':Nat→Option Blk} {t:TypeId} {x:LV} {lo:Option LV} {hi mx:LV} {d:Dl} (h:yS P g t x lo hi mx=some d) (hg:∀i∈d.rd++keys d.wr,g' i=g i):yS P g' t x lo hi mx=some d:=by
 have h0:=h
 unfold yS at h
 split at h
 ·rename_i e hu
  split at h
  ·rename_i hs
   unfold yS at h0 ⊢
   simp only [hu,hs] at h0 ⊢
   exact h0
  ·rename_i hs
   unfold yS at h0 ⊢
   simp only [hu,hs] at h0 ⊢
   exact h0
  ·rename_i s b n hs
   have key:b∈d.rd→yS P g' t (.v (.one (.slu b n))) lo hi mx=some d:=fun hb=>by
    have e1:g' b=g b:=hg b (by simp [hb])
    unfold yS at h0 ⊢
    simp only [hu,hs,e1] at h0 ⊢
    exact h0
   split at h
   ·split at h
    ·split at h
     ·split at h
      ·split at h <;> (cases h;exact key (by simp))
      ·cases h
     ·cases h
    ·cases h
   ·cases h
  ·cases h
 ·cases h
theorem jdR {g':Nat→Option Blk} {t:TypeId} {c:Bool} {x:LV} {lo hi mx:Option LV} {d:Dl} (h:QD P g nb t c x lo hi mx=some d) (hg:∀i∈d.rd++keys d.wr,g' i=g i):QD P g' nb t c x lo hi mx=some d:=by
 unfold QD at h ⊢
 split at h
 ·split at h
  ·exact jdQ h hg
  ·cases h
 ·split at h
  ·exact jdP h hg
  ·exact h
theorem yM {g':Nat→Option Blk}:∀{l:List Nat},(∀i∈l,g' i=g i)→jE g' l=jE g l
 | [],_=>rfl
 | b::l,h=>by
  simp only [jE]
  rw [h b (by simp),yM fun i hi=>h i (by simp [hi])]
theorem jbQ:∀(l:List (Nat×Option Blk)),keys l=l.map (·.1)
 | []=>rfl
 | (i,s)::l=>by simp [keys,jbQ l]
theorem jcV {g':Nat→Option Blk} {t:Tch} {d:Dl} (h:jg9 t g nb=some d) (hg:∀i∈d.rd++keys d.wr,g' i=g i):jg9 t g' nb=some d:=by
 have h0:=h
 unfold jg9 at h
 split at h
 ·split at h
  ·split at h
   ·split at h
    ·cases h
     have h1:jE g' t.rd=jE g t.rd:=yM fun i hi=>hg i (by simp [hi])
     have h2:jE g' t.wr=jE g t.wr:=yM fun i hi=>hg i (by simp [hi])
     unfold jg9 at h0 ⊢
     rw [h1,h2]
     exact h0
    ·cases h
   ·cases h
  ·cases h
 ·cases h
theorem jam:∀{l m:List Nat},Zz l m=true→∀a∈l,a∈m
 | [],m,_,a,ha=>by cases ha
 | b::l,m,h,a,ha=>by
  simp only [Zz] at h
  split at h
  ·rename_i hb
   rcases List.mem_cons.1 ha with rfl | ha
   ·exact memB_iff.1 hb
   ·exact jam h a ha
  ·cases h
theorem jan {g g':Nat→Option Blk}:∀{l:List Nat},(∀b∈l,g' b=g b)→Yp g' l=Yp g l
 | [],_=>rfl
 | b::l,h=>by
  simp only [Yp]
  rw [h b (by simp),jan fun b hb=>h b (by simp [hb])]
theorem Xe {g:Nat→Option Blk}:∀(n:Nat) (l seen r:List Nat),JO g n l seen=some r→∀i∈seen,i∈r
 | n,[],seen,r,h,i,hi=>by cases n <;> (simp only [JO] at h;cases h;exact hi)
 | 0,_::_,_,_,h,_,_=>by simp [JO] at h
 | n+1,b::l,seen,r,h,i,hi=>by
  simp only [JO] at h
  split at h
  ·exact Xe n l seen r h i hi
  ·split at h
   ·exact Xe n _ _ r h i (List.mem_cons_of_mem _ hi)
   ·cases h
theorem Xf {g g':Nat→Option Blk}:∀(n:Nat) (l seen r:List Nat),JO g n l seen=some r→(∀i∈r,g' i=g i)→JO g' n l seen=some r
 | n,[],seen,r,h,_=>by cases n <;> (simp only [JO] at h ⊢;exact h)
 | 0,_::_,_,_,h,_=>by simp [JO] at h
 | n+1,b::l,seen,r,h,hg=>by
  simp only [JO] at h ⊢
  split at h
  ·exact Xf n l seen r h hg
  ·split at h
   ·rename_i k hk
    have hb:b∈r:=Xe n _ _ r h b (List.mem_cons_self ..)
    rw [hg b hb,hk]
    exact Xf n _ _ r h hg
   ·cases h
theorem jiq {g':Nat→Option Blk} {s:SumK} {args:List LV} {d:Dl} (h:jc4 s args g nb=some d) (hg:∀i∈d.rd++keys d.wr,g' i=g i):jc4 s args g' nb=some d:=by
 cases s with
 | old s=>
  simp only [jc4] at h ⊢
  split at h
  ·exact jcV h hg
  ·cases h
 | peek s=>
  simp only [jc4] at h ⊢
  split at h
  ·rename_i t ht
   split at h
   ·rename_i ha
    have hrd:d.rd=t.rd++t.wr:=by
     obtain ⟨rB,wB,ans,ws,-,-,-,-,-,rfl⟩:=Ku h
     rfl
    have hpk:Yp g' (jaK args)=Yp g (jaK args):=jan fun b hb=>hg b (by rw [hrd];exact List.mem_append_left _ (jam ha b hb))
    rw [hpk,ht]
    simp only [ha]
    exact jcV h hg
   ·cases h
  ·cases h
 | gen s=>
  simp only [jc4] at h ⊢
  split at h
  ·rename_i seen hseen
   split at h
   ·rename_i ks hks
    have hrd:d.rd=seen:=by
     obtain ⟨d0,-,-,-,-,-,-,rfl⟩:=Kv h
     rfl
    have hs:∀i∈seen,g' i=g i:=fun i hi=>hg i (List.mem_append_left _ (by rw [hrd];exact hi))
    rw [Xf _ _ _ _ hseen hs]
    simp only [yM hs,hks]
    exact h
   ·cases h
  ·cases h
theorem jlF {τ':Nat→LV} {g':Nat→Option Blk} {z:Bool} {pd:Option Bool} {op:Op} {d:Dl} (h:opD P S z τ g nb pd op=some d)
  (ht:∀t∈qU op.operands.toList,τ' t=τ t) (hg:∀i∈d.rd++keys d.wr,g' i=g i):opD P S z τ' g' nb pd op=some d:=by
 cases op <;> simp only [opD,on1,on2,onL,onP,jer,reduceCtorEq] at h ⊢
 case move x=>rw [kJ ht (x:=x) (by simp [Op.operands])];exact h
 case assign x=>rw [kJ ht (x:=x) (by simp [Op.operands])];exact h
 case pick c x y=>
  unfold jaH at h ⊢
  rw [kJ ht (x:=c) (by simp [Op.operands]),kJ ht (x:=x) (by simp [Op.operands]),kJ ht (x:=y) (by simp [Op.operands])];exact h
 case alloc t=>exact h
 case box t x=>rw [kJ ht (x:=x) (by simp [Op.operands])];exact h
 case build t parts=>rw [JF ht (xs:=parts.toList) (fun x hx=>by simp only [Op.operands];exact List.mem_map_of_mem hx)];exact h
 case buildSlice t n parts=>rw [JF ht (xs:=parts.toList) (fun x hx=>by simp only [Op.operands];exact List.mem_map_of_mem hx)];exact h
 case load t x=>
  rw [kJ ht (x:=x) (by simp [Op.operands])]
  split at h
  ·exact jdK h hg
  ·cases h
 case store t x y=>
  rw [kJ ht (x:=x) (by simp [Op.operands]),kJ ht (x:=y) (by simp [Op.operands])]
  split at h
  ·split at h
   ·exact jdL h hg
   ·cases h
  ·cases h
 case nilCheck x=>rw [kJ ht (x:=x) (by simp [Op.operands])];exact h
 case binOp op t x y ty=>rw [kJ ht (x:=x) (by simp [Op.operands]),kJ ht (x:=y) (by simp [Op.operands])];exact h
 case unOp op t x=>rw [kJ ht (x:=x) (by simp [Op.operands])];exact h
 case convert t u x=>rw [kJ ht (x:=x) (by simp [Op.operands])];exact h
 case makeFunc f first caps=>rw [jbN ht (xs:=caps.toList) (fun x hx=>by simp [Op.operands];right;simpa using hx)];exact h
 case slice t x lo hi mx=>
  unfold slD at h ⊢
  rw [Y8 ht (x:=lo) (fun y hy=>by subst hy;simp [Op.operands]),Y8 ht (x:=hi) (fun y hy=>by subst hy;simp [Op.operands]),Y8 ht (x:=mx) (fun y hy=>by subst hy;simp [Op.operands])]
  simp only [on1] at h ⊢
  rw [kJ ht (x:=x) (by simp [Op.operands])]
  split at h
  ·split at h
   ·split at h
    ·split at h
     ·exact jdR h hg
     ·cases h
    ·cases h
   ·cases h
  ·cases h
 case sliceToArrayPointer t x=>rw [kJ ht (x:=x) (by simp [Op.operands])];exact h
 case fieldAddr t x i=>rw [kJ ht (x:=x) (by simp [Op.operands])];exact h
 case field t x i=>rw [kJ ht (x:=x) (by simp [Op.operands])];exact h
 case indexAddr t x i=>rw [kJ ht (x:=x) (by simp [Op.operands]),kJ ht (x:=i) (by simp [Op.operands])];exact h
 case index t x i=>rw [kJ ht (x:=x) (by simp [Op.operands]),kJ ht (x:=i) (by simp [Op.operands])];exact h
 case extract x i=>rw [kJ ht (x:=x) (by simp [Op.operands])];exact h
 case call c=>
  have hargs:evs τ' c.args.toList=evs τ c.args.toList:=jbN ht fun x hx=>by
   simp only [Op.operands,Call.operands]
   cases c.callee <;> simp <;> first | exact Or.inr (by simpa using hx) | simpa using hx
  have hcal:callee τ' c=callee τ c:=by
   unfold callee
   split
   ·rename_i f hf
    rw [hargs,kJ ht (x:=f) (by simp [Op.operands,Call.operands,hf])]
   ·rfl
  unfold jho at h ⊢
  rw [hcal]
  simp only [onL] at h ⊢
  rw [hargs]
  split at h
  ·split at h
   ·exact jbP h hg
   ·cases h
  ·split at h
   ·exact jal h hg
   ·cases h
  ·split at h
   ·rename_i f args hc
    split at h
    ·rename_i s hs
     exact jiq h hg
    ·cases h
   ·cases h
theorem jga {τ':Nat→LV} {all:List Oper} {o:Oper} {gd:Option Bool} (h:∀j w t,o.guard=some (j,w)→Qn all j=some t→τ' t=τ t):Xs all τ' o gd=Xs all τ o gd:=by
 unfold Xs
 split
 ·rfl
 ·rename_i j want ho
  split
  ·rename_i t ht
   rw [h j want t ho ht]
  ·rfl
theorem jgb {τ':Nat→LV} {g':Nat→Option Blk} {z:Md} {all:List Oper} {r:Rec} (h:Km P S z all τ g r.nb r.gd r.pd r.o=some (r.d,r.gcs))
  (ht:∀t∈r.rT all,τ' t=τ t) (hg:∀i∈r.d.rd++keys r.d.wr,g' i=g i):Km P S z all τ' g' r.nb r.gd r.pd r.o=some (r.d,r.gcs):=by
 have hops:∀t∈qU r.o.op.operands.toList,τ' t=τ t:=by
  intro t htm
  refine ht t ?_
  unfold Rec.rT
  split
  ·split
   ·exact List.mem_cons_of_mem _ htm
   ·exact htm
  ·exact htm
 have hw:Xs all τ' r.o r.gd=Xs all τ r.o r.gd:=jga fun j w t h1 h2=>ht t (by unfold Rec.rT;simp [h1,h2])
 unfold Km at h ⊢
 rw [hw]
 cases hc:Xs all τ r.o r.gd with
 | none=>rw [hc] at h;cases h
 | some q=>
  obtain ⟨b,cs⟩:=q
  rw [hc] at h
  cases b with
  | false=>exact h
  | true=>
   simp only at h ⊢
   cases hd:opD P S z.z τ g r.nb r.pd r.o.op with
   | none=>rw [hd] at h;cases h
   | some d=>
    rw [hd] at h
    cases h
    rw [jlF hd hops hg]
end
end Go.Lr

/- The local evaluator: a region that draws its order. -/
namespace Go.Lr
open Go.RowKit
structure AS where
 τ:Nat→LV
 g:Nat→Option Blk
def Rec.go (r:Rec) (s:AS):AS:=⟨updτ s.τ r.o.dst r.d.val,nwG (wrG s.g r.d.wr) r.nb r.d.nw⟩
def fin:List Rec→AS→AS
 | [],s=>s
 | r::l,s=>fin l (r.go s)
section
variable {P:Program} {S:FuncId→Option SumK} {z:Md} {all:List Oper}
def Val (P:Program) (S:FuncId→Option SumK) (z:Md) (all:List Oper) (r:Rec) (s:AS):Prop:=
 Km P S z all s.τ s.g r.nb r.gd r.pd r.o=some (r.d,r.gcs)
def jdS (P:Program) (S:FuncId→Option SumK) (z:Md) (all:List Oper):List Rec→AS→Prop
 | [],_=>True
 | r::l,s=>Val P S z all r s∧jdS P S z all l (r.go s)
theorem zI:∀{l m:List Nat},Z1 l m=false→∀i∈l,i ∉ m
 | [],m,_=>by simp
 | a::l,m,h=>by
  simp only [Z1] at h
  cases hm:Jg m a with
  | true=>rw [hm] at h;cases h
  | false=>
   rw [hm] at h
   intro i hi
   rcases List.mem_cons.1 hi with rfl | hi
   ·exact fun hh=>by rw [memB_iff.2 hh] at hm;cases hm
   ·exact zI h i hi
theorem Y9:∀(l:List Blk) (nb i:Nat),i∈news nb l↔nb≤i∧i<nb+l.length
 | [],nb,i=>by simp [news]
 | b::l,nb,i=>by
  simp only [news,List.mem_cons,Y9 l,List.length_cons]
  omega
structure Apart (all:List Oper) (x y:Rec):Prop where
 xy:∀d,x.o.dst=some d→d ∉ y.rT all
 yx:∀d,y.o.dst=some d→d ∉ x.rT all
 dd:∀d,x.o.dst=some d→y.o.dst≠some d
 bxy:∀i∈x.wB,i ∉ y.d.rd++y.wB
 byx:∀i∈y.wB,i ∉ x.d.rd++x.wB
theorem jdT {x y:Rec} (h:jlr all x y=false):Apart all x y:=by
 simp only [jlr,Bool.or_eq_false_iff] at h
 obtain ⟨⟨⟨⟨h1,h2⟩,h3⟩,h4⟩,h5⟩:=h
 refine ⟨fun d hd hm=> ?_,fun d hd hm=> ?_,fun d hd he=> ?_,zI h4,zI h5⟩
 ·rw [hd] at h1;simp only [jcH] at h1;rw [memB_iff.2 hm] at h1;cases h1
 ·rw [hd] at h2;simp only [jcH] at h2;rw [memB_iff.2 hm] at h2;cases h2
 ·rw [hd,he] at h3;simp [jqn] at h3
theorem go_τ {r:Rec} {s:AS} {t:Nat} (h:∀d,r.o.dst=some d→d≠t):(r.go s).τ t=s.τ t:=by
 unfold Rec.go updτ
 cases hd:r.o.dst with
 | none=>rfl
 | some d=>simp [Ne.symm (h d hd)]
theorem qk {g:Nat→Option Blk}:∀(l:List Blk) (nb k:Nat),(k<nb∨nb+l.length≤k)→nwG g nb l k=g k
 | [],_,_,_=>rfl
 | b::l,nb,k,h=>by
  simp only [nwG]
  simp only [List.length_cons] at h
  rw [qk l (nb+1) k (by omega),if_neg (by omega)]
theorem jjK {r:Rec} {s:AS} {i:Nat} (h:i ∉ r.wB):(r.go s).g i=s.g i:=by
 unfold Rec.wB at h
 rw [List.mem_append,Y9,jbQ] at h
 unfold Rec.go
 simp only
 rw [qk _ _ _ (by omega),qy]
 intro x hx e
 exact h (.inl (by rw [←e];exact List.mem_map_of_mem hx))
theorem Val.loc {r:Rec} {s s':AS} (h:Val P S z all r s) (ht:∀t∈r.rT all,s'.τ t=s.τ t) (hg:∀i∈r.d.rd++keys r.d.wr,s'.g i=s.g i):Val P S z all r s':=
 jgb h ht hg
theorem Apart.back {x y:Rec} (h:Apart all x y) {s:AS} (hv:Val P S z all y (x.go s)):Val P S z all y s:=by
 refine hv.loc (fun t ht=>(go_τ fun d hd e=>h.xy d hd (e ▸ ht)).symm) fun i hi=>(jjK fun hx=>h.bxy i hx ?_).symm
 rw [List.mem_append] at hi ⊢
 rcases hi with hi | hi
 ·exact .inl hi
 ·exact .inr (by unfold Rec.wB;rw [List.mem_append];exact .inl hi)
theorem Apart.fore {x y:Rec} (h:Apart all x y) {s:AS} (hv:Val P S z all x s):Val P S z all x (y.go s):=by
 refine hv.loc (fun t ht=>go_τ fun d hd e=>h.yx d hd (e ▸ ht)) fun i hi=>jjK fun hy=>h.byx i hy ?_
 rw [List.mem_append] at hi ⊢
 rcases hi with hi | hi
 ·exact .inl hi
 ·exact .inr (by unfold Rec.wB;rw [List.mem_append];exact .inl hi)
theorem J8 {g g':Nat→Option Blk}:∀(l:List (Nat×Option Blk)) (k:Nat),(k∈l.map (·.1)∨g k=g' k)→wrG g l k=wrG g' l k
 | [],k,h=>by
  rcases h with h | h
  ·simp at h
  ·exact h
 | (i,s)::l,k,h=>by
  simp only [wrG]
  refine J8 l k ?_
  simp only [List.map_cons,List.mem_cons] at h
  by_cases hk:k=i
  ·exact .inr (by simp [hk])
  ·rcases h with (h | h) | h
   ·exact absurd h hk
   ·exact .inl h
   ·exact .inr (by simp [hk,h])
theorem Xg {g g':Nat→Option Blk}:∀(l:List Blk) (nb k:Nat),((nb≤k∧k<nb+l.length)∨g k=g' k)→nwG g nb l k=nwG g' nb l k
 | [],nb,k,h=>by
  rcases h with h | h
  ·simp at h;omega
  ·exact h
 | b::l,nb,k,h=>by
  simp only [nwG]
  refine Xg l (nb+1) k ?_
  simp only [List.length_cons] at h
  by_cases hk:k=nb
  ·exact .inr (by simp [hk])
  ·rcases h with h | h
   ·exact .inl (by omega)
   ·exact .inr (by simp [hk,h])
theorem jjL {r:Rec} {s s':AS} {i:Nat} (h:i∈r.wB):(r.go s).g i=(r.go s').g i:=by
 unfold Rec.wB at h
 rw [List.mem_append,Y9,jbQ] at h
 unfold Rec.go
 simp only
 rcases h with h | h
 ·exact Xg _ _ _ (.inr (J8 _ _ (.inl h)))
 ·exact Xg _ _ _ (.inl h)
theorem Apart.comm {x y:Rec} (h:Apart all x y) (s:AS):x.go (y.go s)=y.go (x.go s):=by
 have hτ:(x.go (y.go s)).τ=(y.go (x.go s)).τ:=by
  funext t
  unfold Rec.go updτ
  cases hx:x.o.dst with
  | none=>cases hy:y.o.dst <;> rfl
  | some d=>
   cases hy:y.o.dst with
   | none=>rfl
   | some e=>
    have hne:d≠e:=fun he=>h.dd d hx (by rw [hy,he])
    simp only
    by_cases h1:t=d
    ·by_cases h2:t=e
     ·exact absurd (h1.symm.trans h2) hne
     ·simp [h1,hne]
    ·by_cases h2:t=e
     ·simp [h2,Ne.symm hne]
     ·simp [h1,h2]
 have hg:(x.go (y.go s)).g=(y.go (x.go s)).g:=by
  funext i
  by_cases hx:i∈x.wB
  ·have hy:i ∉ y.wB:=fun hy=>h.byx i hy (by rw [List.mem_append];exact .inr hx)
   rw [jjK hy,jjL (s':=s) hx]
  ·by_cases hy:i∈y.wB
   ·rw [jjK hx,jjL (s':=x.go s) hy]
   ·rw [jjK hx,jjK hy,jjK hy,jjK hx]
 cases h1:x.go (y.go s)
 cases h2:y.go (x.go s)
 rw [h1,h2] at hτ hg
 simp only at hτ hg
 rw [hτ,hg]
theorem Xh {r:Rec} {B:List Rec}:∀{A:List Rec} {s:AS},jdS P S z all (A++r::B) s→(∀x∈A,Apart all x r)→
  Val P S z all r s∧jdS P S z all (A++B) (r.go s)∧fin (A++r::B) s=fin (A++B) (r.go s)
 | [],s,h,_=>⟨h.1,h.2,rfl⟩
 | x::A,s,h,ha=>by
  obtain ⟨h1,h2⟩:=h
  obtain ⟨g1,g2,g3⟩:=Xh h2 fun y hy=>ha y (by simp [hy])
  have hx:=ha x (by simp)
  refine ⟨hx.back g1,⟨hx.fore h1, ?_⟩, ?_⟩
  ·show jdS P S z all (A++B) (x.go (r.go s))
   rw [hx.comm s]
   exact g2
  ·show fin (A++r::B) (x.go s)=fin (A++B) (x.go (r.go s))
   rw [g3,hx.comm s]
end
end Go.Lr

/- The local evaluator: a region that draws its order, whatever the order. -/
namespace Go.Lr
open Go.RowKit
structure StOK (s:St):Prop where
 okT:∀t,(getT s.tm t).ok (below s.nb)=true
 okM:∀i b,getM s.mem i=some b→i<s.nb∧okL (below s.nb) b.cells=true
 uq:uniq s.mem
theorem StOK.okM' {s:St} (h:StOK s):∀i c,getM s.mem i=some c→below s.nb i=true∧okL (below s.nb) c.cells=true:=
 fun i c hc=>⟨by have:=(h.okM i c hc).1;simpa [below] using this,(h.okM i c hc).2⟩
theorem StOK.free {s:St} (h:StOK s) {i:Nat} (hi:s.nb≤i):getM s.mem i=none:=by
 cases hc:getM s.mem i with
 | none=>rfl
 | some b=>have:=(h.okM i b hc).1;omega
theorem StOK.get {s:St} (h:StOK s) {d:Dl} (hd:OkD (below s.nb) (getM s.mem) s.nb d):getM (xh (xg s.mem d.wr) s.nb d.nw)=nwG (wrG (getM s.mem) d.wr) s.nb d.nw:=by
 funext k
 rw [JD]
 congr 1
 funext j
 exact xR d.wr s.mem h.uq hd.live hd.nd j
theorem StOK.app {s s1:St} (h:StOK s) {d:Dl} {dst:Option Tmp} (hd:OkD (below s.nb) (getM s.mem) s.nb d) (h1:s1.nb=s.nb+d.nw.length) (h2:s1.mem=xh (xg s.mem d.wr) s.nb d.nw)
  (h3:getT s1.tm=updτ (getT s.tm) dst d.val):StOK s1:=by
 have hmono:∀i,below s.nb i=true→below s1.nb i=true:=fun i hi=>by simp only [below,decide_eq_true_eq] at hi ⊢;omega
 have hpn:∀i,pn (below s.nb) s.nb d.nw.length i=true→below s1.nb i=true:=fun i hi=>by rw [h1];exact Qu hi
 refine ⟨fun t=> ?_,fun i b hb=> ?_, ?_⟩
 ·rw [h3]
  unfold updτ
  cases dst with
  | none=>exact LV.ok_mono hmono (h.okT t)
  | some e=>
   by_cases ht:t=e
   ·simp only [ht,if_true];exact LV.ok_mono hpn hd.val
   ·simp only [ht,if_false];exact LV.ok_mono hmono (h.okT t)
 ·rw [h2,h.get hd] at hb
  rcases Xd _ _ _ _ hb with hb | ⟨g1,g2,g3⟩
  ·rcases Ky _ _ _ hb with hb | ⟨x,hx,e1,e2⟩
   ·exact ⟨by have:=(h.okM i b hb).1;omega,jn hmono (h.okM i b hb).2⟩
   ·obtain ⟨c,hc⟩:=Option.isSome_iff_exists.1 (hd.live x hx)
    rw [e1] at hc
    exact ⟨by have:=(h.okM i c hc).1;omega,jn hpn (hd.wr x hx b e2)⟩
  ·exact ⟨by omega,jn hpn (okBs_iff.1 hd.nw b g3)⟩
 ·rw [h2]
  refine JE _ _ _ (JC _ _ h.uq) fun i hi=> ?_
  rw [xR d.wr s.mem h.uq hd.live hd.nd i,qy]
  ·exact h.free hi
  ·intro x hx e
   have:=hd.live x hx
   rw [e,h.free hi] at this
   cases this
section
variable {P:Program} {S:FuncId→Option SumK} {z:Md} {all:List Oper}
def St.as (s:St):AS:=⟨getT s.tm,getM s.mem⟩
def XZ:Nat→List Rec→Nat→Prop
 | n,[],m=>n≤m
 | n,r::l,m=>n≤r.nb∧XZ (r.nb+r.d.nw.length) l m
theorem KN:∀{l:List Oper} {s:St} {acc:List Rec} {s':St} {acc':List Rec},zp P S z all l s acc=some (s',acc')→s.sz≤60000→StOK s→
  ∃recs:List Rec,acc'=recs.reverse++acc∧recs.map (·.o)=l∧jdS P S z all recs s.as∧fin recs s.as=s'.as∧XZ s.nb recs s'.nb∧
   (∀r∈recs,∀d,r.o.dst=some d→d<s.sz)∧s'.sz=s.sz∧StOK s'∧(Good s'→Good s∧∀r∈recs,(∀c∈r.d.cs,c.1=c.2)∧(∀c∈r.gcs,c.1=c.2))
 | [],s,acc,s',acc',h,_,hs=>by
  simp only [zp] at h
  cases h
  exact ⟨[],by simp,rfl,trivial,rfl,Nat.le_refl _,by simp,rfl,hs,fun hg=>⟨hg,by simp⟩⟩
 | o::l,s,acc,s',acc',h,hsz,hs=>by
  simp only [zp] at h
  generalize jvy z o s.dec=q at h
  obtain ⟨gd,pd,dec⟩:=q
  simp only at h
  split at h
  ·rename_i d cs hd
   obtain ⟨s1,h1,h2,h3,h4,h5,h6,h7,_⟩:=jak (a:={ tmps:=Array.replicate s.sz undef,defers:=[] }) (by simp) hsz h
   have hok:=Y7 (fun t=>hs.okT t) hs.okM' hd
   have hs1:StOK s1:=hs.app hok h5 h6 h7.1
   have has:s1.as=(Rec.mk o gd pd s.nb cs d).go s.as:=by
    unfold St.as Rec.go
    simp only [h6,h7.1,hs.get hok]
   obtain ⟨recs,e1,e2,e3,e4,e5,e6,e7,e8,e9⟩:=KN h1 (by rw [h4];exact hsz) hs1
   refine ⟨⟨o,gd,pd,s.nb,cs,d⟩::recs,by rw [e1];simp,by simp [e2],⟨hd,by rw [←has];exact e3⟩,by rw [←e4,has];rfl,⟨Nat.le_refl _,by rw [←h5];exact e5⟩, ?_,e7.trans h4,e8,fun hg=> ?_⟩
   ·intro r hr d' hd'
    rcases List.mem_cons.1 hr with rfl | hr
    ·exact h7.2 d' hd'
    ·have:=e6 r hr d' hd';rw [h4] at this;exact this
   ·obtain ⟨g1,g2⟩:=e9 hg
    obtain ⟨c1,c2,c3⟩:=h2 g1
    refine ⟨c3,fun r hr=> ?_⟩
    rcases List.mem_cons.1 hr with rfl | hr
    ·exact ⟨c1,c2⟩
    ·exact g2 r hr
  ·cases h
theorem jfA:∀(l acc:List Rec),jqo l acc=l.reverse++acc
 | [],_=>rfl
 | r::l,acc=>by simp [jqo,jfA l]
theorem Ju {m:List Nat}:∀{l:List Edge} {x:Nat},(xM m l).testBit x=true→∃e∈l,Region.binds .any e=true∧(e.on=x∨(m.getD e.on 0).testBit x=true)
 | [],x,h=>by simp [xM] at h
 | e::l,x,h=>by
  simp only [xM] at h
  split at h
  ·rename_i hb
   simp only [Nat.testBit_or,Bool.or_eq_true,Nat.one_shiftLeft,Nat.testBit_two_pow,decide_eq_true_eq] at h
   rcases h with (h | h) | h
   ·exact ⟨e,by simp,hb,.inl h⟩
   ·exact ⟨e,by simp,hb,.inr h⟩
   ·obtain ⟨e',h1,h2,h3⟩:=Ju h
    exact ⟨e',by simp [h1],h2,h3⟩
  ·obtain ⟨e',h1,h2,h3⟩:=Ju h
   exact ⟨e',by simp [h1],h2,h3⟩
theorem QV:∀(l:List Oper) (acc:List Nat),∃m,q9 l acc=acc++m∧m.length=l.length
 | [],acc=>⟨[],by simp [q9],rfl⟩
 | o::l,acc=>by
  obtain ⟨m,h1,h2⟩:=QV l (acc++[xM acc o.after.toList])
  exact ⟨xM acc o.after.toList::m,by simp [q9,h1],by simp [h2]⟩
theorem X0:∀(l:List Oper) (acc:List Nat) (j:Nat) (o:Oper),l[j]? = some o→(q9 l acc).getD (acc.length+j) 0=xM ((q9 l acc).take (acc.length+j)) o.after.toList
 | [],acc,j,o,h=>by simp at h
 | o'::l,acc,0,o,h=>by
  simp only [List.getElem?_cons_zero,Option.some.injEq] at h
  subst h
  obtain ⟨m,h1,_⟩:=QV l (acc++[xM acc o'.after.toList])
  simp only [q9,h1]
  simp
 | o'::l,acc,j+1,o,h=>by
  have:=X0 l (acc++[xM acc o'.after.toList]) j o (by simpa using h)
  simp only [q9]
  simp only [List.length_append,List.length_cons,List.length_nil] at this
  rw [show acc.length+(j+1)=acc.length+(0+1)+j by omega]
  exact this
theorem yf:∀{l:List Edge} {j:Nat},zt j l=true→∀e∈l,Region.binds .any e=true→e.on<j
 | [],j,_=>by simp
 | e::l,j,h=>by
  simp only [zt] at h
  intro e' he' hb
  rcases List.mem_cons.1 he' with rfl | he'
  ·rw [hb] at h
   simp only [Ko] at h
   split at h
   ·rename_i hh;simpa using hh
   ·cases h
  ·split at h
   ·split at h
    ·exact yf h e' he' hb
    ·cases h
   ·exact yf h e' he' hb
theorem zw:∀{l:List Oper} {j:Nat},Kn j l=true→∀k o,l[k]? = some o→∀e∈o.after.toList,Region.binds .any e=true→e.on<j+k
 | [],j,_,k,o,h=>by simp at h
 | o'::l,j,h,k,o,hk=>by
  simp only [Kn] at h
  split at h
  ·rename_i hh
   cases k with
   | zero=>
    simp only [List.getElem?_cons_zero,Option.some.injEq] at hk
    subst hk
    exact yf hh
   | succ k=>
    intro e he hb
    have:=zw h k o (by simpa using hk) e he hb
    omega
  ·cases h
theorem jbn {ops:List Oper} (hd:Kn 0 ops=true) (L:Nat→Prop) (hL:∀k o,ops[k]? = some o→L k→∀e∈o.after.toList,Region.binds .any e=true→L e.on):
  ∀(j:Nat) (o:Oper),ops[j]? = some o→(∀e∈o.after.toList,Region.binds .any e=true→L e.on)→∀x,((q9 ops []).getD j 0).testBit x=true→L x:=by
 intro j
 induction j using Nat.strongRecOn with
 | _ j ih=>
  intro o ho hready x hx
  have hm:=X0 ops [] j o ho
  simp only [List.length_nil,Nat.zero_add] at hm
  rw [hm] at hx
  obtain ⟨e,he,hb,hor⟩:=Ju hx
  have hlt:e.on<j:=by have:=zw hd j o ho e he hb;omega
  rcases hor with h | h
  ·rw [←h];exact hready e he hb
  ·have hget:((q9 ops []).take j).getD e.on 0=(q9 ops []).getD e.on 0:=by
    simp [List.getD,List.getElem?_take_of_lt hlt]
   rw [hget] at h
   have hjl:j<ops.length:=(List.getElem?_eq_some_iff.1 ho).1
   have he':ops[e.on]? = some ops[e.on]:=List.getElem?_eq_getElem (by omega)
   exact ih e.on hlt _ he' (hL e.on _ he' (hready e he hb)) x h
theorem QW {mask:Nat} {y:Rec}:∀{l:List Rec} {i:Nat},XV all mask y i l=true→∀k x,l[k]? = some x→jlr all x y=true→mask.testBit (i+k)=true
 | [],i,_,k,x,h=>by simp at h
 | x'::l,i,h,k,x,hk=>by
  intro hc
  simp only [XV] at h
  cases k with
  | zero=>
   simp only [List.getElem?_cons_zero,Option.some.injEq] at hk
   subst hk
   split at h
   ·rename_i hh;simpa using hh
   ·rw [hc] at h;cases h
  | succ k=>
   have hrest:XV all mask y (i+1) l=true:=by
    split at h
    ·exact h
    ·split at h
     ·cases h
     ·exact h
   have:=QW hrest k x (by simpa using hk) hc
   rw [show i+(k+1)=i+1+k by omega]
   exact this
theorem KO {masks:List Nat}:∀{l:List Rec} {j:Nat} {done:List Rec},YO all masks j done l=true→done.length=j→
  ∀k y,l[k]? = some y→∀i x,i<j+k→(done++l)[i]? = some x→jlr all x y=true→(masks.getD (j+k) 0).testBit i=true
 | [],j,done,_,_,k,y,h=>by simp at h
 | y'::l,j,done,h,hj,k,y,hk=>by
  intro i x hi hx hc
  simp only [YO] at h
  split at h
  ·rename_i hh
   cases k with
   | zero=>
    simp only [List.getElem?_cons_zero,Option.some.injEq] at hk
    subst hk
    rw [List.getElem?_append_left (by omega)] at hx
    have:=QW hh i x hx hc
    simpa using this
   | succ k=>
    have:=KO h (by simp [hj]) k y (by simpa using hk) i x (by omega) (by simpa using hx) hc
    rw [show j+(k+1)=j+1+k by omega]
    exact this
  ·cases h
end
end Go.Lr

/- The local evaluator: a region that draws its order, against the model. -/
namespace Go.Lr
open Go.RowKit
structure RA (sz:Nat) (E:Env) (p:Nat→Bool) (s:AS) (a:Act) (w:World):Prop where
 size:a.tmps.size=sz
 tm:∀t:Nat,a.tmps.getD t undef=(s.τ t).den E
 defers:a.defers=[]
 okT:∀t,(s.τ t).ok p=true
 rel:Rel E s.g w
 okM:∀i c,s.g i=some c→p i=true∧okL p c.cells=true
structure ExtG (N:Nat) (w:World) (E:Env) (g:Nat→Option Blk) (w':World) (E':Env) (g':Nat→Option Blk):Prop where
 agree:∀i,i<N→E' i=E i
 os:w'.os=w.os
 tape:w'.tape=w.tape
 output:w'.output=w.output
 size:w.heap.size≤w'.heap.size
 frame:∀b,b<w.heap.size→(∀i,(g i).isSome→(E i).1≠b)→w'.heap[b]? = w.heap[b]?
 src:∀i,(g' i).isSome→w.heap.size≤(E' i).1∨∃j,(g j).isSome∧(E' i).1=(E j).1
theorem ExtG.refl (N:Nat) (w:World) (E:Env) (g:Nat→Option Blk):ExtG N w E g w E g:=
 ⟨fun _ _=>rfl,rfl,rfl,rfl,Nat.le_refl _,fun _ _ _=>rfl,fun i hi=> .inr ⟨i,hi,rfl⟩⟩
theorem ExtG.trans {N:Nat} {w w1 w2:World} {E E1 E2:Env} {g g1 g2:Nat→Option Blk} (h:ExtG N w E g w1 E1 g1) (k:ExtG N w1 E1 g1 w2 E2 g2):ExtG N w E g w2 E2 g2:=by
 refine ⟨fun i hi=>(k.agree i hi).trans (h.agree i hi),k.os.trans h.os,k.tape.trans h.tape,k.output.trans h.output,Nat.le_trans h.size k.size,fun b hb hn=> ?_,fun i hi=> ?_⟩
 ·rw [←h.frame b hb hn]
  refine k.frame b (Nat.lt_of_lt_of_le hb h.size) fun i hi he=> ?_
  rcases h.src i hi with h1 | ⟨j,hj,h1⟩
  ·omega
  ·exact hn j hj (h1.symm.trans he)
 ·rcases k.src i hi with h1 | ⟨j,hj,h1⟩
  ·exact .inl (Nat.le_trans h.size h1)
  ·rcases h.src j hj with h2 | ⟨q,hq,h2⟩
   ·exact .inl (by omega)
   ·exact .inr ⟨q,hq,h1.trans h2⟩
section
variable {P:Program} {S:FuncId→Option SumK} {z:Md} {ops:Array Oper}
theorem jlu (hB:Y6 P) (hS:AllOK P S) {N sz i:Nat} {E:Env} {p:Nat→Bool} {s:AS} {a:Act} {w:World} {r:Rec} (hi:ops[i]? = some r.o) (hra:RA sz E p s a w) (hv:Val P S z ops.toList r s)
  (hN:N≤r.nb) (hfree:∀i,r.nb≤i→i<r.nb+r.d.nw.length→p i=false) (hdst:∀d,r.o.dst=some d→d<sz) (hc:∀c∈r.d.cs,c.1=c.2) (hc':∀c∈r.gcs,c.1=c.2)
  {K:Act→World→Prop} {Q:Exit→Act→World→Prop}
  (hk:∀E' a' w',RA sz E' (pn p r.nb r.d.nw.length) (r.go s) a' w'→ExtG N w E s.g w' E' (r.go s).g→K a' w'):wpOp P ops Q i K a w:=by
 have hok:OkD p s.g r.nb r.d:=Y7 hra.okT hra.okM hv
 refine jcU hB hS hi hra.tm hra.okT hra.rel hra.okM hfree hv hc hc' fun E' w' hp=> ?_
 have hag:∀i,p i=true→E' i=E i:=by
  intro j hj
  refine hp.agree j ?_
  by_cases h:r.nb≤j∧j<r.nb+r.d.nw.length
  ·rw [hfree j h.1 h.2] at hj;cases hj
  ·omega
 refine hk E' _ w' ⟨?_,fun t=> ?_, ?_,fun t=> ?_,hp.rel,fun j c hj=> ?_⟩ ⟨fun j hj=>hp.agree j (.inl (by omega)),hp.os,hp.tape,hp.output,hp.size,hp.frame,fun j hj=> ?_⟩
 ·cases hd:r.o.dst <;> simp [Act.put,hra.size]
 ·unfold Rec.go updτ
  cases hd:r.o.dst with
  | none=>
   simp only [Act.put]
   rw [hra.tm t,LV.den_congr hag (hra.okT t)]
  | some d=>
   simp only [Act.put]
   rw [J6 a.tmps d t _ (by rw [hra.size];exact hdst d hd)]
   by_cases ht:t=d
   ·simp [ht]
   ·rw [if_neg ht,if_neg ht,hra.tm t,LV.den_congr hag (hra.okT t)]
 ·cases hd:r.o.dst <;> exact hra.defers
 ·unfold Rec.go updτ
  cases hd:r.o.dst with
  | none=>exact LV.ok_mono (fun _ h=>yY h) (hra.okT t)
  | some d=>
   by_cases ht:t=d
   ·simp only [ht,if_true];exact hok.val
   ·simp only [ht,if_false];exact LV.ok_mono (fun _ h=>yY h) (hra.okT t)
 ·have hj':nwG (wrG s.g r.d.wr) r.nb r.d.nw j=some c:=hj
  rcases Xd _ _ _ _ hj' with h | ⟨g1,g2,g3⟩
  ·rcases Ky _ _ _ h with h | ⟨x,hx,e1,e2⟩
   ·exact ⟨yY (hra.okM j c h).1,jn (fun _ h=>yY h) (hra.okM j c h).2⟩
   ·obtain ⟨c',hc''⟩:=Option.isSome_iff_exists.1 (hok.live x hx)
    rw [e1] at hc''
    exact ⟨yY (hra.okM j c' hc'').1,hok.wr x hx c e2⟩
  ·exact ⟨by simp [pn,g1,g2],okBs_iff.1 hok.nw c g3⟩
 ·obtain ⟨c,hjc⟩:=Option.isSome_iff_exists.1 hj
  have hj':nwG (wrG s.g r.d.wr) r.nb r.d.nw j=some c:=hjc
  rcases Xd _ _ _ _ hj' with h | ⟨g1,g2,_⟩
  ·have hlive:(s.g j).isSome:=by
    rcases Ky _ _ _ h with h | ⟨x,hx,e1,_⟩
    ·simp [h]
    ·rw [←e1];exact hok.live x hx
   obtain ⟨c',hc''⟩:=Option.isSome_iff_exists.1 hlive
   exact .inr ⟨j,hlive,by rw [hag j (hra.okM j c' hc'').1]⟩
  ·exact hp.fresh j g1 g2
structure Todo (recs:List Rec) (listed:Array Bool) (rem:List (Nat×Rec)):Prop where
 mem:∀(i:Nat) (r:Rec),(i,r)∈rem↔recs[i]? = some r∧listed.getD i true=false
 sorted:rem.Pairwise fun x y=>x.1<y.1
theorem zx:∀{l:List Rec} {n m:Nat},XZ n l m→n≤m
 | [],n,m,h=>h
 | r::l,n,m,h=>by have:=zx h.2;have:=h.1;omega
theorem zy:∀{l:List Rec} {n m:Nat},XZ n l m→∀(i:Nat) (r:Rec),l[i]? = some r→n≤r.nb∧r.nb+r.d.nw.length≤m
 | [],n,m,_,i,r,h=>by simp at h
 | r'::l,n,m,h,i,r,hi=>by
  cases i with
  | zero=>
   simp only [List.getElem?_cons_zero,Option.some.injEq] at hi
   subst hi
   exact ⟨h.1,zx h.2⟩
  | succ i=>
   obtain ⟨h1,h2⟩:=zy h.2 i r (by simpa using hi)
   exact ⟨by have:=h.1;omega,h2⟩
theorem zz:∀{l:List Rec} {n m:Nat},XZ n l m→∀(i j:Nat) (x y:Rec),i<j→l[i]? = some x→l[j]? = some y→x.nb+x.d.nw.length≤y.nb
 | [],n,m,_,i,j,x,y,_=>fun h=>by simp at h
 | r'::l,n,m,h,i,j,x,y,hij=>by
  intro hi hj
  cases j with
  | zero=>omega
  | succ j=>
   cases i with
   | zero=>
    simp only [List.getElem?_cons_zero,Option.some.injEq] at hi
    subst hi
    exact (zy h.2 j y (by simpa using hj)).1
   | succ i=>exact zz h.2 i j x y (by omega) (by simpa using hi) (by simpa using hj)
theorem jh8 {rem:List (Nat×Rec)} {i:Nat} {r:Rec} (h:(i,r)∈rem):∃A B,rem=A++(i,r)::B:=List.append_of_mem h
theorem jfB (hB:Y6 P) (hS:AllOK P S) {N sz M:Nat} {recs:List Rec} (hrec:recs.map (·.o)=ops.toList) (hdown:Kn 0 ops.toList=true)
  (hconf:∀(i j:Nat) (x y:Rec),i<j→recs[i]? = some x→recs[j]? = some y→jlr ops.toList x y=true→((q9 ops.toList []).getD j 0).testBit i=true)
  (hrng:XZ N recs M) (hdst:∀r∈recs,∀d,r.o.dst=some d→d<sz) (hcs:∀r∈recs,(∀c∈r.d.cs,c.1=c.2)∧(∀c∈r.gcs,c.1=c.2)) {Q:Exit→Act→World→Prop}:
  ∀(fuel:Nat) (rem:List (Nat×Rec)) (listed:Array Bool) (s:AS) (E:Env) (p:Nat→Bool) (a:Act) (w:World),rem.length=fuel→listed.size=ops.size→Todo recs listed rem→
   (∀k o,ops[k]? = some o→listed.getD k true=true→∀e∈o.after.toList,Region.binds .any e=true→listed.getD e.on false=true)→
   jdS P S z ops.toList (rem.map (·.2)) s→RA sz E p s a w→(∀i,p i=true→i<M)→(∀i,p i=true→∀x∈rem,¬(x.2.nb≤i∧i<x.2.nb+x.2.d.nw.length))→
   (∀E' p' a' w',RA sz E' p' (fin (rem.map (·.2)) s) a' w'→(∀i,p' i=true→i<M)→ExtG N w E s.g w' E' (fin (rem.map (·.2)) s).g→Q .normal a' w')→
   wpAny P .any ops Q fuel listed a w:=by
 have hopsrec:∀(i:Nat) (r:Rec),recs[i]? = some r→ops[i]? = some r.o:=by
  intro i r h
  have:(recs.map (·.o))[i]? = some r.o:=by simp [h]
  rw [hrec] at this
  simpa using this
 have hlen:recs.length=ops.size:=by have:=congrArg List.length hrec;simpa using this
 have hready0:∀(rem:List (Nat×Rec)) (listed:Array Bool),listed.size=ops.size→Todo recs listed rem→Region.ready .any ops listed=[]→rem=[]:=by
  intro rem listed hls ht hr
  cases rem with
  | nil=>rfl
  | cons x rem=>
   exfalso
   obtain ⟨i,r⟩:=x
   obtain ⟨h1,h2⟩:=(ht.mem i r).1 (by simp)
   have hops:=hopsrec i r h1
   have hi:i<ops.size:=(Array.getElem?_eq_some_iff.1 hops).1
   have hmem:i∈Region.ready .any ops listed:=by
    unfold Region.ready
    simp only [List.mem_filter,List.mem_range,hi,true_and,h2,Bool.not_false,hops,Option.map_some,Option.getD_some,Bool.true_and]
    rw [Array.all_eq_true]
    intro k hk
    by_cases hb:Region.binds .any r.o.after[k]=true
    ·have hlt:=zw hdown i r.o (by simpa using hops) r.o.after[k] (by simp) hb
     simp only [Nat.zero_add] at hlt
     have hlst:listed.getD r.o.after[k].on false=true:=by
      have hsz:r.o.after[k].on<listed.size:=by omega
      cases hh:listed.getD r.o.after[k].on true with
      | true=>
       have e1:listed.getD r.o.after[k].on false=listed.getD r.o.after[k].on true:=by simp [hsz]
       rw [e1];exact hh
      | false=>
       exfalso
       have hql:r.o.after[k].on<recs.length:=by omega
       obtain ⟨q,hq⟩:∃q,recs[r.o.after[k].on]? = some q:=⟨_,List.getElem?_eq_getElem hql⟩
       have:=(ht.mem _ q).2 ⟨hq,hh⟩
       rcases List.mem_cons.1 this with he | he
       ·injection he with e1 _;omega
       ·have:=List.rel_of_pairwise_cons ht.sorted he
        simp only at this
        omega
     simp [hlst]
    ·simp [hb]
   rw [hr] at hmem
   cases hmem
 intro fuel
 induction fuel with
 | zero=>
  intro rem listed s E p a w hf hls ht hcl hch hra hpM hpf hQ
  have hrem:rem=[]:=List.length_eq_zero_iff.1 hf
  subst hrem
  refine ⟨?_,hQ E p a w hra hpM (.refl _ _ _ _)⟩
  cases hr:Region.ready .any ops listed with
  | nil=>rfl
  | cons i l=>
   exfalso
   have hi:i∈Region.ready .any ops listed:=by rw [hr];simp
   unfold Region.ready at hi
   simp only [List.mem_filter,List.mem_range,Bool.and_eq_true,Bool.not_eq_true'] at hi
   have hql:i<recs.length:=by omega
   obtain ⟨q,hq⟩:∃q,recs[i]? = some q:=⟨_,List.getElem?_eq_getElem hql⟩
   have:=(ht.mem i q).2 ⟨hq,hi.2.1⟩
   cases this
 | succ fuel ih=>
  intro rem listed s E p a w hf hls ht hcl hch hra hpM hpf hQ
  refine ⟨fun hr=> ?_,fun i hi=> ?_⟩
  ·have:=hready0 rem listed hls ht hr
   rw [this] at hf
   simp at hf
  ·unfold Region.ready at hi
   simp only [List.mem_filter,List.mem_range,Bool.and_eq_true,Bool.not_eq_true'] at hi
   obtain ⟨hilt,hnl,haft⟩:=hi
   have hql:i<recs.length:=by omega
   obtain ⟨r,hr⟩:∃q,recs[i]? = some q:=⟨_,List.getElem?_eq_getElem hql⟩
   have hops:=hopsrec i r hr
   have hin:(i,r)∈rem:=(ht.mem i r).2 ⟨hr,hnl⟩
   have hedges:∀e∈r.o.after.toList,Region.binds .any e=true→listed.getD e.on false=true:=by
    intro e he hb
    rw [hops] at haft
    simp only [Option.map_some,Option.getD_some] at haft
    rw [Array.all_eq_true'] at haft
    have:=haft e (by simpa using he)
    simpa [hb] using this
   obtain ⟨A,B,rfl⟩:=jh8 hin
   have hsorted:=ht.sorted
   rw [List.pairwise_append] at hsorted
   obtain ⟨_,hsB,hAB⟩:=hsorted
   have hapart:∀x∈A.map (·.2),Apart ops.toList x r:=by
    intro x hx
    obtain ⟨⟨k,x'⟩,hk,rfl⟩:=List.mem_map.1 hx
    obtain ⟨g1,g2⟩:=(ht.mem k x').1 (by simp [hk])
    have hki:k<i:=hAB (k,x') hk (i,r) (by simp)
    refine jdT ?_
    cases hc:jlr ops.toList x' r with
    | false=>rfl
    | true=>
     exfalso
     have hbit:=hconf k i x' r hki g1 hr hc
     have:=jbn hdown (fun q=>listed.getD q true=true) (fun q o hq hl e he hb=>by
      have hx:=hcl q o (by simpa using hq) hl e he hb
      have hsz:e.on<listed.size:=by
       by_cases hh:e.on<listed.size
       ·exact hh
       ·simp [Array.getD,hh] at hx
      simpa [hsz] using hx) i r.o (by simpa using hops) (fun e he hb=>by
      have hx:=hedges e he hb
      have hsz:e.on<listed.size:=by
       by_cases hh:e.on<listed.size
       ·exact hh
       ·simp [Array.getD,hh] at hx
      simpa [hsz] using hx) k hbit
     rw [g2] at this
     cases this
   rw [List.map_append,List.map_cons] at hch hQ
   obtain ⟨c1,c2,c3⟩:=Xh hch hapart
   have hrin:r∈recs:=List.mem_of_getElem? hr
   refine jlu hB hS (N:=N) hops hra c1 (zy hrng i r hr).1 (fun j h1 h2=> ?_) (hdst r hrin) (hcs r hrin).1 (hcs r hrin).2 fun E' a' w' hra' hext=> ?_
   ·cases hpj:p j with
    | false=>rfl
    | true=>exact absurd ⟨h1,h2⟩ (hpf j hpj (i,r) (by simp))
   ·have hsz':(listed.setIfInBounds i true).size=ops.size:=by simp [hls]
    have hget:∀q d,(listed.setIfInBounds i true).getD q d=if q=i then true else listed.getD q d:=by
     intro q d
     by_cases hq:q=i
     ·subst hq
      have:q<listed.size:=by omega
      simp [this]
     ·rw [if_neg hq]
      simp [Array.getElem?_setIfInBounds_ne (Ne.symm hq)]
    refine ih (A++B) (listed.setIfInBounds i true) (r.go s) E' _ a' w' (by simp at hf ⊢;omega) hsz' ⟨fun j x=> ?_, ?_⟩ (fun k o hk hl e he hb=> ?_) (by rw [List.map_append];exact c2) hra' (fun j hj=> ?_) (fun j hj x hx=> ?_) ?_
    ·rw [hget j true]
     have hm:=ht.mem j x
     by_cases hji:j=i
     ·subst hji
      rw [if_pos rfl]
      refine ⟨fun h=> ?_,fun h=>absurd h.2 (by simp)⟩
      exfalso
      rcases List.mem_append.1 h with h | h
      ·have:=hAB (j,x) h (j,r) (by simp)
       simp at this
      ·have:=List.rel_of_pairwise_cons hsB h
       simp at this
     ·rw [if_neg hji,←hm]
      constructor
      ·intro h
       rcases List.mem_append.1 h with h | h
       ·simp [h]
       ·simp [h]
      ·intro h
       rcases List.mem_append.1 h with h | h
       ·simp [h]
       ·rcases List.mem_cons.1 h with h | h
        ·injection h with e1 _;exact absurd e1 hji
        ·simp [h]
    ·refine ht.sorted.sublist ?_
     exact List.Sublist.append_left (List.sublist_cons_self _ _) A
    ·rw [hget] at hl ⊢
     by_cases hki:k=i
     ·subst hki
      rw [hops] at hk
      cases hk
      have:=hedges e he hb
      by_cases he':e.on=k <;> simp [he',this]
     ·rw [if_neg hki] at hl
      have:=hcl k o hk hl e he hb
      by_cases he':e.on=i <;> simp [he',this]
    ·simp only [pn,Bool.or_eq_true,Bool.and_eq_true,decide_eq_true_eq] at hj
     rcases hj with hj | hj
     ·exact hpM j hj
     ·have:=(zy hrng i r hr).2;omega
    ·simp only [pn,Bool.or_eq_true,Bool.and_eq_true,decide_eq_true_eq] at hj
     have hxin:x∈A++(i,r)::B:=by
      rcases List.mem_append.1 hx with h | h
      ·simp [h]
      ·simp [h]
     rcases hj with hj | hj
     ·exact hpf j hj x hxin
     ·intro hcon
      obtain ⟨k,y⟩:=x
      obtain ⟨g1,_⟩:=(ht.mem k y).1 hxin
      have hne:k≠i:=by
       rintro rfl
       rcases List.mem_append.1 hx with h | h
       ·have:=hAB (k,y) h (k,r) (by simp);simp at this
       ·have:=List.rel_of_pairwise_cons hsB h;simp at this
      rcases Nat.lt_or_gt_of_ne hne with hlt | hlt
      ·have:=zz hrng k i y r hlt g1 hr;simp only at hcon;omega
      ·have:=zz hrng i k r y hlt hr g1;simp only at hcon;omega
    ·intro E'' p'' a'' w'' h1 h2 h3
     rw [List.map_append] at h1 h3
     rw [←c3] at h1 h3
     exact hQ E'' p'' a'' w'' h1 h2 (hext.trans h3)
end
end Go.Lr

/- The local evaluator: whole bodies, loops, calls walked into, against the model. -/
namespace Go.Lr
open Go.RowKit
def Ex.to:Ex→Exit
 | .normal=> .normal
 | .exit id=> .exit id
 | .ret=> .ret
section
variable {P:Program} {S:FuncId→Option SumK} {z:Md}
theorem R.st {E:Env} {s:St} {a:Act} {w:World} (h:R E s a w):StOK s:=⟨h.okT,h.m.okM,h.m.uq⟩
theorem jdo (hB:Y6 P) (hS:AllOK P S) (hmix:P.follows .mixedOrders=true) {ops:Array Oper} {s s':St} (h:YP P S z ops.toList s=some s') (hsz:s.sz≤60000) (hs:StOK s):
  (Good s'→Good s)∧StOK s'∧s'.sz=s.sz∧s.nb≤s'.nb∧(Good s'→∀(id:Nat) (E:Env) (a:Act) (w:World),R E s a w→∀Q:Exit→Act→World→Prop,(∀E' a' w',R E' s' a' w'→Ext w E s w' E' s'→Q .normal a' w')→
   (Code.region id ops true).wp P Q a w):=by
 unfold YP at h
 split at h
 ·rename_i s1 acc hd
  split at h
  ·rename_i hfree hdown
   cases h
   obtain ⟨recs,e1,e2,e3,e4,e5,e6,e7,e8,e9⟩:=KN hd hsz hs
   refine ⟨fun hg=>(e9 hg).1,e8,e7,zx e5,fun hg id E a w hr Q hQ=> ?_⟩
   obtain ⟨g1,g2⟩:=e9 hg
   refine wp_region_any hmix ?_
   have hrev:jqo acc []=recs:=by rw [jfA,e1];simp
   rw [hrev] at hfree
   have hlen:recs.length=ops.size:=by have:=congrArg List.length e2;simpa using this
   have hrem:((List.range recs.length).zip recs).map (·.2)=recs:=by
    rw [List.map_snd_zip];simp
   refine jfB (z:=z) (N:=s.nb) (sz:=s.sz) (M:=s'.nb) hB hS e2 hdown (fun i j x y hij hx hy hc=> ?_) e5 e6 g2 ops.size ((List.range recs.length).zip recs) (Array.replicate ops.size false) s.as E (below s.nb) a { w with drawn:=w.drawn+1 } ?_ ?_ ⟨fun i r=> ?_, ?_⟩ ?_ ?_ ?_ ?_ ?_ ?_
   ·have:=KO hfree rfl j y hy i x (by omega) (by simpa using hx) hc
    simpa using this
   ·simp [hlen]
   ·simp
   ·constructor
    ·intro h
     obtain ⟨k,hk⟩:=List.mem_iff_getElem?.1 h
     rw [List.getElem?_zip_eq_some] at hk
     obtain ⟨k1,k2⟩:=hk
     have hkl:k<recs.length:=(List.getElem?_eq_some_iff.1 k2).1
     rw [List.getElem?_range hkl] at k1
     cases k1
     refine ⟨k2, ?_⟩
     have:i<ops.size:=by omega
     simp [this]
    ·intro h
     obtain ⟨h1,_⟩:=h
     have hkl:i<recs.length:=(List.getElem?_eq_some_iff.1 h1).1
     refine List.mem_iff_getElem?.2 ⟨i, ?_⟩
     rw [List.getElem?_zip_eq_some]
     exact ⟨List.getElem?_range hkl,h1⟩
   ·have hp:(((List.range recs.length).zip recs).map (·.1)).Pairwise (· < ·):=by
     rw [List.map_fst_zip (by simp)]
     exact List.pairwise_lt_range
    exact (List.pairwise_map.1 hp)
   ·intro k o hk hl
    exfalso
    have:k<ops.size:=(Array.getElem?_eq_some_iff.1 hk).1
    simp [this] at hl
   ·rw [hrem];exact e3
   ·exact ⟨hr.size,hr.tm,hr.defers,hr.okT,⟨fun i b hb=>hr.m.rel.blk i b hb,hr.m.rel.inj⟩,hs.okM'⟩
   ·intro i hi
    have:=zx e5
    simp only [below,decide_eq_true_eq] at hi
    omega
   ·intro i hi x hx
    obtain ⟨k,r⟩:=x
    have hr':r∈recs:=(List.of_mem_zip hx).2
    obtain ⟨q,hq⟩:=List.mem_iff_getElem?.1 hr'
    have:=(zy e5 q r hq).1
    simp only [below,decide_eq_true_eq] at hi
    simp only
    omega
   ·intro E' p' a' w' h1 h2 h3
    rw [hrem,e4] at h1 h3
    have hmono:∀i,p' i=true→below s'.nb i=true:=fun i hi=>by simpa [below] using h2 i hi
    refine hQ E' a' w' ⟨h1.size.trans e7.symm,by rw [e7];exact hsz,h1.tm,h1.defers,e8.okT,⟨h1.rel,e8.okM,e8.uq⟩⟩ ?_
    exact ⟨zx e5,h3.agree,h3.os,h3.tape,h3.output,h3.size,h3.frame,h3.src⟩
  ·cases h
 ·cases h
def X1 (tmps:Array Value):ResultVar→Sem Value
 | .tmp t=>pure (tmps.getD t undef)
 | .cell a t=>do loadVar t (←asAddr (tmps.getD a undef))
theorem jdp (fn:Func) (tmps:Array Value):results fn tmps=(do let vs ←fn.results.mapM (X1 tmps);pure (if h:vs.size=1 then vs[0] else .tuple vs)):=by
 have:X1 tmps=(fun r=>match r with
   | .tmp t=>pure (tmps.getD t undef)
   | .cell a t=>do loadVar t (←asAddr (tmps.getD a undef))):=by
  funext r
  cases r <;> rfl
 rw [this]
 rfl
theorem KP {E:Env} {s:St} {w:World} {tmps:Array Value} (hm:Rel E (getM s.mem) w) (hτ:∀t:Nat,tmps.getD t undef=(getT s.tm t).den E):∀{rs:List ResultVar} {vs:List LV},yI P (getT s.tm) s.mem rs=some vs→
  (rs.mapM (X1 tmps)).run P w = .ok (vs.map (LV.den E)) w
 | [],vs,h=>by simp only [yI] at h;cases h;simp
 | r::rs,vs,h=>by
  simp only [yI] at h
  split at h
  ·rename_i v vs' hv hvs
   cases h
   have h1:(X1 tmps r).run P w = .ok (v.den E) w:=by
    cases r with
    | tmp t=>
     simp only [Z0,Option.some.injEq] at hv
     subst hv
     simp only [X1,Sem.run_pure,hτ t]
    | cell a t=>
     simp only [Z0] at hv
     split at hv
     ·rename_i d hd
      cases hv
      unfold QC at hd
      split at hd
      ·rename_i b o hb
       split at hd
       ·rename_i k hk
        split at hd
        ·rename_i x hx
         cases hd
         have:=zC (P:=P) (hm.blk b k hk) hx
         simp only [X1,Sem.run_bind,hτ a,hb,jby,asAddr,Sem.run_pure,Result.andThen_ok,this]
         rfl
        ·cases hd
       ·cases hd
      ·cases hd
     ·cases hv
   simp only [List.mapM_cons,Sem.run_bind,h1,Result.andThen_ok,KP hm hτ hvs,Sem.run_pure,List.map_cons]
  ·cases h
theorem X2 {E:Env}:∀{vs:List LV} {l:List V1},Xt vs=some l→vs.map (LV.den E)=l.map (V1.den E)
 | [],l,h=>by simp only [Xt] at h;cases h;rfl
 | .v x::vs,l,h=>by
  simp only [Xt] at h
  split at h
  ·rename_i r hr;cases h;simp [X2 hr,LV.den]
  ·cases h
 | .tup _::vs,l,h=>by simp [Xt] at h
theorem qV {E:Env} {s:St} {w:World} {tmps:Array Value} {fn:Func} {v:LV} (hm:Rel E (getM s.mem) w) (hτ:∀t:Nat,tmps.getD t undef=(getT s.tm t).den E)
  (h:kx P fn.results.toList (getT s.tm) s.mem=some v):(results fn tmps).run P w = .ok (v.den E) w:=by
 have key:∀vs,yI P (getT s.tm) s.mem fn.results.toList=some vs→(results fn tmps).run P w = .ok (if h:(vs.map (LV.den E)).toArray.size=1 then (vs.map (LV.den E)).toArray[0] else .tuple (vs.map (LV.den E)).toArray) w:=by
  intro vs hvs
  have:=KP (P:=P) hm hτ hvs
  rw [jdp,Array.mapM_eq_mapM_toList]
  simp only [Sem.run_bind,Sem.run_map]
  rw [this]
  simp only [Result.andThen_ok,Sem.run_pure]
 unfold kx at h
 split at h
 ·rename_i u hu
  cases h
  rw [key _ hu]
  simp
 ·rename_i vs hne hvs
  split at h
  ·rename_i l hl
   cases h
   rw [key _ hvs]
   rw [dif_neg]
   ·simp only [LV.den]
    rw [X2 hl]
   ·intro h1
    have:vs.length=1:=by simpa using h1
    match vs,this with
    | [x],_=>exact hne x rfl
  ·cases h
 ·cases h
theorem Kp {p:Nat→Bool} {τ:Nat→LV} {m:Mem} (hτ:∀t,(τ t).ok p=true) (hg:∀i c,getM m i=some c→p i=true∧okL p c.cells=true):∀{rs:List ResultVar} {vs:List LV},yI P τ m rs=some vs→∀v∈vs,v.ok p=true
 | [],vs,h=>by simp only [yI] at h;cases h;simp
 | r::rs,vs,h=>by
  simp only [yI] at h
  split at h
  ·rename_i v vs' hv hvs
   cases h
   simp only [List.mem_cons,forall_eq_or_imp]
   refine ⟨?_,Kp hτ hg hvs⟩
   cases r with
   | tmp t=>simp only [Z0,Option.some.injEq] at hv;subst hv;exact hτ t
   | cell a t=>
    simp only [Z0] at hv
    split at hv
    ·rename_i d hd
     cases hv
     unfold QC at hd
     split at hd
     ·split at hd
      ·rename_i k hk
       split at hd
       ·rename_i x hx
        cases hd
        exact Qp hx (hg _ _ hk).2
       ·cases hd
      ·cases hd
     ·cases hd
    ·cases hv
  ·cases h
theorem jcK {p:Nat→Bool}:∀{vs:List LV} {l:List V1},Xt vs=some l→(∀v∈vs,v.ok p=true)→jnb p l=true
 | [],l,h,_=>by simp only [Xt] at h;cases h;rfl
 | .v x::vs,l,h,hv=>by
  simp only [Xt] at h
  split at h
  ·rename_i r hr
   cases h
   rw [okVs_iff]
   simp only [List.mem_cons,forall_eq_or_imp]
   exact ⟨hv (.v x) (by simp),okVs_iff.1 (jcK hr fun v hm=>hv v (by simp [hm]))⟩
  ·cases h
 | .tup _::vs,l,h,_=>by simp [Xt] at h
theorem jbo {p:Nat→Bool} {τ:Nat→LV} {m:Mem} {rs:List ResultVar} {v:LV} (hτ:∀t,(τ t).ok p=true) (hg:∀i c,getM m i=some c→p i=true∧okL p c.cells=true) (h:kx P rs τ m=some v):v.ok p=true:=by
 unfold kx at h
 split at h
 ·rename_i u hu
  cases h
  exact Kp hτ hg hu _ (by simp)
 ·rename_i vs _ hvs
  split at h
  ·rename_i l hl
   cases h
   exact jcK hl (Kp hτ hg hvs)
  ·cases h
 ·cases h
theorem JW {β:Type}:∀(t:Tr) (i:Nat) (l:List LV) (k:Tr→β),jcI t i l k=k (K9 t i l)
 | _,_,[],_=>rfl
 | t,i,v::l,k=>by simp only [jcI,K9,JT,JW]
theorem X3:∀(l:List LV) (t:Tr) (i:Nat) (j:Nat),i+l.length<65535→getT (K9 t i l) j=if i≤j∧j<i+l.length then l.getD (j - i) xt else getT t j
 | [],t,i,j,_=>by
  simp only [K9,List.length_nil]
  rw [if_neg (by omega)]
 | v::l,t,i,j,h=>by
  simp only [List.length_cons] at h ⊢
  simp only [K9]
  rw [X3 l _ (i+1) j (by omega),ym 16 t i v j (by omega)]
  by_cases h1:j=i
  ·subst h1
   rw [if_neg (by omega),if_pos rfl,if_pos (by omega)]
   simp
  ·by_cases h2:i≤j∧j<i+(l.length+1)
   ·rw [if_pos (by omega),if_pos h2]
    rw [show j - i=(j - (i+1))+1 by omega]
    simp
   ·rw [if_neg (by omega),if_neg h1,if_neg h2]
end
end Go.Lr

/- The local evaluator is sound: what it tells of a body holds of the model's. -/
namespace Go.Lr
open Go.RowKit
theorem yp (nb:Nat):∀(m:Mem) (i:Nat),getM (ZZ nb m) i=if i<nb then getM m i else none
 | [],i=>by simp [ZZ,getM]
 | (j,b)::m,i=>by
  simp only [ZZ,Ko]
  by_cases hj:j<nb
  ·simp only [hj,decide_true]
   rw [jz,jz,yp nb m i]
   by_cases hi:i=j
   ·subst hi;simp [hj]
   ·simp [hi]
  ·simp only [hj,decide_false]
   rw [jz,yp nb m i]
   by_cases hi:i<nb
   ·rw [if_pos hi,if_pos hi,if_neg (by omega)]
   ·rw [if_neg hi,if_neg hi]
theorem Kq (nb:Nat):∀(m:Mem),uniq m→uniq (ZZ nb m)
 | [],_=>trivial
 | (j,b)::m,h=>by
  simp only [ZZ]
  split
  ·refine ⟨?_,Kq nb m h.2⟩
   rw [yp,h.1]
   simp
  ·exact Kq nb m h.2
theorem jdq {β:Type} {y:Bool} {nb:Nat} {v:LV} {m:Mem} {k:Mem→β} {r:β} (h:jft y nb v m k=r):∃m',k m'=r∧(uniq m→uniq m')∧∀i b,getM m' i=some b→getM m i=some b:=by
 have hm:k m=r→∃m',k m'=r∧(uniq m→uniq m')∧∀i b,getM m' i=some b→getM m i=some b:=fun h=>⟨m,h,id,fun _ _ h=>h⟩
 unfold jft at h
 split at h
 ·exact hm h
 ·split at h
  ·rw [QS] at h
   refine ⟨_,h,Kq nb m,fun i b hb=> ?_⟩
   rw [yp] at hb
   split at hb
   ·exact hb
   ·cases hb
  ·exact hm h
theorem Rel.sub {E:Env} {g g':Nat→Option Blk} {w:World} (h:Rel E g w) (hs:∀i b,g' i=some b→g i=some b):Rel E g' w:=by
 have hsome:∀i,(g' i).isSome→(g i).isSome:=by
  intro i hi
  obtain ⟨b,hb⟩:=Option.isSome_iff_exists.1 hi
  simp [hs i b hb]
 exact ⟨fun i b hb=>h.blk i b (hs i b hb),fun i j hi hj he=>h.inj i j (hsome i hi) (hsome j hj) he⟩
section
variable {P:Program} {S:FuncId→Option SumK} {z:Md}
def SC (P:Program) (S:FuncId→Option SumK) (z:Md) (n:Nat):Prop:=
 ∀(c:Code) (s:St) (out:Out) (s':St),exec P S z n (.code c) s=some (out,s')→s.sz≤60000→StOK s→
  ∃e,out = .ex e∧(Good s'→Good s)∧StOK s'∧s'.sz=s.sz∧s.nb≤s'.nb∧
   (Good s'→∀(E:Env) (a:Act) (w:World),R E s a w→∀Q:Exit→Act→World→Prop,(∀E' a' w',R E' s' a' w'→Ext w E s w' E' s'→Q e.to a' w')→c.wp P Q a w)
def SL (P:Program) (S:FuncId→Option SumK) (z:Md) (n:Nat):Prop:=
 ∀(c:Code) (s:St) (out:Out) (s':St),exec P S z n (.code (.loop c)) s=some (out,s')→s.sz≤60000→StOK s→
  ∃e m,out = .ex e∧(Good s'→Good s)∧StOK s'∧s'.sz=s.sz∧s.nb≤s'.nb∧
   (Good s'→∀(E:Env) (a:Act) (w:World),R E s a w→∀Q:Exit→Act→World→Prop,(∀E' a' w',R E' s' a' w'→Ext w E s w' E' s'→Q e.to a' w')→Code.rounds P c Q m a w)
def SO (P:Program) (S:FuncId→Option SumK) (z:Md) (n:Nat):Prop:=
 ∀(all l:List Oper) (s:St) (out:Out) (s':St),exec P S z n (.ops all l) s=some (out,s')→s.sz≤60000→StOK s→
  out = .ex .normal∧(Good s'→Good s)∧StOK s'∧s'.sz=s.sz∧s.nb≤s'.nb∧
   (Good s'→∀(ops:Array Oper) (k:Nat),ops.toList=all→all.drop k=l→∀(E:Env) (a:Act) (w:World),R E s a w→∀Q:Exit→Act→World→Prop,
    (∀E' a' w',R E' s' a' w'→Ext w E s w' E' s'→Q .normal a' w')→wpOps P ops Q (List.range' k l.length) a w)
def SB (P:Program) (S:FuncId→Option SumK) (z:Md) (n:Nat):Prop:=
 ∀(f:FuncId) (args:List LV) (s:St) (out:Out) (s':St),exec P S z n (.body f args) s=some (out,s')→(∀i b,getM s.mem i=some b→i<s.nb∧okL (below s.nb) b.cells=true)→uniq s.mem→
  (∀v∈args,v.ok (below s.nb)=true)→
  ∃v,out = .val v∧(Good s'→Good s)∧s.nb≤s'.nb∧(∀i b,getM s'.mem i=some b→i<s'.nb∧okL (below s'.nb) b.cells=true)∧uniq s'.mem∧v.ok (below s'.nb)=true∧
   (∃fn,P.funcs[f]? = some fn∧fn.body.isSome)∧
   (Good s'→∀(E:Env) (w:World),MRel E s w→Calls P f (args.map (LV.den E)).toArray w fun e w'=>∃E',e = .returned (v.den E')∧MRel E' s' w'∧Ext w E s w' E' s')
theorem X4 {n m:Nat} (h:n≤m):∀i,below n i=true→below m i=true:=fun i hi=>by
 simp only [below,decide_eq_true_eq] at hi ⊢
 omega
theorem jfC {n:Nat} {f:FuncId} {args:List LV} {s s2:St} {out:Out} (h:exec P S z n (.body f args) s=some (out,s2)):s2.sz=s.sz∧s2.tm=s.tm:=by
 cases n with
 | zero=>simp [exec] at h
 | succ n=>
  simp only [exec,jbi,Qo] at h
  split at h
  ·split at h
   ·split at h
    ·rw [JW] at h
     unfold YT at h
     split at h
     ·split at h
      ·cases h;exact ⟨rfl,rfl⟩
      ·cases h
     ·split at h
      ·cases h;exact ⟨rfl,rfl⟩
      ·cases h
     ·cases h
    ·cases h
   ·cases h
  ·cases h
theorem jh9 (hB:Y6 P) (hS:AllOK P S) {all:List Oper} {s:St} {o:Oper} {gd pd:Option Bool} {d:Dl} {cs:List (Bool×Bool)} {dec:List (Option Bool)} {β:Type} {k:St→Option β} {r:β}
  (hd:Km P S z all (getT s.tm) (getM s.mem) s.nb gd pd o=some (d,cs)) (h:jh7 z s o.dst d dec cs k=some r) (hsz:s.sz≤60000) (hs:StOK s):
  ∃s1,k s1=some r∧s1.sz=s.sz∧s.nb≤s1.nb∧StOK s1∧(Good s1→Good s)∧
   (Good s1→∀(ops:Array Oper) (i:Nat),ops.toList=all→ops[i]? = some o→∀(E:Env) (a:Act) (w:World),R E s a w→∀(K:Act→World→Prop) (Q:Exit→Act→World→Prop),
    (∀E' a' w',R E' s1 a' w'→Ext w E s w' E' s1→K a' w')→wpOp P ops Q i K a w):=by
 obtain ⟨s1,h1,h2,h3,h4,h5,h6,h7,_⟩:=jak (a:={ tmps:=Array.replicate s.sz undef,defers:=[] }) (by simp) hsz h
 have hok:=Y7 (fun t=>hs.okT t) hs.okM' hd
 have hs1:StOK s1:=hs.app hok h5 h6 h7.1
 refine ⟨s1,h1,h4,by omega,hs1,fun hg=>(h2 hg).2.2,fun hg ops i hall hi E a w hr K Q hk=> ?_⟩
 subst hall
 obtain ⟨c1,c2,_⟩:=h2 hg
 refine jcU hB hS hi hr.tm (fun t=>hs.okT t) hr.m.rel hs.okM' (fun j h1 _=>by simp [below,h1]) hd c1 c2 fun E' w' hp=> ?_
 have hag:∀i,below s.nb i=true→E' i=E i:=fun j hj=>hp.agree j (.inl (by simpa [below] using hj))
 obtain ⟨tm1,sz1,mem1,nb1,dec1,cs1⟩:=s1
 simp only at h4 h5 h6
 subst h5 h6
 obtain ⟨m1,m2⟩:=MRel.post (tm:=tm1) (sz:=sz1) (dec:=dec1) (cs:=cs1) hr.m hok hp
 refine hk E' _ w' ⟨?_,by rw [h4];exact hsz,fun t=> ?_, ?_,hs1.okT,m1⟩ m2
 ·rw [h4,←hr.size]
  cases hd:o.dst <;> simp [Act.put]
 ·have ht:∀t:Nat,a.tmps.getD t undef=(getT s.tm t).den E':=fun t=>by rw [hr.tm t,LV.den_congr hag (hs.okT t)]
  have h8:getT tm1 t=updτ (getT s.tm) o.dst d.val t:=congrFun h7.1 t
  show _=(getT tm1 t).den E'
  rw [h8]
  unfold updτ
  cases hd:o.dst with
  | none=>exact ht t
  | some e=>
   simp only [Act.put]
   rw [J6 a.tmps e t _ (by rw [hr.size];exact h7.2 e hd)]
   by_cases hte:t=e
   ·simp [hte]
   ·rw [if_neg hte,if_neg hte];exact ht t
 ·cases hd:o.dst <;> exact hr.defers
theorem jlv (hB:Y6 P) (hS:AllOK P S) (hNG:∀(f:FuncId) (fn:Func),P.funcs[f]? = some fn→fn.name≠ "runtime.NumGoroutine") {n:Nat} (ihO:SO P S z n) (ihB:SB P S z n):SO P S z (n+1):=by
 intro all l s out s' h hsz hs
 simp only [exec,jbi] at h
 cases l with
 | nil=>
  simp only [YS] at h
  cases h
  exact ⟨rfl,id,hs,rfl,Nat.le_refl _,fun _ ops k _ _ E a w hr Q hQ=>by simpa [wpOps] using hQ E a w hr (.refl _ _ _)⟩
 | cons o rest=>
  simp only [YS] at h
  generalize hdec:jvy z o s.dec=q at h
  obtain ⟨gd,pd,dec⟩:=q
  simp only at h
  have hnext:∀(ops:Array Oper) (k:Nat),ops.toList=all→all.drop k=o::rest→ops[k]? = some o∧all.drop (k+1)=rest:=by
   intro ops k hall hdrop
   constructor
   ·have:(all.drop k)[0]? = some o:=by rw [hdrop];rfl
    rw [List.getElem?_drop] at this
    rw [←hall] at this
    simpa using this
   ·have:=congrArg List.tail hdrop
    simpa [List.tail_drop] using this
  have plain:∀(d:Dl) (cs:List (Bool×Bool)),Km P S z all (getT s.tm) (getM s.mem) s.nb gd pd o=some (d,cs)→(jh7 z s o.dst d dec cs fun s'=>exec P S z n (.ops all rest) s')=some (out,s')→
    out = .ex .normal∧(Good s'→Good s)∧StOK s'∧s'.sz=s.sz∧s.nb≤s'.nb∧
     (Good s'→∀(ops:Array Oper) (k:Nat),ops.toList=all→all.drop k=o::rest→∀(E:Env) (a:Act) (w:World),R E s a w→∀Q:Exit→Act→World→Prop,
      (∀E' a' w',R E' s' a' w'→Ext w E s w' E' s'→Q .normal a' w')→wpOps P ops Q (List.range' k (o::rest).length) a w):=by
   intro d cs hd hk
   obtain ⟨s1,h1,h2,h3,h4,h5,h6⟩:=jh9 (z:=z) hB hS hd hk hsz hs
   obtain ⟨e1,e2,e3,e4,e5,e6⟩:=ihO all rest s1 out s' h1 (by omega) h4
   refine ⟨e1,fun hg=>h5 (e2 hg),e3,e4.trans h2,Nat.le_trans h3 e5,fun hg ops k hall hdrop E a w hr Q hQ=> ?_⟩
   rw [List.length_cons,List.range'_succ,wpOps_cons]
   obtain ⟨hk',hdrop'⟩:=hnext ops k hall hdrop
   refine h6 (e2 hg) ops k hall hk' E a w hr _ Q fun E' a' w' hr' hx=> ?_
   exact e6 hg ops (k+1) hall hdrop' E' a' w' hr' Q fun E'' a'' w'' hr'' hx'=>hQ E'' a'' w'' hr'' (hx.trans hx')
  split at h
  ·rename_i cs hw
   exact plain jfu cs (by unfold Km;rw [hw]) h
  ·rename_i cs hw
   unfold jfw at h
   split at h
   ·rename_i f args hinl
    have hc:∃c,o.op = .call c∧callee (getT s.tm) c=some (f,args):=by
     unfold jfv at hinl
     split at hinl
     ·rename_i c ho
      refine ⟨c,ho, ?_⟩
      split at hinl
      ·rename_i f' args' hcal
       split at hinl
       ·cases hinl
       ·cases hinl;exact hcal
      ·cases hinl
     ·cases hinl
    obtain ⟨c,ho,hcal⟩:=hc
    obtain ⟨c1,h1,h2⟩:=qh h
    unfold jbh at h1
    split at h1
    ·rename_i v s2 hbody
     rw [JV] at h1
     have hargs:∀u∈args,u.ok (below s.nb)=true:=zH (fun t=>hs.okT t) hcal
     obtain ⟨hsz2,htm2⟩:=jfC hbody
     simp only at hsz2 htm2
     obtain ⟨tm,h3,⟨htm,hdst⟩,_⟩:=jjJ (a:={ tmps:=Array.replicate s2.sz undef,defers:=[] }) (by simp) (by omega) h1
     obtain ⟨m',h4,hum,hsub⟩:=jdq h3
     obtain ⟨v',b1,b2,b3,b4,b5,b6,⟨fn,b7,b8⟩,b9⟩:=ihB f args _ _ s2 hbody hs.okM hs.uq hargs
     cases b1
     simp only at b3
     have hs3:StOK ⟨tm,s2.sz,m',s2.nb,s2.dec,s2.cs,s2.lg⟩:=by
      refine ⟨fun t=> ?_,fun i b hb=>b4 i b (hsub i b hb),hum b5⟩
      show (getT tm t).ok (below s2.nb)=true
      rw [htm]
      unfold updτ
      rw [htm2]
      cases hd:o.dst with
      | none=>exact LV.ok_mono (X4 b3) (hs.okT t)
      | some e=>
       by_cases hte:t=e
       ·simp only [hte,if_true];exact b6
       ·simp only [hte,if_false];exact LV.ok_mono (X4 b3) (hs.okT t)
     obtain ⟨e1,e2,e3,e4,e5,e6⟩:=ihO all rest _ out s' h4 (by show s2.sz≤60000;omega) hs3
     simp only at e4 e5
     refine ⟨e1,fun hg=> ?_,e3,e4.trans hsz2,Nat.le_trans b3 e5,fun hg ops k hall hdrop E a w hr Q hQ=> ?_⟩
     ·exact (h2 (b2 (e2 hg))).2
     ·rw [List.length_cons,List.range'_succ,wpOps_cons]
      obtain ⟨hk',hdrop'⟩:=hnext ops k hall hdrop
      have hg2:Good s2:=e2 hg
      have hcs:=(h2 (b2 hg2)).1
      unfold wpOp
      simp only [hk']
      subst hall
      rw [Kz (a:=a) (E:=E) hr.tm hw hcs]
      simp only [if_true]
      refine .inl (CallOK.wp (R:=fun v'' w'=>∃E',v''=v.den E'∧MRel E' s2 w'∧Ext w E ⟨s.tm,s.sz,s.mem,s.nb,dec,c1,s.lg⟩ w' E' s2) ho (J7 hr.tm) hcal (.inl ⟨fn,b7,hNG f fn b7,b8, ?_⟩) ?_)
      ·refine (b9 hg2 E w ⟨hr.m.rel,hr.m.okM,hr.m.uq⟩).mono fun e w' he=> ?_
       obtain ⟨E',h5,h6,h7⟩:=he
       exact ⟨_,h5,E',rfl,h6,h7⟩
      ·rintro v'' w' ⟨E',rfl,h6,h7⟩
       have hag:∀i,below s.nb i=true→E' i=E i:=fun j hj=>h7.agree j (by simpa [below] using hj)
       have ht:∀t:Nat,a.tmps.getD t undef=(getT s.tm t).den E':=fun t=>by rw [hr.tm t,LV.den_congr hag (hs.okT t)]
       have hr3:R E' ⟨tm,s2.sz,m',s2.nb,s2.dec,s2.cs,s2.lg⟩ (a.put o.dst (v.den E')) w':=by
        refine ⟨?_,by show s2.sz≤60000;omega,fun t=> ?_, ?_,hs3.okT,⟨h6.rel.sub hsub,hs3.okM,hs3.uq⟩⟩
        ·show _=s2.sz
         rw [hsz2,←hr.size]
         cases hd:o.dst <;> simp [Act.put]
        ·show _=(getT tm t).den E'
         rw [htm]
         unfold updτ
         rw [htm2]
         cases hd:o.dst with
         | none=>exact ht t
         | some e=>
          simp only [Act.put]
          rw [J6 a.tmps e t _ (by rw [hr.size,←hsz2];exact hdst e hd)]
          by_cases hte:t=e
          ·simp [hte]
          ·rw [if_neg hte,if_neg hte];exact ht t
        ·cases hd:o.dst <;> exact hr.defers
       refine e6 hg ops (k+1) rfl hdrop' E' _ w' hr3 Q fun E'' a'' w'' hr'' hx'=> ?_
       refine hQ E'' a'' w'' hr'' (Ext.trans (s1:=⟨tm,s2.sz,m',s2.nb,s2.dec,s2.cs,s2.lg⟩) ⟨h7.nb,h7.agree,h7.os,h7.tape,h7.output,h7.size,h7.frame,fun i hi=>h7.src i ?_⟩ hx')
       obtain ⟨b,hb⟩:=Option.isSome_iff_exists.1 hi
       simp [hsub i b hb]
    ·cases h1
   ·rename_i hinl
    split at h
    ·rename_i d hd
     exact plain d cs (by unfold Km;rw [hw];simp only [hd]) h
    ·cases h
  ·cases h
theorem jlw {n:Nat} (ihC:SC P S z n):SB P S z (n+1):=by
 intro f args s out s' h hokM huq hargs
 simp only [exec,jbi,Qo] at h
 split at h
 ·rename_i fn hf
  split at h
  ·rename_i c hc
   split at h
   ·rename_i hl1 hl2
    rw [jaC,jbt] at hl1
    rw [jaC] at hl2
    have hl1':args.length≤fn.ntmps:=by simpa using hl1
    have hl2':fn.ntmps≤60000:=by simpa using hl2
    rw [JW] at h
    have hget:∀j,getT (K9 .nil 0 args) j=args.getD j xt:=by
     intro j
     rw [X3 args .nil 0 j (by omega)]
     by_cases hj:j<args.length
     ·rw [if_pos (by omega)];simp
     ·rw [if_neg (by omega),zZ]
      simp [List.getD,List.getElem?_eq_none (Nat.le_of_not_lt hj)]
    have hs0:StOK ⟨K9 .nil 0 args,fn.ntmps,s.mem,s.nb,s.dec,s.cs,s.lg⟩:=by
     refine ⟨fun t=> ?_,hokM,huq⟩
     show (getT (K9 .nil 0 args) t).ok (below s.nb)=true
     rw [hget]
     by_cases ht:t<args.length
     ·simp only [List.getD,List.getElem?_eq_getElem ht,Option.getD_some]
      exact hargs _ (List.getElem_mem ht)
     ·simp only [List.getD,List.getElem?_eq_none (Nat.le_of_not_lt ht),Option.getD_none]
      rfl
    have key:∀(e:Ex) (s1:St) (v:LV),(e = .normal∨e = .ret)→exec P S z n (.code c) ⟨K9 .nil 0 args,fn.ntmps,s.mem,s.nb,s.dec,s.cs,s.lg⟩=some (.ex e,s1)→
      kx P fn.results.toList (getT s1.tm) s1.mem=some v→out = .val v→s'=⟨s.tm,s.sz,s1.mem,s1.nb,s1.dec,s1.cs,s1.lg⟩→
      ∃v,out = .val v∧(Good s'→Good s)∧s.nb≤s'.nb∧(∀i b,getM s'.mem i=some b→i<s'.nb∧okL (below s'.nb) b.cells=true)∧uniq s'.mem∧v.ok (below s'.nb)=true∧
       (∃fn,P.funcs[f]? = some fn∧fn.body.isSome)∧
       (Good s'→∀(E:Env) (w:World),MRel E s w→Calls P f (args.map (LV.den E)).toArray w fun e w'=>∃E',e = .returned (v.den E')∧MRel E' s' w'∧Ext w E s w' E' s'):=by
     intro e s1 v he hex hres hout hs'
     obtain ⟨e',q1,q2,q3,q4,q5,q6⟩:=ihC c _ _ s1 hex hl2' hs0
     cases q1
     subst hs'
     simp only at q5
     refine ⟨v,hout,fun hg=>q2 hg,q5,q3.okM,q3.uq,jbo (fun t=>q3.okT t) q3.okM' hres,⟨fn,hf,by simp [hc]⟩,fun hg E w hm=> ?_⟩
     refine calls_of_wp hf hc (q6 hg E _ w ⟨?_,hl2',fun t=> ?_,rfl,hs0.okT,⟨hm.rel,hm.okM,hm.uq⟩⟩ _ fun E' a' w' hr' hx'=> ?_)
     ·simp;omega
     ·show _=(getT (K9 .nil 0 args) t).den E
      rw [hget]
      simp only [Array.getD_eq_getD_getElem?,Array.getElem?_append,List.size_toArray,List.length_map]
      by_cases ht:t<args.length
      ·rw [if_pos ht]
       simp [List.getD,List.getElem?_eq_getElem ht]
      ·rw [if_neg ht]
       simp only [List.getD,List.getElem?_eq_none (Nat.le_of_not_lt ht),Option.getD_none]
       by_cases ht2:t - args.length<fn.ntmps - args.length
       ·simp [ht2];rfl
       ·simp [ht2];rfl
     ·have hpost:bodyPost P fn (fun e w'=>∃E',e = .returned (v.den E')∧MRel E' ⟨s.tm,s.sz,s1.mem,s1.nb,s1.dec,s1.cs,s1.lg⟩ w'∧Ext w E s w' E' ⟨s.tm,s.sz,s1.mem,s1.nb,s1.dec,s1.cs,s1.lg⟩) .ret a' w':=
       ⟨hr'.defers,v.den E',qV hr'.m.rel hr'.tm hres,E',rfl,⟨hr'.m.rel,hr'.m.okM,hr'.m.uq⟩,⟨hx'.nb,hx'.agree,hx'.os,hx'.tape,hx'.output,hx'.size,hx'.frame,hx'.src⟩⟩
      rcases he with rfl | rfl
      ·exact hpost
      ·exact hpost
    unfold YT at h
    split at h
    ·rename_i s1 hex
     split at h
     ·rename_i v hres
      cases h
      exact key .normal s1 v (.inl rfl) hex hres rfl rfl
     ·cases h
    ·rename_i s1 hex
     split at h
     ·rename_i v hres
      cases h
      exact key .ret s1 v (.inr rfl) hex hres rfl rfl
     ·cases h
    ·cases h
   ·cases h
  ·cases h
 ·cases h
theorem jlx (hB:Y6 P) (hS:AllOK P S) (hmix:P.follows .mixedOrders=true) {n:Nat} (ihC:SC P S z n) (ihO:SO P S z n) (ihL:SL P S z (n+1)):SC P S z (n+1):=by
 intro c s out s' h hsz hs
 have h0:=h
 simp only [exec,jbi] at h
 cases c <;> simp only [qe,reduceCtorEq] at h
 case skip=>
  cases h
  exact ⟨.normal,rfl,id,hs,rfl,Nat.le_refl _,fun _ E a w hr Q hQ=>wp_skip (hQ E a w hr (.refl _ _ _))⟩
 case region id ops draw=>
  cases draw with
  | false=>
   simp only at h
   obtain ⟨e1,e2,e3,e4,e5,e6⟩:=ihO _ _ s out s' h hsz hs
   refine ⟨.normal,e1,e2,e3,e4,e5,fun hg E a w hr Q hQ=>wp_region ?_⟩
   have:=e6 hg ops 0 rfl rfl E a w hr Q hQ
   rw [List.range_eq_range']
   simpa using this
  | true=>
   simp only at h
   unfold YR at h
   split at h
   ·rename_i s1 hd
    cases h
    obtain ⟨e2,e3,e4,e5,e6⟩:=jdo hB hS hmix hd hsz hs
    exact ⟨.normal,rfl,e2,e3,e4,e5,fun hg E a w hr Q hQ=>e6 hg id E a w hr Q hQ⟩
   ·cases h
 case seq x y=>
  cases hx:exec P S z n (.code x) s with
  | none=>rw [hx] at h;simp [ye] at h
  | some q=>
   obtain ⟨o1,s1⟩:=q
   rw [hx] at h
   obtain ⟨e,e1,e2,e3,e4,e5,e6⟩:=ihC x s o1 s1 hx hsz hs
   subst e1
   have other:e≠ .normal→ye (exec P S z n) y (some (Out.ex e,s1))=some (Out.ex e,s1):=by
    intro hne
    cases e <;> first | exact absurd rfl hne | rfl
   by_cases hne:e = .normal
   ·subst hne
    simp only [ye] at h
    obtain ⟨e',f1,f2,f3,f4,f5,f6⟩:=ihC y s1 out s' h (by omega) e3
    refine ⟨e',f1,fun hg=>e2 (f2 hg),f3,f4.trans e4,Nat.le_trans e5 f5,fun hg E a w hr Q hQ=>wp_seq ?_⟩
    refine e6 (f2 hg) E a w hr _ fun E' a' w' hr' hx'=> ?_
    exact f6 hg E' a' w' hr' Q fun E'' a'' w'' hr'' hx''=>hQ E'' a'' w'' hr'' (hx'.trans hx'')
   ·rw [other hne] at h
    cases h
    refine ⟨e,rfl,e2,e3,e4,e5,fun hg E a w hr Q hQ=>wp_seq ?_⟩
    refine e6 hg E a w hr _ fun E' a' w' hr' hx'=> ?_
    have:=hQ E' a' w' hr' hx'
    cases e <;> first | exact absurd rfl hne | exact this
 case cond c x y=>
  unfold YQ at h
  split at h
  ·rename_i t ht
   generalize hq:jfr s.dec=q at h
   obtain ⟨d,dec⟩:=q
   simp only at h
   split at h
   ·rename_i cs hb
    obtain ⟨c1,h1,h2⟩:=qh h
    have hs1:StOK ⟨s.tm,s.sz,s.mem,s.nb,dec,c1,s.lg⟩:=⟨hs.okT,hs.okM,hs.uq⟩
    obtain ⟨e,e1,e2,e3,e4,e5,e6⟩:=ihC x _ out s' h1 hsz hs1
    refine ⟨e,e1,fun hg=>(h2 (e2 hg)).2,e3,e4,e5,fun hg E a w hr Q hQ=> ?_⟩
    have htt:=xQ hb (h2 (e2 hg)).1
    subst htt
    refine wp_cond_true (by rw [kj (J7 hr.tm) ht];rfl) ?_
    exact e6 hg E a w ⟨hr.size,hr.le,hr.tm,hr.defers,hr.okT,⟨hr.m.rel,hr.m.okM,hr.m.uq⟩⟩ Q fun E' a' w' hr' hx'=>hQ E' a' w' hr' ⟨hx'.nb,hx'.agree,hx'.os,hx'.tape,hx'.output,hx'.size,hx'.frame,hx'.src⟩
   ·rename_i cs hb
    obtain ⟨c1,h1,h2⟩:=qh h
    have hs1:StOK ⟨s.tm,s.sz,s.mem,s.nb,dec,c1,s.lg⟩:=⟨hs.okT,hs.okM,hs.uq⟩
    obtain ⟨e,e1,e2,e3,e4,e5,e6⟩:=ihC y _ out s' h1 hsz hs1
    refine ⟨e,e1,fun hg=>(h2 (e2 hg)).2,e3,e4,e5,fun hg E a w hr Q hQ=> ?_⟩
    have htt:=xQ hb (h2 (e2 hg)).1
    subst htt
    refine wp_cond_false (by rw [kj (J7 hr.tm) ht];rfl) ?_
    exact e6 hg E a w ⟨hr.size,hr.le,hr.tm,hr.defers,hr.okT,⟨hr.m.rel,hr.m.okM,hr.m.uq⟩⟩ Q fun E' a' w' hr' hx'=>hQ E' a' w' hr' ⟨hx'.nb,hx'.agree,hx'.os,hx'.tape,hx'.output,hx'.size,hx'.frame,hx'.src⟩
   ·cases h
  ·cases h
 case block id x=>
  cases hx:exec P S z n (.code x) s with
  | none=>rw [hx] at h;simp [yl] at h
  | some q=>
   obtain ⟨o1,s1⟩:=q
   rw [hx] at h
   obtain ⟨e,e1,e2,e3,e4,e5,e6⟩:=ihC x s o1 s1 hx hsz hs
   subst e1
   cases e with
   | normal=>
    simp only [yl] at h
    cases h
    exact ⟨.normal,rfl,e2,e3,e4,e5,fun hg E a w hr Q hQ=>wp_block (e6 hg E a w hr _ fun E' a' w' hr' hx'=>hQ E' a' w' hr' hx')⟩
   | ret=>
    simp only [yl] at h
    cases h
    exact ⟨.ret,rfl,e2,e3,e4,e5,fun hg E a w hr Q hQ=>wp_block (e6 hg E a w hr _ fun E' a' w' hr' hx'=>hQ E' a' w' hr' hx')⟩
   | exit i=>
    simp only [yl,xi] at h
    by_cases hid:i=id
    ·simp only [hid,decide_true] at h
     cases h
     refine ⟨.normal,rfl,e2,e3,e4,e5,fun hg E a w hr Q hQ=>wp_block (e6 hg E a w hr _ fun E' a' w' hr' hx'=> ?_)⟩
     simp only [Ex.to,Exit.inBlock,hid,if_true]
     exact hQ E' a' w' hr' hx'
    ·simp only [hid,decide_false] at h
     cases h
     refine ⟨.exit i,rfl,e2,e3,e4,e5,fun hg E a w hr Q hQ=>wp_block (e6 hg E a w hr _ fun E' a' w' hr' hx'=> ?_)⟩
     simp only [Ex.to,Exit.inBlock,hid,if_false]
     exact hQ E' a' w' hr' hx'
 case loop x=>
  obtain ⟨e,m,e1,e2,e3,e4,e5,e6⟩:=ihL x s out s' h0 hsz hs
  exact ⟨e,e1,e2,e3,e4,e5,fun hg E a w hr Q hQ=>wp_loop_rounds m (e6 hg E a w hr Q hQ)⟩
 case exit id=>
  cases h
  exact ⟨.exit id,rfl,fun hg=>hg,hs,rfl,Nat.le_refl _,fun _ E a w hr Q hQ=>wp_exit (hQ E a w hr (.refl _ _ _))⟩
 case ret=>
  cases h
  exact ⟨.ret,rfl,id,hs,rfl,Nat.le_refl _,fun _ E a w hr Q hQ=>wp_ret (hQ E a w hr (.refl _ _ _))⟩
theorem jly {n:Nat} (ihC:SC P S z n) (ihL:SL P S z n):SL P S z (n+1):=by
 intro x s out s' h hsz hs
 simp only [exec,jbi,qe] at h
 cases hx:exec P S z n (.code x) s with
 | none=>rw [hx] at h;simp [ye] at h
 | some q=>
  obtain ⟨o1,s1⟩:=q
  rw [hx] at h
  obtain ⟨e,e1,e2,e3,e4,e5,e6⟩:=ihC x s o1 s1 hx hsz hs
  subst e1
  by_cases hne:e = .normal
  ·subst hne
   simp only [ye] at h
   obtain ⟨e',m,f1,f2,f3,f4,f5,f6⟩:=ihL x s1 out s' h (by omega) e3
   refine ⟨e',m+1,f1,fun hg=>e2 (f2 hg),f3,f4.trans e4,Nat.le_trans e5 f5,fun hg E a w hr Q hQ=> ?_⟩
   rw [rounds_succ]
   refine e6 (f2 hg) E a w hr _ fun E' a' w' hr' hx'=> ?_
   exact f6 hg E' a' w' hr' Q fun E'' a'' w'' hr'' hx''=>hQ E'' a'' w'' hr'' (hx'.trans hx'')
  ·have other:ye (exec P S z n) (.loop x) (some (Out.ex e,s1))=some (Out.ex e,s1):=by
    cases e <;> first | exact absurd rfl hne | rfl
   rw [other] at h
   cases h
   refine ⟨e,1,rfl,e2,e3,e4,e5,fun hg E a w hr Q hQ=> ?_⟩
   rw [rounds_succ]
   refine e6 hg E a w hr _ fun E' a' w' hr' hx'=> ?_
   have:=hQ E' a' w' hr' hx'
   cases e <;> first | exact absurd rfl hne | exact this
theorem kD (hB:Y6 P) (hS:AllOK P S) (hmix:P.follows .mixedOrders=true) (hNG:∀(f:FuncId) (fn:Func),P.funcs[f]? = some fn→fn.name≠ "runtime.NumGoroutine"):
  ∀n,SC P S z n∧SL P S z n∧SO P S z n∧SB P S z n
 | 0=>⟨fun c s out s' h=>by simp [exec] at h,fun c s out s' h=>by simp [exec] at h,fun all l s out s' h=>by simp [exec] at h,fun f args s out s' h=>by simp [exec] at h⟩
 | n+1=>by
  obtain ⟨h1,h2,h3,h4⟩:=kD hB hS hmix hNG n
  have hL:=jly h1 h2
  exact ⟨jlx hB hS hmix h1 h3 hL,hL,jlv hB hS hNG h3 h4,jlw h1⟩
end
end Go.Lr

/- The local evaluator: the comparing of structs and arrays. -/
namespace Go.Lr
open Go.RowKit
section
variable {P:Program} {E:Env}
theorem QX {α:Type} (f:α→Option Bool×Unit→Sem (ForInStep (Option Bool×Unit))) (b:α→Bool) (w:World):∀(l:List α),
  (∀x∈l,(f x (none,())).run P w = .ok (if b x then .yield (none,()) else .done (some false,())) w)→
  (forIn l (none,()) f).run P w = .ok (if l.all b then (none,()) else (some false,())) w
 | [],_=>by simp
 | x::l,h=>by
  simp only [List.forIn_cons,Sem.run_bind,h x (by simp),Result.andThen_ok]
  cases hb:b x with
  | false=>simp [hb]
  | true=>
   simp only [if_true,List.all_cons,hb,Bool.true_and]
   exact QX f b w l fun y hy=>h y (by simp [hy])
def eqF (P:Program) (d:Nat) (xs ys:List At) (f:Field):Bool:=
 match xI P f.type xs f.offset,xI P f.type ys f.offset with
 | some a,some b=>(eqV P d f.type a b).getD false
 | _,_=>false
theorem JX {d:Nat} {xs ys:List At}:∀{fs:List Field} {r:Bool},JN P (eqV P d) fs xs ys=some r→
  r=fs.all (eqF P d xs ys)∧∀f∈fs,f.name≠ "_"∧∃a b,xI P f.type xs f.offset=some a∧xI P f.type ys f.offset=some b∧eqV P d f.type a b=some (eqF P d xs ys f)
 | [],r,h=>by simp only [JN] at h;cases h;simp
 | f::fs,r,h=>by
  simp only [JN] at h
  split at h
  ·cases h
  ·rename_i hn
   split at h
   ·rename_i a b ha hb
    split at h
    ·rename_i r1 rs h1 h2
     cases h
     obtain ⟨g1,g2⟩:=JX h2
     have he:eqF P d xs ys f=r1:=by simp [eqF,ha,hb,h1]
     refine ⟨by simp [he,g1],fun f' hf'=> ?_⟩
     rcases List.mem_cons.1 hf' with rfl | hf'
     ·exact ⟨by simpa using hn,a,b,ha,hb,by rw [he];exact h1⟩
     ·exact g2 f' hf'
    ·cases h
   ·cases h
def eqE (P:Program) (d:Nat) (e:TypeId) (s:Nat) (xs ys:List At) (i:Nat):Bool:=
 match xI P e xs (i*s),xI P e ys (i*s) with
 | some a,some b=>(eqV P d e a b).getD false
 | _,_=>false
theorem KQ {d s:Nat} {e:TypeId} {xs ys:List At}:∀{n i:Nat} {r:Bool},QB P (eqV P d) e s n i xs ys=some r→
  r=(List.range' i n).all (eqE P d e s xs ys)∧∀j∈List.range' i n,∃a b,xI P e xs (j*s)=some a∧xI P e ys (j*s)=some b∧eqV P d e a b=some (eqE P d e s xs ys j)
 | 0,i,r,h=>by simp only [QB] at h;cases h;simp
 | n+1,i,r,h=>by
  simp only [QB] at h
  split at h
  ·rename_i a b ha hb
   split at h
   ·rename_i r1 rs h1 h2
    cases h
    obtain ⟨g1,g2⟩:=KQ h2
    have he:eqE P d e s xs ys i=r1:=by simp [eqE,ha,hb,h1]
    rw [List.range'_succ]
    refine ⟨by simp [he,g1],fun j hj=> ?_⟩
    rcases List.mem_cons.1 hj with rfl | hj
    ·exact ⟨a,b,ha,hb,by rw [he];exact h1⟩
    ·exact g2 j hj
   ·cases h
  ·cases h
theorem YU (w:World):∀{d:Nat} {t:TypeId} {x y:V1} {b:Bool},eqV P d t x y=some b→(Op.equalIn d t (x.den E) (y.den E)).run P w = .ok b w
 | 0,t,x,y,b,h=>by simp [eqV] at h
 | d+1,t,x,y,b,h=>by
  unfold eqV at h
  unfold Op.equalIn
  split at h
  ·rename_i p q hu
   cases h
   simp [run_underlying hu,V1.den,At.den]
  ·rename_i k' k p k'' q hu
   split at h
   ·rename_i hk
    cases h
    have:=X7 hk
    subst this
    simp [run_underlying hu,V1.den,At.den]
   ·cases h
  ·rename_i fs xs ys hu
   split at h
   ·cases h
   ·rename_i hst
    obtain ⟨g1,g2⟩:=JX h
    simp only [Sem.run_bind,run_underlying hu,Result.andThen_ok,V1.den]
    have hprog:(program:Sem Program).run P w = .ok P w:=rfl
    simp only [hprog,Result.andThen_ok,hst,Bool.false_eq_true,if_false,Sem.run_bind]
    rw [←Array.forIn_toList,QX _ (eqF P d xs ys) w fs.toList (fun f hf=>by
     obtain ⟨hn,a,b',ha,hb,hab⟩:=g2 f hf
     have h1:=xF (E:=E) ha w
     have h2:=xF (E:=E) hb w
     have h3:=YU w hab
     simp only [ne_eq,hn,not_false_eq_true,if_true,Sem.run_bind,h1,Result.andThen_ok,h2,h3]
     cases eqF P d xs ys f <;> simp)]
    rw [g1]
    cases fs.toList.all (eqF P d xs ys) <;> simp
  ·rename_i n e xs ys hu
   split at h
   ·rename_i s hs
    obtain ⟨g1,g2⟩:=KQ h
    simp only [Sem.run_bind,run_underlying hu,Result.andThen_ok,V1.den,jQ hs]
    rw [Std.Legacy.Range.forIn_eq_forIn_range',QX _ (eqE P d e s xs ys) w _ (fun j hj=>by
     obtain ⟨a,b',ha,hb,hab⟩:=g2 j (by simpa [Std.Legacy.Range.size] using hj)
     have h1:=xF (E:=E) ha w
     have h2:=xF (E:=E) hb w
     have h3:=YU w hab
     simp only [Sem.run_bind,h1,Result.andThen_ok,h2,h3]
     cases eqE P d e s xs ys j <;> simp)]
    rw [g1]
    simp only [Std.Legacy.Range.size,Nat.sub_zero,Nat.add_one_sub_one,Nat.div_one,Result.andThen_ok]
    cases (List.range' 0 n).all (eqE P d e s xs ys) <;> simp
   ·cases h
  ·rename_i hu
   cases h
   simp [run_underlying hu,V1.den,At.den]
  ·rename_i hu
   cases h
   simp [run_underlying hu,V1.den,At.den]
  ·rename_i hu
   cases h
   simp [run_underlying hu,V1.den,At.den]
  ·rename_i hu
   cases h
   simp [run_underlying hu,V1.den,At.den]
  ·rename_i hu
   cases h
   simp [run_underlying hu,V1.den,At.den]
  ·rename_i hu
   cases h
   simp [run_underlying hu,V1.den,At.den]
  ·rename_i hu
   cases h
   simp [run_underlying hu,V1.den,At.den]
  ·cases h
theorem intOf?_spec {x:LV} {k:IntKind} {n:Int} (h:intOf? x=some (k,n)):x = .v (.one (.int k n)):=by
 unfold intOf? at h
 split at h
 ·cases h;rfl
 ·cases h
theorem QY {d:Nat} {t:TypeId} {x y:V1} {b:Bool} (h:eqV P d t x y=some b):
  (∃p q,x = .one (.bool p)∧y = .one (.bool q))∨(∃k p l q,x = .one (.int k p)∧y = .one (.int l q))∨(∃p q,x = .agg p∧y = .agg q)∨(∀E,(∃p q,x.den E = .pointer p∧y.den E = .pointer q)∨∃p n c q m d,x.den E = .slice p n c∧y.den E = .slice q m d):=by
 cases d with
 | zero=>simp [eqV] at h
 | succ d=>
  unfold eqV at h
  split at h
  ·exact .inl ⟨_,_,rfl,rfl⟩
  ·exact .inr (.inl ⟨_,_,_,_,rfl,rfl⟩)
  ·exact .inr (.inr (.inl ⟨_,_,rfl,rfl⟩))
  ·exact .inr (.inr (.inl ⟨_,_,rfl,rfl⟩))
  ·exact .inr (.inr (.inr fun E=> .inl ⟨_,_,rfl,rfl⟩))
  ·exact .inr (.inr (.inr fun E=> .inl ⟨_,_,rfl,rfl⟩))
  ·exact .inr (.inr (.inr fun E=> .inl ⟨_,_,rfl,rfl⟩))
  ·exact .inr (.inr (.inr fun E=> .inr ⟨_,_,_,_,_,_,rfl,rfl⟩))
  ·exact .inr (.inr (.inr fun E=> .inr ⟨_,_,_,_,_,_,rfl,rfl⟩))
  ·exact .inr (.inr (.inr fun E=> .inr ⟨_,_,_,_,_,_,rfl,rfl⟩))
  ·exact .inr (.inr (.inr fun E=> .inr ⟨_,_,_,_,_,_,rfl,rfl⟩))
  ·cases h
theorem QZ (P:Program):Y6 P:=by
 intro E w a op t x y xo yo kn d hx hy h
 unfold jot at h
 split at h
 ·rename_i k p hp
  have hxe:=intOf?_spec hp
  split at h
  ·rename_i l q hq
   have hye:=intOf?_spec hq
   subst hxe hye
   have hpur:=jdu (P:=P) (E:=E) (w:=w) t h
   refine ⟨hpur.wr,hpur.nw,fun hc=> ?_⟩
   have:=hpur.run hc
   simp only [LV.den,V1.den,At.den,Sem.run_bind]
   have hg:(eqGuard op t xo yo (.int k p) (.int l q)).run P w = .ok () w:=by
    unfold eqGuard
    cases op <;> simp
   rw [hg]
   exact this
  ·cases h
 ·rename_i hni
  split at h
  ·rename_i u hu
   split at h
   ·rename_i v hv
    have hxe:x = .v u:=by
     unfold v1Of? at hu
     split at hu
     ·cases hu;rfl
     ·cases hu
    have hye:y = .v v:=by
     unfold v1Of? at hv
     split at hv
     ·cases hv;rfl
     ·cases hv
    subst hxe hye
    have key:∀(r:Bool),P.eqGuardType P.depth t=false→eqV P 10000 t u v=some r→(op = .eql∨op = .neq)→
      (eqGuard op t xo yo (u.den E) (v.den E)).run P w = .ok () w∧(Op.equal t (u.den E) (v.den E)).run P w = .ok r w:=by
     intro r hg hr hop
     refine ⟨?_,YU w hr⟩
     unfold eqGuard
     rcases QY hr with ⟨p,q,rfl,rfl⟩ | ⟨k,p,l,q,rfl,rfl⟩ | ⟨p,q,rfl,rfl⟩ | hptr
     ·rcases hop with rfl | rfl <;> simp [V1.den,At.den]
     ·rcases hop with rfl | rfl <;> simp [V1.den,At.den]
     ·have hprog:(program:Sem Program).run P w = .ok P w:=rfl
      rcases hop with rfl | rfl <;> simp [V1.den,hprog,hg]
     ·rcases hptr E with ⟨p,q,e1,e2⟩ | ⟨p,n,c,q,m,d,e1,e2⟩
      ·rw [e1,e2]
       rcases hop with rfl | rfl <;> simp
      ·rw [e1,e2]
       rcases hop with rfl | rfl <;> simp
    unfold jkq at h
    split at h
    ·split at h
     ·rename_i r hg hr
      refine jX h ?_
      obtain ⟨h1,h2⟩:=key r hg hr (.inl rfl)
      simp only [LV.den,Sem.run_bind,h1,Result.andThen_ok]
      rcases QY hr with ⟨p,q,rfl,rfl⟩ | ⟨k,p,l,q,rfl,rfl⟩ | ⟨p,q,rfl,rfl⟩ | hptr
      ·simp only [V1.den,At.den] at h2 ⊢
       simp only [binOp,Sem.run_bind,h2,Result.andThen_ok,Sem.run_pure]
      ·simp [intOf?] at hni
      ·simp only [V1.den] at h2 ⊢
       simp only [binOp,Sem.run_bind,h2,Result.andThen_ok,Sem.run_pure]
       rfl
      ·rcases hptr E with ⟨p,q,e1,e2⟩ | ⟨p,n,c,q,m,d,e1,e2⟩
       ·simp only [e1,e2] at h2 ⊢
        simp only [binOp,Sem.run_bind,h2,Result.andThen_ok,Sem.run_pure]
        rfl
       ·simp only [e1,e2] at h2 ⊢
        simp only [binOp,Sem.run_bind,h2,Result.andThen_ok,Sem.run_pure]
        rfl
     ·cases h
    ·split at h
     ·rename_i r hg hr
      refine jX h ?_
      obtain ⟨h1,h2⟩:=key r hg hr (.inr rfl)
      simp only [LV.den,Sem.run_bind,h1,Result.andThen_ok]
      rcases QY hr with ⟨p,q,rfl,rfl⟩ | ⟨k,p,l,q,rfl,rfl⟩ | ⟨p,q,rfl,rfl⟩ | hptr
      ·simp only [V1.den,At.den] at h2 ⊢
       simp only [binOp,Sem.run_bind,h2,Result.andThen_ok,Sem.run_pure]
      ·simp [intOf?] at hni
      ·simp only [V1.den] at h2 ⊢
       simp only [binOp,Sem.run_bind,h2,Result.andThen_ok,Sem.run_pure]
       rfl
      ·rcases hptr E with ⟨p,q,e1,e2⟩ | ⟨p,n,c,q,m,d,e1,e2⟩
       ·simp only [e1,e2] at h2 ⊢
        simp only [binOp,Sem.run_bind,h2,Result.andThen_ok,Sem.run_pure]
        rfl
       ·simp only [e1,e2] at h2 ⊢
        simp only [binOp,Sem.run_bind,h2,Result.andThen_ok,Sem.run_pure]
        rfl
     ·cases h
    ·cases h
   ·cases h
  ·cases h
end
end Go.Lr

/- The local evaluator: from a run to what a call does; summaries. -/
set_option linter.unusedVariables false
set_option linter.unusedSimpArgs false
namespace Go.Lr
open Go.RowKit
def E0:Env:=fun _=>Loc.at 0 0
def noP:Nat→Bool:=fun _=>false
theorem km {E:Env} {v:LV} (h:v.ok noP=true):v.den E=v.den E0:=LV.den_congr (p:=noP) (fun i hi=>by cases hi) h
theorem j9 {E:Env} {l:List LV} (h:∀v∈l,v.ok noP=true):l.map (LV.den E)=l.map (LV.den E0):=List.map_congr_left fun v hv=>km (h v hv)
theorem qx {E:Env} {l:List At} (h:okL noP l=true):l.map (At.den E)=l.map (At.den E0):=kk (p:=noP) (fun i hi=>by cases hi) h
theorem jm {n:Nat}:∀i,noP i=true→below n i=true:=fun i hi=>by cases hi
structure Sound (P:Program) (S:FuncId→Option SumK):Prop where
 sums:AllOK P S
 mix:P.follows .mixedOrders=true
 ng:∀(f:FuncId) (fn:Func),P.funcs[f]? = some fn→fn.name≠ "runtime.NumGoroutine"
def ke (l:List LV):Bool:=
 match l with
 | []=>true
 | v::l=>match v.ok noP with
  | true=>ke l
  | false=>false
theorem plainVs_iff:∀{l:List LV},ke l=true↔∀v∈l,v.ok noP=true
 | []=>by simp [ke]
 | v::l=>by
  simp only [ke,List.mem_cons,forall_eq_or_imp]
  cases h:v.ok noP <;> simp [plainVs_iff (l:=l)]
section
variable {P:Program} {S:FuncId→Option SumK} {z:Md}
theorem zA {n:Nat} {f:FuncId} {args:List LV} {m:Mem} {nb:Nat} {dec:List (Option Bool)} {v:LV} {m':Mem} {nb':Nat} {cs:List (Bool×Bool)} (h:jR P S z n f args m nb dec=some (v,m',nb',cs)):
  ∃s',exec P S z n (.body f args) ⟨.nil,0,m,nb,dec,[],[]⟩=some (.val v,s')∧s'.mem=m'∧s'.nb=nb'∧s'.cs=cs:=by
 unfold jR at h
 split at h
 ·rename_i u s hs
  cases h
  exact ⟨s,hs,rfl,rfl,rfl⟩
 ·cases h
theorem KS (hs:Sound P S) {n:Nat} {f:FuncId} {args:List LV} {dec:List (Option Bool)} {v:LV} {m':Mem} {nb':Nat} {cs:List (Bool×Bool)} (h:jR P S z n f args [] 0 dec=some (v,m',nb',cs))
  (hc:∀c∈cs,c.1=c.2) (ha:ke args=true) (hv:v.ok noP=true) (w:World):
  Calls P f (args.map (LV.den E0)).toArray w fun e w'=>e = .returned (v.den E0)∧Below w.heap.size w w':=by
 obtain ⟨s',h1,h2,h3,h4⟩:=zA h
 have ha':=plainVs_iff.1 ha
 obtain ⟨v',b1,b2,b3,b4,b5,b6,b7,b8⟩:=(kD (QZ P) hs.sums hs.mix hs.ng n).2.2.2 f args _ _ s' h1 (fun i b hb=>by simp [getM] at hb) trivial (fun u hu=>LV.ok_mono jm (ha' u hu))
 cases b1
 have:=b8 (by rw [Good,h4];exact hc) E0 w ⟨⟨fun i b hb=>by simp [getM] at hb,fun i j hi=>by simp [getM] at hi⟩,fun i b hb=>by simp [getM] at hb,trivial⟩
 refine this.mono fun e w' he=> ?_
 obtain ⟨E',rfl,_,hx⟩:=he
 refine ⟨by rw [km hv],hx.os,hx.tape,hx.output,hx.size,fun k hk=>hx.frame k hk fun i hi=>by simp [getM] at hi⟩
def Own (P:Program) (f:FuncId):Prop:=∃fn,P.funcs[f]? = some fn∧fn.name≠ "runtime.NumGoroutine"∧fn.body.isSome
theorem jg (hs:Sound P S) {f:FuncId} {fn:Func} (h:P.funcs[f]? = some fn) (hb:fn.body.isSome=true):Own P f:=⟨fn,h,hs.ng f fn h,hb⟩
theorem X5 {w w':World} {E:Env} {g:Nat→Option Blk} {nb:Nat} {v:LV} {cs:List (Bool×Bool)} (hr:Rel E g w) (hb:Below w.heap.size w w'):Post w E g nb ⟨v,[],[],[],cs⟩ E w':=by
 refine ⟨fun _ _=>rfl,⟨fun i b h=> ?_,hr.inj⟩,hb.os,hb.tape,hb.output,hb.size,fun k hk _=>hb.block k hk,fun i h1 h2=>by simp at h2;omega⟩
 obtain ⟨r,h1,h2,h3⟩:=hr.blk i b h
 exact ⟨r,by rw [hb.block _ (Array.getElem?_eq_some_iff.1 h1).1];exact h1,h2,h3⟩
def jp (F:List LV→Option (LV×List (Bool×Bool))):Sum:=fun args=>
 match ke args with
 | true=>match F args with
  | some (v,cs)=>match v.ok noP with
   | true=>some ⟨[],[],fun _ _ _=>some ⟨v,[],[],cs⟩⟩
   | false=>none
  | none=>none
 | false=>none
theorem xD {f:FuncId} {F:List LV→Option (LV×List (Bool×Bool))}
  (h:∀args v cs,F args=some (v,cs)→(∀c∈cs,c.1=c.2)→∀w,CallOK P f (args.map (LV.den E0)).toArray w fun u w'=>u=v.den E0∧Below w.heap.size w w'):SumOK P f (jp F):=by
 intro args t g nb p rdB wrB ans ws E w hs hr hw _ hgo hz hc hrel hg hargs hn
 unfold jp at hs
 split at hs
 ·rename_i hp
  split at hs
  ·rename_i v cs hF
   split at hs
   ·rename_i hv
    cases hs
    simp only [Option.some.injEq] at hgo
    subst hgo
    simp only [Xm] at hz
    cases hz
    rw [j9 (plainVs_iff.1 hp)]
    refine (h args v cs hF hc w).imp (fun ⟨fn,h1,h2,h3,h4⟩=>⟨fn,h1,h2,h3,h4.mono ?_⟩) (fun ⟨u,w',h1,h2⟩=>⟨u,w',h1,E, ?_,X5 hrel h2.2⟩)
    ·rintro e w' ⟨u,rfl,rfl,hb⟩
     exact ⟨_,rfl,E,(km hv).symm,X5 hrel hb⟩
    ·rw [h2.1];exact (km hv).symm
   ·cases hs
  ·cases hs
 ·cases hs
theorem qb {f:FuncId} {args:Array Value} {w:World} {v:Value} {B:World→World→Prop} (ho:Own P f) (h:Calls P f args w fun e w'=>e = .returned v∧B w w'):CallOK P f args w fun u w'=>u=v∧B w w':=by
 obtain ⟨fn,h1,h2,h3⟩:=ho
 exact .inl ⟨fn,h1,h2,h3,h.mono fun e w' he=>⟨v,he.1,rfl,he.2⟩⟩
structure Turned (b:Nat) (o:Obj) (w w':World):Prop where
 os:w'.os=w.os
 tape:w'.tape=w.tape
 output:w'.output=w.output
 size:w.heap.size≤w'.heap.size
 this:w'.heap[b]? = some o
 block:∀k,k<w.heap.size→k≠b→w'.heap[k]? = w.heap[k]?
def flag (ty:TypeId) (h:Bool):Blk:=⟨ty,(0,0),0,[.bool h]⟩
def JY (L:Loc) (ty:TypeId) (h:Bool):Obj:= .cells (L.pre++[Value.bool h]++[]++L.suf).toArray (L.ty.getD ty) (0,0)
abbrev Loc.ptr (L:Loc):Value:= .pointer (some ⟨L.blk,L.pre.length,none⟩)
theorem X6 (hs:Sound P S) {n:Nat} {f:FuncId} {args:List LV} {dec:List (Option Bool)} {v:LV} {m':Mem} {nb':Nat} {cs:List (Bool×Bool)} {ty:TypeId} {h h':Bool}
  (hrun:jR P S z n f (.v (.one (.ptr 0 0))::args) [(0,flag ty h)] 1 dec=some (v,m',nb',cs)) (hm:getM m' 0=some (flag ty h')) (hc:∀c∈cs,c.1=c.2) (ha:ke args=true) (hv:v.ok noP=true)
  (w:World) (L:Loc) (hb:w.heap[L.blk]? = some (JY L ty h)):
  Calls P f (L.ptr::args.map (LV.den E0)).toArray w fun e w'=>e = .returned (v.den E0)∧Turned L.blk (JY L ty h') w w':=by
 obtain ⟨s',h1,h2,h3,h4⟩:=zA hrun
 have ha':=plainVs_iff.1 ha
 have hget:∀i c,getM [(0,flag ty h)] i=some c→i=0∧c=flag ty h:=by
  intro i c hc
  rw [jz] at hc
  by_cases hi:i=0
  ·rw [if_pos hi] at hc;cases hc;exact ⟨hi,rfl⟩
  ·rw [if_neg hi] at hc;simp [getM] at hc
 obtain ⟨v',b1,b2,b3,b4,b5,b6,b7,b8⟩:=(kD (QZ P) hs.sums hs.mix hs.ng n).2.2.2 f (.v (.one (.ptr 0 0))::args) _ _ s' h1 (fun i c hc=>by
  obtain ⟨rfl,rfl⟩:=hget i c hc
  exact ⟨Nat.zero_lt_one,rfl⟩) ⟨rfl,trivial⟩ (fun u hu=>by
  rcases List.mem_cons.1 hu with rfl | hu
  ·rfl
  ·exact LV.ok_mono jm (ha' u hu))
 cases b1
 have hmr:MRel (fun _=>L) ⟨.nil,0,[(0,flag ty h)],1,dec,[],[]⟩ w:=by
  refine ⟨⟨fun i c hc=> ?_,fun i j hi hj _=> ?_⟩,fun i c hc=> ?_,⟨rfl,trivial⟩⟩
  ·obtain ⟨rfl,rfl⟩:=hget i c hc
   exact ⟨[],hb,fun _=>rfl,fun hne=>absurd rfl hne⟩
  ·obtain ⟨c,hc⟩:=Option.isSome_iff_exists.1 hi
   obtain ⟨d,hd⟩:=Option.isSome_iff_exists.1 hj
   rw [(hget i c hc).1,(hget j d hd).1]
  ·obtain ⟨rfl,rfl⟩:=hget i c hc
   exact ⟨Nat.zero_lt_one,rfl⟩
 have:=b8 (by rw [Good,h4];exact hc) (fun _=>L) w hmr
 have hargs:((LV.v (V1.one (At.ptr 0 0)))::args).map (LV.den fun _=>L)=L.ptr::args.map (LV.den E0):=by
  rw [List.map_cons,j9 ha']
  simp [LV.den,V1.den,At.den]
 rw [hargs] at this
 refine this.mono fun e w' he=> ?_
 obtain ⟨E',rfl,hmr',hx⟩:=he
 refine ⟨by rw [km hv],hx.os,hx.tape,hx.output,hx.size, ?_,fun k hk hne=>hx.frame k hk fun i hi he=> ?_⟩
 ·obtain ⟨r,g1,g2,_⟩:=hmr'.rel.blk 0 (flag ty h') (by rw [h2];exact hm)
  rw [hx.agree 0 (by show 0<1;omega)] at g1
  rw [g1,g2 rfl]
  rfl
 ·exact hne he.symm
def qD (L:Loc) (E:Env) (t:TypeId) (l:List At) (r:List Value) (o:Nat):Loc:=⟨L.blk,0,L.pre++(l.take o).map (At.den E),(l.drop (o+1)).map (At.den E)++r++L.suf,some (L.ty.getD t)⟩
theorem xE {L:Loc} {E:Env} {t:TypeId} {l:List At} {r:List Value} {o:Nat} (ty:TypeId) {h:Bool} (hl:o<l.length):
  JY (qD L E t l r o) ty h = .cells (L.pre++(l.set o (.bool h)).map (At.den E)++r++L.suf).toArray (L.ty.getD t) (0,0):=by
 unfold JY qD
 have e:l.set o (.bool h)=l.take o++ .bool h::l.drop (o+1):=by rw [List.set_eq_take_append_cons_drop,if_pos hl]
 rw [e]
 simp [At.den]
theorem YV {l:List At} {o:Nat} {x:At} (h:atL l o=some x):l.set o x=l:=by
 rw [z4] at h
 obtain ⟨hl,he⟩:=List.getElem?_eq_some_iff.1 h
 rw [←he];exact List.set_getElem_self hl
theorem Q2 {w w':World} {E:Env} {g:Nat→Option Blk} {nb c o:Nat} {v:LV} {t ty:TypeId} {es:Nat} {l:List At} {r:List Value} {h':Bool} (hr:Rel E g w) (hc:g c=some ⟨t,(0,0),es,l⟩) (ho:o<l.length)
  (hr1:es=0→r=[]) (hr2:es≠0→l.length+r.length=(E c).2*es) (ht:Turned (E c).1 (JY (qD (E c) E t l r o) ty h') w w'):
  Post w E g nb ⟨v,[(c,some ⟨t,(0,0),es,l.set o (.bool h')⟩)],[],[],[]⟩ E w':=by
 refine ⟨fun _ _=>rfl,⟨fun i b hb=> ?_,fun i j hi hj he=> ?_⟩,ht.os,ht.tape,ht.output,ht.size,fun k hk hne=>ht.block k hk (fun e=>hne c (by simp [hc]) e.symm),fun i h1 h2=>by simp at h2;omega⟩
 ·simp only [nwG,wrG] at hb
  by_cases hi:i=c
  ·subst hi
   rw [if_pos rfl] at hb
   cases hb
   refine ⟨r, ?_,hr1,fun hne=> ?_⟩
   ·rw [ht.this,xE ty ho]
   ·show (l.set o _).length+_=_
    rw [List.length_set];exact hr2 hne
  ·rw [if_neg hi] at hb
   obtain ⟨r,h1,h2,h3⟩:=hr.blk i b hb
   refine ⟨r, ?_,h2,h3⟩
   rw [ht.block _ (Array.getElem?_eq_some_iff.1 h1).1 (fun e=>hi (hr.inj i c (by simp [hb]) (by simp [hc]) e))]
   exact h1
 ·simp only [nwG,wrG] at hi hj
  refine hr.inj i j ?_ ?_ he
  ·by_cases h1:i=c
   ·rw [h1];simp [hc]
   ·simpa [if_neg h1] using hi
  ·by_cases h1:j=c
   ·rw [h1];simp [hc]
   ·simpa [if_neg h1] using hj
def jv (ty:TypeId) (F:List LV→Bool→Option (LV×Bool×List (Bool×Bool))):Sum:=fun args=>
 match args with
 | .v (.one (.ptr c o))::rest=>match ke rest with
  | true=>some ⟨[],[c],fun _ wB _=>match wB with
   | [⟨t,(0,0),es,l⟩]=>match atL l o with
    | some (.bool h)=>match F rest h with
     | some (v,h',cs)=>match v.ok noP with
      | true=>some ⟨v,[⟨t,(0,0),es,l.set o (.bool h')⟩],[],cs⟩
      | false=>none
     | none=>none
    | _=>none
   | _=>none⟩
  | false=>none
 | _=>none
theorem JZ {f:FuncId} {ty:TypeId} {F:List LV→Bool→Option (LV×Bool×List (Bool×Bool))}
  (h:∀args hb v h' cs,F args hb=some (v,h',cs)→(∀c∈cs,c.1=c.2)→ke args=true→∀(w:World) (L:Loc),w.heap[L.blk]? = some (JY L ty hb)→
   CallOK P f (L.ptr::args.map (LV.den E0)).toArray w fun u w'=>u=v.den E0∧Turned L.blk (JY L ty h') w w'):SumOK P f (jv ty F):=by
 intro args t g nb p rdB wrB ans ws E w hs hr hw _ hgo hz hc hrel hg hargs hn
 unfold jv at hs
 split at hs
 ·rename_i c o rest
  split at hs
  ·rename_i hp
   cases hs
   simp only at hgo hw
   split at hgo
   ·rename_i t' es l
    split at hgo
    ·rename_i hb hat
     split at hgo
     ·rename_i v h' cs hF
      split at hgo
      ·rename_i hv
       cases hgo
       simp only [jE] at hw
       split at hw
       ·rename_i k r hk hr'
        cases hr'
        cases hw
        simp only [Xm] at hz
        cases hz
        obtain ⟨r',g1,g2,g3⟩:=hrel.blk c _ hk
        have hlt:o<l.length:=jaa hat
        have hcell:w.heap[(qD (E c) E t' l r' o).blk]? = some (JY (qD (E c) E t' l r' o) ty hb):=by
         rw [xE ty hlt,YV hat];exact g1
        have hargs':((LV.v (V1.one (At.ptr c o)))::rest).map (LV.den E)=(qD (E c) E t' l r' o).ptr::rest.map (LV.den E0):=by
         rw [List.map_cons,j9 (plainVs_iff.1 hp)]
         have e:(qD (E c) E t' l r' o).pre.length=o+(E c).pre.length:=by
          unfold qD;simp;omega
         show _=Value.pointer (some ⟨(E c).blk,(qD (E c) E t' l r' o).pre.length,none⟩)::_
         rw [e];rfl
        rw [hargs']
        refine (h rest hb v h' cs hF hc hp w (qD (E c) E t' l r' o) hcell).imp (fun ⟨fn,h1,h2,h3,h4⟩=>⟨fn,h1,h2,h3,h4.mono ?_⟩) (fun ⟨u,w',h1,h2⟩=>⟨u,w',h1,E, ?_,Q2 hrel hk hlt g2 g3 h2.2⟩)
        ·rintro e w' ⟨u,rfl,rfl,ht⟩
         exact ⟨_,rfl,E,(km hv).symm,Q2 hrel hk hlt g2 g3 ht⟩
        ·rw [h2.1];exact (km hv).symm
       ·cases hw
      ·cases hgo
     ·cases hgo
    ·cases hgo
   ·cases hgo
  ·cases hs
 ·cases hs
def jvz:List LV→Option (LV×List (Bool×Bool))
 | [.v (.one (.int .u64 x)),.v (.one (.int .u64 y)),.v (.one (.int .u64 c))]=>
  some (.tup [.one (.int .u64 (u64 (x+y+c))),.one (.int .u64 ((x+y+c)/18446744073709551616))],[(decide (0≤x)&&(decide (0≤y)&&(decide (0≤c)&&decide (c≤1))),true)])
 | _=>none
def J0 (x y c:Int):Int:=if x<y+c then 1 else 0
def jvA:List LV→Option (LV×List (Bool×Bool))
 | [.v (.one (.int .u64 x)),.v (.one (.int .u64 y)),.v (.one (.int .u64 c))]=>
  some (.tup [.one (.int .u64 (u64 (x - y - c))),.one (.int .u64 (J0 x y c))],[(decide (0≤x)&&(decide (0≤y)&&(decide (y<18446744073709551616)&&(decide (0≤c)&&decide (c≤1)))),true)])
 | _=>none
theorem jia {f:FuncId} {fn:Func} (hf:P.funcs[f]? = some fn) (hname:(fn.name == "runtime.NumGoroutine")=false) (hb:fn.body.isNone=true) (hn:Extern.findNext fn=none) (he:Extern.find fn=some add64Entry):SumOK P f (jp jvz):=by
 refine xD fun args v cs hF hc w=> .inr ?_
 unfold jvz at hF
 split at hF
 ·rename_i x y c
  cases hF
  have hx:=hc _ (List.mem_singleton.2 rfl)
  simp only [Bool.and_eq_true,decide_eq_true_eq] at hx
  obtain ⟨h1,h2,h3,h4⟩:=hx
  refine ⟨_,w, ?_,rfl,.refl _ _⟩
  have:([LV.v (V1.one (At.int .u64 x)),.v (.one (.int .u64 y)),.v (.one (.int .u64 c))].map (LV.den E0)).toArray = #[.int .u64 x,.int .u64 y,.int .u64 c]:=rfl
  rw [this,run_callFunc_extern hf hname hb hn he,run_add64 x y c h1 h2 h3 h4]
  rfl
 ·cases hF
def jjF:Array Value→Sem Value:=fun args=>do
 let (x,y,b) ←Extern.MathBitsCarry.three "Sub64" args
 pure (Extern.MathBitsCarry.pair ((x+Extern.MathBitsCarry.m64 - y - b)%Extern.MathBitsCarry.m64) (if x<y+b then 1 else 0))
theorem jdr (x y b:Nat) (hb:b≤1) (w:World):
  (jjF #[.int .u64 x,.int .u64 y,.int .u64 b]).run P w =
   .ok (.tuple #[.int .u64 (((x+18446744073709551616 - y - b)%18446744073709551616:Nat):Int),.int .u64 ((if x<y+b then 1 else 0:Nat):Int)]) w:=by
 have:b=0∨b=1:=by omega
 rcases this with rfl | rfl <;> rfl
theorem jib {f:FuncId} {fn:Func} (hf:P.funcs[f]? = some fn) (hname:(fn.name == "runtime.NumGoroutine")=false) (hb:fn.body.isNone=true) (hn:Extern.findNext fn=none) (he:Extern.find fn=some jjF):SumOK P f (jp jvA):=by
 refine xD fun args v cs hF hc w=> .inr ?_
 unfold jvA at hF
 split at hF
 ·rename_i x y c
  cases hF
  have hx:=hc _ (List.mem_singleton.2 rfl)
  simp only [Bool.and_eq_true,decide_eq_true_eq] at hx
  obtain ⟨h1,h2,h2',h3,h4⟩:=hx
  obtain ⟨X,rfl⟩:=Int.eq_ofNat_of_zero_le h1
  obtain ⟨Y,rfl⟩:=Int.eq_ofNat_of_zero_le h2
  obtain ⟨C,rfl⟩:=Int.eq_ofNat_of_zero_le h3
  refine ⟨_,w, ?_,rfl,.refl _ _⟩
  have:([LV.v (V1.one (At.int .u64 (X:Int))),.v (.one (.int .u64 (Y:Int))),.v (.one (.int .u64 (C:Int)))].map (LV.den E0)).toArray = #[.int .u64 (X:Int),.int .u64 (Y:Int),.int .u64 (C:Int)]:=rfl
  rw [this,run_callFunc_extern hf hname hb hn he,jdr X Y C (by omega)]
  have e1:(((X+18446744073709551616 - Y - C)%18446744073709551616:Nat):Int)=u64 ((X:Int) - Y - C):=by unfold u64;omega
  have e2:((if X<Y+C then 1 else 0:Nat):Int)=if (X:Int)<(Y:Int)+(C:Int) then 1 else 0:=by
   by_cases h:X<Y+C
   ·rw [if_pos h,if_pos (by omega)];rfl
   ·rw [if_neg h,if_neg (by omega)];rfl
  rw [e1,e2]
  rfl
 ·cases hF
end
end Go.Lr

/- The local evaluator: summaries that the evaluator makes itself. -/
namespace Go.Lr
open Go.RowKit
section
variable {P:Program} {S:FuncId→Option SumK} {z:Md}
def yq (P:Program) (S:FuncId→Option SumK) (z:Md) (n:Nat) (f:FuncId):Sum:=jp fun args=>
 match jR P S z n f args [] 0 [] with
 | some (v,_,_,cs)=>some (v,cs)
 | none=>none
theorem xN {f:FuncId} {F:List LV→Option (LV×List (Bool×Bool))}
  (h:∀args v cs,F args=some (v,cs)→(∀c∈cs,c.1=c.2)→ke args=true→v.ok noP=true→∀w,CallOK P f (args.map (LV.den E0)).toArray w fun u w'=>u=v.den E0∧Below w.heap.size w w'):SumOK P f (jp F):=by
 intro args t g nb p rdB wrB ans ws E w hs hr hw hnd hgo hz hc hrel hg hargs hn
 refine xD (F:=fun a=>if ke a=true then (match F a with | some (v,cs)=>if v.ok noP=true then some (v,cs) else none | none=>none) else none) (fun args v cs hF hc w=> ?_) args t g nb p rdB wrB ans ws E w ?_ hr hw hnd hgo hz hc hrel hg hargs hn
 ·split at hF
  ·rename_i hp
   split at hF
   ·rename_i v' cs' hF'
    split at hF
    ·rename_i hv
     cases hF
     exact h args v cs hF' hc hp hv w
    ·cases hF
   ·cases hF
  ·cases hF
 ·unfold jp at hs ⊢
  cases hp:ke args with
  | false=>rw [hp] at hs;cases hs
  | true=>
   rw [hp] at hs
   simp only [hp,if_true] at hs ⊢
   cases hF:F args with
   | none=>rw [hF] at hs;cases hs
   | some q=>
    obtain ⟨v,cs⟩:=q
    rw [hF] at hs
    simp only at hs ⊢
    cases hv:v.ok noP with
    | false=>rw [hv] at hs;cases hs
    | true=>
     rw [hv] at hs
     simp only [if_true,hv]
     exact hs
theorem kv (hs:Sound P S) {n:Nat} {f:FuncId} (ho:Own P f):SumOK P f (yq P S z n f):=by
 refine xN fun args v cs hF hc hp hv w=> ?_
 split at hF
 ·rename_i v' m' nb' cs' hrun
  cases hF
  exact qb ho (KS hs hrun hc hp hv w)
 ·cases hF
def jlz:LV→Option (Nat×LV)
 | .v (.one (.ptr b o))=>some (b,.v (.one (.ptr 0 o)))
 | .v (.one (.sl b o n c))=>some (b,.v (.one (.sl 0 o n c)))
 | _=>none
theorem jds {x y:LV} {b:Nat} (h:jlz x=some (b,y)) (E:Env):x.den E=y.den (fun _=>E b)∧y.ok (below 1)=true∧∀E',y.den E'=y.den fun _=>E' 0:=by
 unfold jlz at h
 split at h <;> first | (cases h;exact ⟨rfl,rfl,fun _=>rfl⟩) | cases h
def xj (P:Program) (S:FuncId→Option SumK) (z:Md) (n:Nat) (f:FuncId):Sum:=fun args=>
 match args with
 | x::rest=>match jlz x,ke rest with
  | some (b,y),true=>some ⟨[],[b],fun _ wB _=>match wB with
   | [k]=>match okL noP k.cells with
    | true=>match jR P S z n f (y::rest) [(0,k)] 1 [] with
     | some (v,m',_,cs)=>match getM m' 0 with
      | some k'=>match Nat.beq k'.es k.es,okL noP k'.cells,v.ok noP with
       | true,true,true=>some ⟨v,[k'],[],cs⟩
       | _,_,_=>none
      | none=>none
     | none=>none
    | false=>none
   | _=>none⟩
  | _,_=>none
 | []=>none
theorem kh (hs:Sound P S) {n:Nat} {f:FuncId} (ho:Own P f):SumOK P f (xj P S z n f):=by
 intro args t g nb p rdB wrB ans ws E w hs' hr hw _ hgo hz hc hrel hg hargs hn
 unfold xj at hs'
 split at hs'
 ·rename_i x rest
  split at hs'
  ·rename_i b y href hp
   cases hs'
   simp only at hgo hw
   split at hgo
   ·rename_i k
    split at hgo
    ·rename_i hk
     split at hgo
     ·rename_i v m' nb' cs hrun
      split at hgo
      ·rename_i k' hk'
       split at hgo
       ·rename_i hes hok' hv
        cases hgo
        simp only [jE] at hw
        split at hw
        ·rename_i q r hq hr'
         cases hr'
         cases hw
         simp only [Xm] at hz
         cases hz
         rw [xi] at hes
         have hes':k'.es=k.es:=by simpa using hes
         obtain ⟨r1,r2,r3⟩:=jds href E
         have hp':=plainVs_iff.1 hp
         obtain ⟨s',h1,h2,h3,h4⟩:=zA hrun
         have hget:∀i c,getM [(0,k)] i=some c→i=0∧c=k:=by
          intro i c hc
          rw [jz] at hc
          by_cases hi:i=0
          ·rw [if_pos hi] at hc;cases hc;exact ⟨hi,rfl⟩
          ·rw [if_neg hi] at hc;simp [getM] at hc
         obtain ⟨v',b1,b2,b3,b4,b5,b6,b7,b8⟩:=(kD (QZ P) hs.sums hs.mix hs.ng n).2.2.2 f (y::rest) _ _ s' h1 (fun i c hc=>by
          obtain ⟨rfl,rfl⟩:=hget i c hc
          exact ⟨Nat.zero_lt_one,jn jm hk⟩) ⟨rfl,trivial⟩ (fun u hu=>by
          rcases List.mem_cons.1 hu with rfl | hu
          ·exact r2
          ·exact LV.ok_mono jm (hp' u hu))
         cases b1
         obtain ⟨r0,g1,g2,g3⟩:=hrel.blk b k hq
         have hmr:MRel (fun _=>E b) ⟨.nil,0,[(0,k)],1,[],[],[]⟩ w:=by
          refine ⟨⟨fun i c hc=> ?_,fun i j hi hj _=> ?_⟩,fun i c hc=> ?_,⟨rfl,trivial⟩⟩
          ·obtain ⟨rfl,rfl⟩:=hget i c hc
           exact ⟨r0,by rw [qx hk] at g1 ⊢;exact g1,g2,g3⟩
          ·obtain ⟨c,hc⟩:=Option.isSome_iff_exists.1 hi
           obtain ⟨d,hd⟩:=Option.isSome_iff_exists.1 hj
           rw [(hget i c hc).1,(hget j d hd).1]
          ·obtain ⟨rfl,rfl⟩:=hget i c hc
           exact ⟨Nat.zero_lt_one,jn jm hk⟩
         have hcall:=b8 (by rw [Good,h4];exact hc) (fun _=>E b) w hmr
         have hargs':((y::rest).map (LV.den fun _=>E b))=(x::rest).map (LV.den E):=by
          rw [List.map_cons,List.map_cons,←r1,j9 hp',j9 (E:=E) hp']
         rw [hargs'] at hcall
         obtain ⟨fn,f1,f2,f3⟩:=ho
         refine .inl ⟨fn,f1,f2,f3,hcall.mono ?_⟩
         rintro e w' ⟨E',rfl,hmr',hx⟩
         refine ⟨_,rfl,E,by rw [km hv,km (E:=E) hv], ?_⟩
         obtain ⟨r',q1,q2,q3⟩:=hmr'.rel.blk 0 k' (by rw [h2];exact hk')
         rw [hx.agree 0 (by show 0<1;omega)] at q1 q3
         have hframe:∀j,j<w.heap.size→j≠(E b).1→w'.heap[j]? = w.heap[j]? :=fun j hj hne=>hx.frame j hj fun i hi he=>hne he.symm
         refine ⟨fun _ _=>rfl,⟨fun i c hic=> ?_,fun i j hi hj he=> ?_⟩,hx.os,hx.tape,hx.output,hx.size,fun j hj hne=>hframe j hj fun e=>hne b (by simp [hq]) e.symm,fun i h1 h2=>by simp at h2;omega⟩
         ·simp only [nwG,wrG] at hic
          by_cases hi:i=b
          ·subst hi
           rw [if_pos rfl] at hic
           cases hic
           exact ⟨r',by rw [qx hok'] at q1 ⊢;exact q1,q2,q3⟩
          ·rw [if_neg hi] at hic
           obtain ⟨r,u1,u2,u3⟩:=hrel.blk i c hic
           refine ⟨r, ?_,u2,u3⟩
           rw [hframe _ (Array.getElem?_eq_some_iff.1 u1).1 (fun e=>hi (hrel.inj i b (by simp [hic]) (by simp [hq]) e))]
           exact u1
         ·simp only [nwG,wrG] at hi hj
          refine hrel.inj i j ?_ ?_ he
          ·by_cases h1:i=b
           ·rw [h1];simp [hq]
           ·simpa [if_neg h1] using hi
          ·by_cases h1:j=b
           ·rw [h1];simp [hq]
           ·simpa [if_neg h1] using hj
        ·cases hw
       ·cases hgo
      ·cases hgo
     ·cases hgo
    ·cases hgo
   ·cases hgo
  ·cases hs'
 ·cases hs'
def more (S:FuncId→Option SumK) (f:FuncId) (s:Sum):FuncId→Option SumK:=fun g=>
 match Nat.beq g f with
 | true=>some (.old s)
 | false=>S g
def moreP (S:FuncId→Option SumK) (f:FuncId) (s:List LV→List (Nat×LV)→Option Tch):FuncId→Option SumK:=fun g=>
 match Nat.beq g f with
 | true=>some (.peek s)
 | false=>S g
theorem Sound.moreP (h:Sound P S) {f:FuncId} {s:List LV→List (Nat×LV)→Option Tch} (hs:KU P f s):Sound P (Go.Lr.moreP S f s):=by
 refine ⟨fun g t hg=> ?_,h.mix,h.ng⟩
 unfold Go.Lr.moreP at hg
 split at hg
 ·rename_i he
  cases hg
  rw [xi] at he
  have:g=f:=by simpa using he
  subst this
  exact hs
 ·exact h.sums g t hg
theorem Sound.more (h:Sound P S) {f:FuncId} {s:Sum} (hs:SumOK P f s):Sound P (Go.Lr.more S f s):=by
 refine ⟨fun g t hg=> ?_,h.mix,h.ng⟩
 unfold Go.Lr.more at hg
 split at hg
 ·rename_i he
  cases hg
  rw [xi] at he
  have:g=f:=by simpa using he
  subst this
  exact hs
 ·exact h.sums g t hg
theorem Sound.none (hmix:P.follows .mixedOrders=true) (hng:∀(f:FuncId) (fn:Func),P.funcs[f]? = some fn→fn.name≠ "runtime.NumGoroutine"):Sound P (fun _=>Option.none):=
 ⟨(fun f s h=>by cases h),hmix,hng⟩
theorem jdt (hs:Sound P S) {n:Nat} {f:FuncId} {args:List LV} {dec:List (Option Bool)} {v:LV} {cs:List (Bool×Bool)} (h:(jR P S z n f args [] 0 dec).map (fun r=>(r.1,r.2.2.2))=some (v,cs))
  (hc:∀c∈cs,c.1=c.2) (ha:ke args=true) (hv:v.ok noP=true) (w:World):
  Calls P f (args.map (LV.den E0)).toArray w fun e w'=>e = .returned (v.den E0)∧Below w.heap.size w w':=by
 cases hr:jR P S z n f args [] 0 dec with
 | none=>rw [hr] at h;cases h
 | some q=>
  obtain ⟨v',m',nb',cs'⟩:=q
  rw [hr] at h
  cases h
  exact KS hs hr hc ha hv w
end
end Go.Lr

/- The local evaluator: contracts of methods on a flag, off their runs. -/
namespace Go.Lr
open Go.RowKit
def A0:LV:= .v (.one (.ptr 0 0))
section
variable {P:Program} {S:FuncId→Option SumK} {z:Md}
theorem jbp (hs:Sound P S) {n:Nat} {f:FuncId} {args:List LV} {dec:List (Option Bool)} {v:LV} {cs:List (Bool×Bool)} {ty:TypeId} {h h':Bool}
  (hrun:(jR P S z n f (A0::args) [(0,flag ty h)] 1 dec).map (fun r=>(r.1,getM r.2.1 0,r.2.2.2))=some (v,some (flag ty h'),cs)) (hc:∀c∈cs,c.1=c.2) (ha:ke args=true) (hv:v.ok noP=true)
  (w:World) (b:Loc) (hb:w.heap[b.blk]? = some (JY b ty h)):
  Calls P f (b.ptr::args.map (LV.den E0)).toArray w fun e w'=>e = .returned (v.den E0)∧Turned b.blk (JY b ty h') w w':=by
 cases hr:jR P S z n f (A0::args) [(0,flag ty h)] 1 dec with
 | none=>rw [hr] at hrun;cases hrun
 | some q=>
  obtain ⟨v',m',nb',cs'⟩:=q
  rw [hr] at hrun
  simp only [Option.map_some,Option.some.injEq,Prod.mk.injEq] at hrun
  obtain ⟨rfl,hm,rfl⟩:=hrun
  exact X6 hs hr hm hc ha hv w b hb
theorem jT (hs:Sound P S) {f:FuncId} (ho:Own P f) {ty:TypeId} {F:List LV→Bool→Option (LV×Bool×List (Bool×Bool))}
  (h:∀args hb v h' cs,F args hb=some (v,h',cs)→(∀c∈cs,c.1=c.2)→v.ok noP=true∧∃(n:Nat) (dec:List (Option Bool)) (cs':List (Bool×Bool)),
   (jR P S z n f (A0::args) [(0,flag ty hb)] 1 dec).map (fun r=>(r.1,getM r.2.1 0,r.2.2.2))=some (v,some (flag ty h'),cs')∧∀c∈cs',c.1=c.2):SumOK P f (jv ty F):=by
 refine JZ fun args hb v h' cs hF hc hp w b hbk=> ?_
 obtain ⟨hv,n,dec,cs',hrun,hc'⟩:=h args hb v h' cs hF hc
 exact qb ho (jbp hs hrun hc' hp hv w b hbk)
theorem jM (hs:Sound P S) {f:FuncId} (ho:Own P f) {F:List LV→Option (LV×List (Bool×Bool))}
  (h:∀args v cs,F args=some (v,cs)→(∀c∈cs,c.1=c.2)→∃(n:Nat) (dec:List (Option Bool)) (cs':List (Bool×Bool)),
   (jR P S z n f args [] 0 dec).map (fun r=>(r.1,r.2.2.2))=some (v,cs')∧∀c∈cs',c.1=c.2):SumOK P f (jp F):=by
 refine xN fun args v cs hF hc hp hv w=> ?_
 obtain ⟨n,dec,cs',hrun,hc'⟩:=h args v cs hF hc
 exact qb ho (jdt hs hrun hc' hp hv w)
end
end Go.Lr

/- Small laws for the printed proofs. -/
namespace Go.Lr
theorem jd:∀c∈([]:List (Bool×Bool)),c.1=c.2:=fun _ h=>nomatch h
theorem ja {a b:Bool} {l:List (Bool×Bool)} (h:a=b) (hl:∀c∈l,c.1=c.2):∀d∈(a,b)::l,d.1=d.2:=fun d hd=>by
 cases hd with
 | head=>exact h
 | tail _ h=>exact hl d h
theorem jx {a b:Bool} {l:List (Bool×Bool)} (h:∀c∈(a,b)::l,c.1=c.2):a=b:=h (a,b) (.head _)
theorem jf {c:Bool×Bool} {l:List (Bool×Bool)} (h:∀d∈c::l,d.1=d.2):∀d∈l,d.1=d.2:=fun d hd=>h d (.tail _ hd)
theorem ji (b:Bool):b=true∨b=false:=by cases b <;> simp
theorem jH {α:Type} {c:Bool} {a b:α} (h:c=true):(bif c then a else b)=a:=by subst h;rfl
theorem jB {α:Type} {c:Bool} {a b:α} (h:c=false):(bif c then a else b)=b:=by subst h;rfl
end Go.Lr

/- The local evaluator: a summary told in other words. -/
set_option linter.unusedVariables false
set_option linter.unusedSimpArgs false
namespace Go.Lr
open Go.RowKit
def jB4 (F:List LV→Bool→Option (LV×Bool×List (Bool×Bool))) (c o:Nat) (rest:List LV):Tch:=⟨[],[c],fun _ wB _=>match wB with
 | [⟨t,(0,0),es,l⟩]=>match atL l o with
  | some (.bool h)=>match F rest h with
   | some (v,h',cs)=>match v.ok noP with
    | true=>some ⟨v,[⟨t,(0,0),es,l.set o (.bool h')⟩],[],cs⟩
    | false=>none
   | none=>none
  | _=>none
 | _=>none⟩
section
variable {P:Program} {S:FuncId→Option SumK}
theorem SumOK.pure_re {f:FuncId} {F F':List LV→Option (LV×List (Bool×Bool))} (h:SumOK P f (jp F))
  (hi:∀args v cs,F' args=some (v,cs)→(∀c∈cs,c.1=c.2)→∃cs',F args=some (v,cs')∧∀c∈cs',c.1=c.2):SumOK P f (jp F'):=by
 intro args t g nb p rdB wrB ans ws E w hs hr hw hnd hgo hz hc hrel hg hargs hn
 unfold jp at hs
 split at hs
 ·rename_i hp
  split at hs
  ·rename_i v cs hF
   split at hs
   ·rename_i hv
    cases hs
    simp only [Option.some.injEq] at hgo
    subst hgo
    obtain ⟨cs',h1,h2⟩:=hi args v cs hF hc
    refine h args ⟨[],[],fun _ _ _=>some ⟨v,[],[],cs'⟩⟩ g nb p rdB wrB ⟨v,[],[],cs'⟩ ws E w ?_ hr hw hnd rfl hz h2 hrel hg hargs hn
    unfold jp
    rw [hp,h1]
    simp only [hv]
   ·cases hs
  ·cases hs
 ·cases hs
theorem SumOK.acc_re {f:FuncId} {ty:TypeId} {F F':List LV→Bool→Option (LV×Bool×List (Bool×Bool))} (h:SumOK P f (jv ty F))
  (hi:∀args hb v h' cs,F' args hb=some (v,h',cs)→(∀c∈cs,c.1=c.2)→∃cs',F args hb=some (v,h',cs')∧∀c∈cs',c.1=c.2):SumOK P f (jv ty F'):=by
 intro args t g nb p rdB wrB ans ws E w hs hr hw hnd hgo hz hc hrel hg hargs hn
 unfold jv at hs
 split at hs
 ·rename_i c o rest
  split at hs
  ·rename_i hp
   cases hs
   simp only at hgo hw hr hz
   split at hgo
   ·rename_i t' es l
    split at hgo
    ·rename_i hb hat
     split at hgo
     ·rename_i v h' cs hF
      split at hgo
      ·rename_i hv
       cases hgo
       obtain ⟨cs',h1,h2⟩:=hi rest hb v h' cs hF hc
       refine h (.v (.one (.ptr c o))::rest) (jB4 F c o rest) g nb p rdB _ ⟨v,[⟨t',(0,0),es,l.set o (.bool h')⟩],[],cs'⟩ ws E w (by unfold jv;simp only [hp];rfl) hr hw hnd ?_ hz h2 hrel hg hargs hn
       simp only [jB4,hat,h1,hv]
      ·cases hgo
     ·cases hgo
    ·cases hgo
   ·cases hgo
  ·cases hs
 ·cases hs
end
theorem jZ {b:Bool} {l:List (Bool×Bool)}:(∀c∈(b,true)::l,c.1=c.2)↔b=true∧∀c∈l,c.1=c.2:=by simp
theorem ql {b:Bool} {l:List (Bool×Bool)}:(∀c∈(b,false)::l,c.1=c.2)↔b=false∧∀c∈l,c.1=c.2:=by simp
end Go.Lr

/- The local evaluator, piece by piece: from one known state to the next; loops by induction. -/
namespace Go.Lr
open Go.RowKit
def jbT:Nat→(Nat→LV)→Tr
 | 0,_=> .nil
 | d+1,f=> .nd (f 0) (jbT d fun j=>f (2*j+1)) (jbT d fun j=>f (2*j+2))
theorem KB:∀(d:Nat) (f:Nat→LV) (t:Nat),getT (jbT d f) t=if t+1<2 ^ d then f t else xt
 | 0,f,t=>by simp [jbT,zZ]
 | d+1,f,0=>by
  have:0<2 ^ d:=Nat.two_pow_pos d
  rw [if_pos (by rw [Nat.pow_succ];omega)];rfl
 | d+1,f,t+1=>by
  simp only [jbT]
  rw [kE]
  have hp:2 ^ (d+1)=2*2 ^ d:=by rw [Nat.pow_succ];omega
  by_cases h:t%2=0
  ·rw [if_pos h,KB d]
   by_cases k:t/2+1<2 ^ d
   ·rw [if_pos k,if_pos (by omega)];congr 1;omega
   ·rw [if_neg k,if_neg (by omega)]
  ·rw [if_neg h,KB d]
   by_cases k:t/2+1<2 ^ d
   ·rw [if_pos k,if_pos (by omega)];congr 1;omega
   ·rw [if_neg k,if_neg (by omega)]
def jlQ:List (Nat×LV)→Tr→Tr
 | [],T=>T
 | (i,v)::l,T=>jlQ l (KY 16 T i v)
theorem jau:∀(l:List (Nat×LV)) (T:Tr) (t:Nat),(∀q∈l,q.1<60000)→(l.map (·.1)).Nodup→
  (∀q∈l,q.1=t→getT (jlQ l T) t=q.2)∧((∀q∈l,q.1≠t)→getT (jlQ l T) t=getT T t)
 | [],T,t,_,_=>⟨fun q hq=>(by cases hq),fun _=>rfl⟩
 | (i,v)::l,T,t,hlt,hnd=>by
  simp only [List.map_cons,List.nodup_cons] at hnd
  obtain ⟨h1,h2⟩:=jau l (KY 16 T i v) t (fun q hq=>hlt q (List.mem_cons_of_mem _ hq)) hnd.2
  have hi:i<60000:=hlt (i,v) (List.mem_cons_self ..)
  have hs:=ym 16 T i v t (by omega)
  refine ⟨fun q hq he=> ?_,fun hne=> ?_⟩
  ·rcases List.mem_cons.1 hq with rfl | hq
   ·have he':i=t:=he
    show getT (jlQ l (KY 16 T i v)) t=v
    rw [h2 fun q' hq' e=>hnd.1 (by rw [he',←e];exact List.mem_map_of_mem hq'),hs,if_pos he'.symm]
   ·exact h1 q hq he
  ·show getT (jlQ l (KY 16 T i v)) t=_
   rw [h2 fun q hq=>hne q (List.mem_cons_of_mem _ hq),hs,if_neg (fun e=>hne (i,v) (List.mem_cons_self ..) e.symm)]
structure Kst where
 live:List (Nat×LV)
 mem:Mem
 nb:Nat
def Kst.tm (A:Kst) (dead:Nat→Value):Tr:=jlQ A.live (jbT 16 fun t=> .v (.one (.opq (dead t))))
def Kst.st (A:Kst) (sz:Nat) (dead:Nat→Value) (dec:List (Option Bool)):St:=⟨A.tm dead,sz,A.mem,A.nb,dec,[],[]⟩
def Kst.ms (A:Kst):St:=⟨.nil,0,A.mem,A.nb,[],[],[]⟩
structure KstOK (A:Kst):Prop where
 lt:∀q∈A.live,q.1<60000
 nd:(A.live.map (·.1)).Nodup
 okT:∀q∈A.live,q.2.ok (below A.nb)=true
 okM:∀i b,getM A.mem i=some b→i<A.nb∧okL (below A.nb) b.cells=true
 uq:uniq A.mem
def ku (nb:Nat):Mem→Bool
 | []=>true
 | (i,b)::m=>match Nat.blt i nb with
  | true=>match okL (below nb) b.cells with
   | true=>match getM m i with
    | none=>ku nb m
    | some _=>false
   | false=>false
  | false=>false
def KC (nb:Nat):List (Nat×LV)→Bool
 | []=>true
 | (i,v)::l=>match Nat.blt i 60000 with
  | true=>match v.ok (below nb) with
   | true=>match Jg (l.map (·.1)) i with
    | true=>false
    | false=>KC nb l
   | false=>false
  | false=>false
def jlR (A:Kst):Bool:=
 match KC A.nb A.live with
 | true=>ku A.nb A.mem
 | false=>false
theorem xG:∀{l:List Nat} {a:Nat},Jg l a=false→a ∉ l
 | [],a,_=>by simp
 | b::l,a,h=>by
  simp only [Jg,xi] at h
  by_cases hab:b=a
  ·simp [hab] at h
  ·simp only [hab,decide_false] at h
   simp only [List.mem_cons,not_or]
   exact ⟨fun e=>hab e.symm,xG h⟩
theorem xS:∀{nb:Nat} {m:Mem},ku nb m=true→(∀i b,getM m i=some b→i<nb∧okL (below nb) b.cells=true)∧uniq m
 | nb,[],_=>⟨fun i b h=>by simp [getM] at h,trivial⟩
 | nb,(j,c)::m,h=>by
  simp only [ku] at h
  split at h
  ·rename_i h1
   split at h
   ·rename_i h2
    split at h
    ·rename_i h3
     obtain ⟨g1,g2⟩:=xS h
     refine ⟨fun i b hb=> ?_,h3,g2⟩
     rw [jz] at hb
     by_cases hij:i=j
     ·rw [if_pos hij] at hb;cases hb
      rw [Ko] at h1
      exact ⟨by rw [hij];simpa using h1,h2⟩
     ·rw [if_neg hij] at hb;exact g1 i b hb
    ·cases h
   ·cases h
  ·cases h
theorem KD:∀{nb:Nat} {l:List (Nat×LV)},KC nb l=true→(∀q∈l,q.1<60000)∧(l.map (·.1)).Nodup∧(∀q∈l,q.2.ok (below nb)=true)
 | nb,[],_=>⟨by simp,by simp,by simp⟩
 | nb,(i,v)::l,h=>by
  simp only [KC] at h
  split at h
  ·rename_i h1
   split at h
   ·rename_i h2
    split at h
    ·cases h
    ·rename_i h3
     obtain ⟨g1,g2,g3⟩:=KD h
     rw [Ko] at h1
     have h1':i<60000:=by simpa using h1
     refine ⟨fun q hq=> ?_, ?_,fun q hq=> ?_⟩
     ·rcases List.mem_cons.1 hq with rfl | hq
      ·exact h1'
      ·exact g1 q hq
     ·simp only [List.map_cons,List.nodup_cons]
      exact ⟨xG h3,g2⟩
     ·rcases List.mem_cons.1 hq with rfl | hq
      ·exact h2
      ·exact g3 q hq
   ·cases h
  ·cases h
theorem jy {A:Kst} (h:jlR A=true):KstOK A:=by
 unfold jlR at h
 split at h
 ·rename_i h1
  obtain ⟨a,b,c⟩:=KD h1
  obtain ⟨d,e⟩:=xS h
  exact ⟨a,b,c,d,e⟩
 ·cases h
structure KR (E:Env) (sz:Nat) (A:Kst) (a:Act) (w:World):Prop where
 ok:KstOK A
 size:a.tmps.size=sz
 le:sz≤60000
 defers:a.defers=[]
 tm:∀q∈A.live,a.tmps.getD q.1 undef=q.2.den E
 rel:Rel E (getM A.mem) w
theorem KR.toR {E:Env} {sz:Nat} {A:Kst} {a:Act} {w:World} (h:KR E sz A a w) (dec:List (Option Bool)):R E (A.st sz (fun t=>a.tmps.getD t undef) dec) a w:=by
 have hget:∀t:Nat,(∃q∈A.live,q.1=t∧getT (A.tm fun t=>a.tmps.getD t undef) t=q.2)∨getT (A.tm fun t=>a.tmps.getD t undef) t=(if t+1<2 ^ 16 then .v (.one (.opq (a.tmps.getD t undef))) else xt):=by
  intro t
  obtain ⟨h1,h2⟩:=jau A.live (jbT 16 fun t=> .v (.one (.opq (a.tmps.getD t undef)))) t h.ok.lt h.ok.nd
  by_cases hm:∃q∈A.live,q.1=t
  ·obtain ⟨q,hq,he⟩:=hm
   exact .inl ⟨q,hq,he,h1 q hq he⟩
  ·refine .inr ?_
   show getT (jlQ A.live _) t=_
   rw [h2 fun q hq e=>hm ⟨q,hq,e⟩,KB]
 refine ⟨h.size,h.le,fun t=> ?_,h.defers,fun t=> ?_,⟨h.rel,h.ok.okM,h.ok.uq⟩⟩
 ·show _=(getT (A.tm _) t).den E
  rcases hget t with ⟨q,hq,he,hg⟩ | hg
  ·rw [hg,←he,h.tm q hq]
  ·rw [hg]
   split
   ·rfl
   ·rename_i hlt
    have:¬t<a.tmps.size:=by have:=h.size;have:=h.le;omega
    simp [Array.getD,this]
    rfl
 ·show (getT (A.tm _) t).ok (below A.nb)=true
  rcases hget t with ⟨q,hq,he,hg⟩ | hg
  ·rw [hg];exact h.ok.okT q hq
  ·rw [hg];split <;> rfl
def To (P:Program) (sz:Nat) (c:Code) (A:Kst) (e:Ex) (B:Kst):Prop:=
 ∀E a w,KR E sz A a w→∀Q:Exit→Act→World→Prop,(∀E' a' w',KR E' sz B a' w'→Ext w E A.ms w' E' B.ms→Q e.to a' w')→c.wp P Q a w
def jI (slots blks:List Nat) (r:Option (Out×St)):Option (Ex×List LV×List (Option Blk)×List (Bool×Bool)):=
 match r with
 | some (.ex e,s)=>some (e,slots.map (getT s.tm),blks.map (getM s.mem),s.cs)
 | _=>none
section
variable {P:Program} {S:FuncId→Option SumK} {z:Md} {sz:Nat}
theorem Jb:∀(blks:List Nat) (bs:List Blk) (f:Nat→Option Blk),blks.map f=bs.map some→∀i b,getM (blks.zip bs) i=some b→f i=some b
 | [],_,_,_,i,b,h=>by simp [getM] at h
 | j::l,[],_,he,i,b,h=>by simp [getM] at h
 | j::l,c::bs,f,he,i,b,h=>by
  simp only [List.map_cons,List.cons.injEq] at he
  rw [List.zip_cons_cons,jz] at h
  by_cases hij:i=j
  ·rw [if_pos hij] at h;rw [hij,he.1,h]
  ·rw [if_neg hij] at h;exact Jb l bs f he.2 i b h
theorem Jc:∀(slots:List Nat) (vs:List LV) (f:Nat→LV),slots.map f=vs→∀q∈slots.zip vs,q.2=f q.1
 | [],_,_,_,q,h=>by simp at h
 | t::l,[],_,he,q,h=>by simp at he
 | t::l,v::vs,f,he,q,h=>by
  simp only [List.map_cons,List.cons.injEq] at he
  rw [List.zip_cons_cons] at h
  rcases List.mem_cons.1 h with rfl | h
  ·exact he.1.symm
  ·exact Jc l vs f he.2 q h
theorem To.exec (hs:Sound P S) {c:Code} {A:Kst} {e:Ex} {slots blks:List Nat} {vs:List LV} {bs:List Blk} {nbB n:Nat} {dec:List (Option Bool)} {cs:List (Bool×Bool)}
  (hrun:∀dead,jI slots blks (exec P S z n (.code c) (A.st sz dead dec))=some (e,vs,bs.map some,cs)) (hcs:∀c∈cs,c.1=c.2)
  (hB:KstOK ⟨slots.zip vs,blks.zip bs,nbB⟩) (hnb:A.nb≤nbB):To P sz c A e ⟨slots.zip vs,blks.zip bs,nbB⟩:=by
 intro E a w hk Q hQ
 have hr:=hk.toR dec
 have h:=hrun fun t=>a.tmps.getD t undef
 unfold jI at h
 split at h
 ·rename_i e' s' hex
  simp only [Option.some.injEq,Prod.mk.injEq] at h
  obtain ⟨rfl,hv,hb,rfl⟩:=h
  obtain ⟨e2,q1,q2,q3,q4,q5,q6⟩:=(kD (QZ P) hs.sums hs.mix hs.ng n).1 c _ _ s' hex hk.le hr.st
  cases q1
  refine q6 hcs E a w hr Q fun E' a' w' hr' hx=> ?_
  have hsub:=Jb blks bs (getM s'.mem) hb
  refine hQ E' a' w' ⟨hB,hr'.size.trans q4,hk.le,hr'.defers,fun q hq=> ?_,⟨fun i b hib=>hr'.m.rel.blk i b (hsub i b hib),fun i j hi hj he=>hr'.m.rel.inj i j ?_ ?_ he⟩⟩
   ⟨hnb,hx.agree,hx.os,hx.tape,hx.output,hx.size,hx.frame,fun i hi=>hx.src i ?_⟩
  ·rw [hr'.tm q.1,Jc slots vs (getT s'.tm) hv q hq]
  ·obtain ⟨b,hib⟩:=Option.isSome_iff_exists.1 hi;simp [hsub i b hib]
  ·obtain ⟨b,hjb⟩:=Option.isSome_iff_exists.1 hj;simp [hsub j b hjb]
  ·obtain ⟨b,hib⟩:=Option.isSome_iff_exists.1 hi;simp [hsub i b hib]
 ·cases h
theorem To.run (hs:Sound P S) {c:Code} {A:Kst} {e e0:Ex} {slots blks:List Nat} {vs vs0:List LV} {bs:List Blk} {bs0:List (Option Blk)} {nbB n:Nat} {dec:List (Option Bool)} {cs:List (Bool×Bool)}
  (hrun:∀dead,jI slots blks (Go.Lr.exec P S z n (.code c) (A.st sz dead dec))=some (e0,vs0,bs0,cs)) (he:e0=e) (hv:vs0=vs) (hb:bs0=bs.map some) (hcs:∀c∈cs,c.1=c.2)
  (hB:KstOK ⟨slots.zip vs,blks.zip bs,nbB⟩) (hnb:A.nb≤nbB):To P sz c A e ⟨slots.zip vs,blks.zip bs,nbB⟩:=by
 subst he
 subst hv
 subst hb
 exact To.exec hs hrun hcs hB hnb
def c1:Code→Code
 | .seq a _=>a
 | .block _ a=>a
 | .loop a=>a
 | .cond _ a _=>a
 | c=>c
def c2:Code→Code
 | .seq _ b=>b
 | .cond _ _ b=>b
 | c=>c
def Ji:Code→Bool
 | .seq _ _=>true
 | _=>false
def Kb:Code→Bool
 | .loop _=>true
 | _=>false
def Zd:Code→Option Nat
 | .block id _=>some id
 | _=>none
theorem To.seq {c:Code} {A B C:Kst} {e:Ex} (hc:Ji c=true) (h:To P sz (c1 c) A .normal B) (k:To P sz (c2 c) B e C):To P sz c A e C:=by
 cases c <;> simp only [Ji,Bool.false_eq_true] at hc
 intro E a w hr Q hQ
 refine wp_seq (h E a w hr _ fun E' a' w' hr' hx'=> ?_)
 exact k E' a' w' hr' Q fun E'' a'' w'' hr'' hx''=>hQ E'' a'' w'' hr'' (hx'.trans hx'')
theorem To.seq_out {c:Code} {A B:Kst} {e:Ex} (hc:Ji c=true) (he:e≠ .normal) (h:To P sz (c1 c) A e B):To P sz c A e B:=by
 cases c <;> simp only [Ji,Bool.false_eq_true] at hc
 intro E a w hr Q hQ
 refine wp_seq (h E a w hr _ fun E' a' w' hr' hx'=> ?_)
 have:=hQ E' a' w' hr' hx'
 cases e <;> first | exact absurd rfl he | exact this
theorem To.block {c:Code} {id:Nat} {A B:Kst} {e:Ex} (hc:Zd c=some id) (h:To P sz (c1 c) A e B) (he:e = .exit id∨e = .normal):To P sz c A .normal B:=by
 cases c <;> simp only [Zd,reduceCtorEq] at hc
 cases hc
 intro E a w hr Q hQ
 refine wp_block (h E a w hr _ fun E' a' w' hr' hx'=> ?_)
 have:=hQ E' a' w' hr' hx'
 rcases he with rfl | rfl
 ·simpa only [Ex.to,Exit.inBlock,if_true] using this
 ·exact this
def kV:Nat→Code→List Code
 | 0,_=>[]
 | k+1,c=>c1 c::kV k (c2 c)
def qE:Nat→Code→Code
 | 0,c=>c
 | k+1,c=>qE k (c2 c)
def Xk:Nat→Code→Bool
 | 0,_=>true
 | k+1,c=>match Ji c with
  | true=>Xk k (c2 c)
  | false=>false
def xA (P:Program) (S:FuncId→Option SumK) (z:Md) (n:Nat):List Code→St→Option (Out×St)
 | [],s=>some (.ex .normal,s)
 | c::l,s=>match Go.Lr.exec P S z n (.code c) s with
  | some (.ex .normal,s1)=>xA P S z n l s1
  | _=>none
theorem jcZ (hs:Sound P S) {n:Nat}:∀(k:Nat) (c:Code) (s s':St),Xk k c=true→xA P S z n (kV k c) s=some (.ex .normal,s')→s.sz≤60000→StOK s→
  (Good s'→Good s)∧StOK s'∧s'.sz=s.sz∧s.nb≤s'.nb∧
   (Good s'→∀E a w,R E s a w→∀Q:Exit→Act→World→Prop,(∀E' a' w',R E' s' a' w'→Ext w E s w' E' s'→(qE k c).wp P Q a' w')→c.wp P Q a w)
 | 0,c,s,s',_,h,_,hok=>by
  simp only [kV,xA,Option.some.injEq,Prod.mk.injEq,true_and] at h
  subst h
  exact ⟨id,hok,rfl,Nat.le_refl _,fun _ E a w hr Q hQ=>hQ E a w hr (.refl _ _ _)⟩
 | k+1,c,s,s',hsp,h,hsz,hok=>by
  simp only [Xk] at hsp
  split at hsp
  ·rename_i hc
   simp only [kV,xA] at h
   split at h
   ·rename_i s1 hex
    obtain ⟨e,q1,q2,q3,q4,q5,q6⟩:=(kD (QZ P) hs.sums hs.mix hs.ng n).1 (c1 c) s _ s1 hex hsz hok
    cases q1
    obtain ⟨r2,r3,r4,r5,r6⟩:=jcZ hs k (c2 c) s1 s' hsp h (by omega) q3
    refine ⟨fun hg=>q2 (r2 hg),r3,r4.trans q4,Nat.le_trans q5 r5,fun hg E a w hr Q hQ=> ?_⟩
    have hw:=q6 (r2 hg) E a w hr (Exit.then ((c2 c).wp P Q) Q) fun E' a' w' hr' hx'=>r6 hg E' a' w' hr' Q fun E'' a'' w'' hr'' hx''=>hQ E'' a'' w'' hr'' (hx'.trans hx'')
    cases c <;> simp only [Ji,Bool.false_eq_true] at hc
    exact wp_seq hw
   ·cases h
  ·cases hsp
theorem To.spine (hs:Sound P S) {c:Code} {A C:Kst} {e:Ex} {k:Nat} {slots blks:List Nat} {vs:List LV} {bs:List Blk} {nbB n:Nat} {dec:List (Option Bool)} {cs:List (Bool×Bool)}
  (hsp:Xk k c=true) (hrun:∀dead,jI slots blks (xA P S z n (kV k c) (A.st sz dead dec))=some (.normal,vs,bs.map some,cs)) (hcs:∀c∈cs,c.1=c.2)
  (hB:KstOK ⟨slots.zip vs,blks.zip bs,nbB⟩) (hnb:A.nb≤nbB) (h:To P sz (qE k c) ⟨slots.zip vs,blks.zip bs,nbB⟩ e C):To P sz c A e C:=by
 intro E a w hk Q hQ
 have hr:=hk.toR dec
 have hh:=hrun fun t=>a.tmps.getD t undef
 unfold jI at hh
 split at hh
 ·rename_i e' s' hex
  simp only [Option.some.injEq,Prod.mk.injEq] at hh
  obtain ⟨rfl,hv,hb,rfl⟩:=hh
  obtain ⟨q2,q3,q4,q5,q6⟩:=jcZ (z:=z) hs k c _ s' hsp hex hk.le hr.st
  refine q6 hcs E a w hr Q fun E' a' w' hr' hx=> ?_
  have hsub:=Jb blks bs (getM s'.mem) hb
  refine h E' a' w' ⟨hB,hr'.size.trans q4,hk.le,hr'.defers,fun q hq=> ?_,⟨fun i b hib=>hr'.m.rel.blk i b (hsub i b hib),fun i j hi hj he=>hr'.m.rel.inj i j ?_ ?_ he⟩⟩ Q
   fun E'' a'' w'' hr'' hx''=>hQ E'' a'' w'' hr'' (Ext.trans (s1:=Kst.ms ⟨slots.zip vs,blks.zip bs,nbB⟩) ⟨hnb,hx.agree,hx.os,hx.tape,hx.output,hx.size,hx.frame,fun i hi=>hx.src i ?_⟩ hx'')
  ·rw [hr'.tm q.1,Jc slots vs (getT s'.tm) hv q hq]
  ·obtain ⟨b,hib⟩:=Option.isSome_iff_exists.1 hi;simp [hsub i b hib]
  ·obtain ⟨b,hjb⟩:=Option.isSome_iff_exists.1 hj;simp [hsub j b hjb]
  ·obtain ⟨b,hib⟩:=Option.isSome_iff_exists.1 hi;simp [hsub i b hib]
 ·cases hh
theorem To.spineR (hs:Sound P S) {c:Code} {A C:Kst} {e e0:Ex} {k:Nat} {slots blks:List Nat} {vs vs0:List LV} {bs:List Blk} {bs0:List (Option Blk)} {nbB n:Nat} {dec:List (Option Bool)} {cs:List (Bool×Bool)}
  (hsp:Xk k c=true) (hrun:∀dead,jI slots blks (xA P S z n (kV k c) (A.st sz dead dec))=some (e0,vs0,bs0,cs)) (he:e0 = .normal) (hv:vs0=vs) (hb:bs0=bs.map some) (hcs:∀c∈cs,c.1=c.2)
  (hB:KstOK ⟨slots.zip vs,blks.zip bs,nbB⟩) (hnb:A.nb≤nbB) (h:To P sz (qE k c) ⟨slots.zip vs,blks.zip bs,nbB⟩ e C):To P sz c A e C:=by
 subst he
 subst hv
 subst hb
 exact To.spine hs hsp hrun hcs hB hnb h
def Rd (P:Program) (sz:Nat) (c:Code) (m:Nat) (A:Kst) (e:Ex) (B:Kst):Prop:=
 ∀E a w,KR E sz A a w→∀Q:Exit→Act→World→Prop,(∀E' a' w',KR E' sz B a' w'→Ext w E A.ms w' E' B.ms→Q e.to a' w')→Code.rounds P c Q m a w
theorem Rd.last {c:Code} {A B:Kst} {e:Ex} (he:e≠ .normal) (h:To P sz c A e B):Rd P sz c 1 A e B:=by
 intro E a w hr Q hQ
 rw [rounds_succ]
 refine h E a w hr _ fun E' a' w' hr' hx'=> ?_
 have:=hQ E' a' w' hr' hx'
 cases e <;> first | exact absurd rfl he | exact this
theorem Rd.next {c:Code} {A B C:Kst} {e:Ex} {m:Nat} (h:To P sz c A .normal B) (k:Rd P sz c m B e C):Rd P sz c (m+1) A e C:=by
 intro E a w hr Q hQ
 rw [rounds_succ]
 refine h E a w hr _ fun E' a' w' hr' hx'=> ?_
 exact k E' a' w' hr' Q fun E'' a'' w'' hr'' hx''=>hQ E'' a'' w'' hr'' (hx'.trans hx'')
theorem To.loop {c:Code} {A B:Kst} {e:Ex} {m:Nat} (hc:Kb c=true) (h:Rd P sz (c1 c) m A e B):To P sz c A e B:=by
 cases c <;> simp only [Kb,Bool.false_eq_true] at hc
 exact fun E a w hr Q hQ=>wp_loop_rounds m (h E a w hr Q hQ)
theorem To.weak {c:Code} {A B C:Kst} {e:Ex} (h:To P sz c A e B) (hl:∀q∈C.live,q∈B.live) (hm:C.mem=B.mem) (hn:C.nb=B.nb) (hC:KstOK C):To P sz c A e C:=by
 intro E a w hr Q hQ
 refine h E a w hr Q fun E' a' w' hr' hx'=>hQ E' a' w' ⟨hC,hr'.size,hr'.le,hr'.defers,fun q hq=>hr'.tm q (hl q hq),by rw [hm];exact hr'.rel⟩ ?_
 have e1:C.ms=B.ms:=by unfold Kst.ms;rw [hm,hn]
 rw [e1];exact hx'
def jk (P:Program) (f:FuncId):Code:=
 match P.funcs[f]? with
 | some fn=>match fn.body with
  | some c=>c
  | none=> .skip
 | none=> .skip
def kC:Nat→List LV→List (Nat×LV)
 | _,[]=>[]
 | i,v::l=>(i,v)::kC (i+1) l
theorem kK:∀(l:List LV) (i:Nat) (q:Nat×LV),q∈kC i l↔i≤q.1∧l[q.1 - i]? = some q.2
 | [],i,q=>by simp [kC]
 | v::l,i,q=>by
  simp only [kC,List.mem_cons]
  rw [kK l (i+1) q]
  constructor
  ·rintro (rfl | ⟨h1,h2⟩)
   ·simp
   ·refine ⟨by omega, ?_⟩
    rw [show q.1 - i=(q.1 - (i+1))+1 by omega]
    simpa using h2
  ·rintro ⟨h1,h2⟩
   by_cases h:q.1=i
   ·left
    rw [h] at h2
    simp at h2
    rw [h2,←h]
   ·right
    refine ⟨by omega, ?_⟩
    rw [show q.1 - i=(q.1 - (i+1))+1 by omega] at h2
    simpa using h2
theorem zL:∀(l:List LV) (i:Nat),((kC i l).map (·.1)).Nodup∧∀t∈(kC i l).map (·.1),i≤t
 | [],i=>by simp [kC]
 | v::l,i=>by
  obtain ⟨h1,h2⟩:=zL l (i+1)
  refine ⟨?_,fun t ht=> ?_⟩
  ·simp only [kC,List.map_cons,List.nodup_cons]
   exact ⟨fun h=>by have:=h2 i h;omega,h1⟩
  ·simp only [kC,List.map_cons,List.mem_cons] at ht
   rcases ht with rfl | ht
   ·exact Nat.le_refl _
   ·have:=h2 t ht;omega
theorem yN {f:FuncId} {fn:Func} {c:Code} {args:List LV} {m:Mem} {nb:Nat} {B:Kst} {e:Ex} {v:LV} (hf:P.funcs[f]? = some fn) (hb:fn.body=some c)
  (hle:fn.ntmps≤60000) (hargs:args.length≤fn.ntmps) (hA:∀u∈args,u.ok (below nb)=true) (hm:∀i b,getM m i=some b→i<nb∧okL (below nb) b.cells=true) (hu:uniq m)
  (h:To P fn.ntmps c ⟨kC 0 args,m,nb⟩ e B) (he:e = .normal∨e = .ret)
  (hres:∀dead,kx P fn.results.toList (getT (B.tm dead)) B.mem=some v) (E:Env) (w:World) (hrel:Rel E (getM m) w):
  Calls P f (args.map (LV.den E)).toArray w fun e w'=>∃E',e = .returned (v.den E')∧MRel E' B.ms w'∧Ext w E (Kst.ms ⟨kC 0 args,m,nb⟩) w' E' B.ms:=by
 refine calls_of_wp hf hb (h E _ w ⟨⟨fun q hq=> ?_,(zL args 0).1,fun q hq=> ?_,hm,hu⟩,by simp;omega,hle,rfl,fun q hq=> ?_,hrel⟩ _ fun E' a' w' hr' hx'=> ?_)
 ·have:=(kK args 0 q).1 hq
  have:=(List.getElem?_eq_some_iff.1 this.2).1
  omega
 ·exact hA q.2 (List.mem_of_getElem? ((kK args 0 q).1 hq).2)
 ·have:=((kK args 0 q).1 hq).2
  simp only [Nat.sub_zero] at this
  have hlt:=(List.getElem?_eq_some_iff.1 this).1
  simp only [Array.getD_eq_getD_getElem?,Array.getElem?_append,List.size_toArray,List.length_map]
  rw [if_pos hlt]
  simp [this]
 ·have hR:=hr'.toR []
  have hpost:bodyPost P fn (fun e w'=>∃E',e = .returned (v.den E')∧MRel E' B.ms w'∧Ext w E (Kst.ms ⟨kC 0 args,m,nb⟩) w' E' B.ms) .ret a' w':=
   ⟨hr'.defers,v.den E',qV hR.m.rel hR.tm (hres _),E',rfl,⟨hr'.rel,hr'.ok.okM,hr'.ok.uq⟩,hx'⟩
  rcases he with rfl | rfl
  ·exact hpost
  ·exact hpost
end
theorem yy {P:Program} {f:FuncId} {fn:Func} {c:Code} {args:List LV} {B:Kst} {e:Ex} {v:LV} (hf:P.funcs[f]? = some fn) (hb:fn.body=some c)
  (hle:fn.ntmps≤60000) (hargs:args.length≤fn.ntmps) (ha:ke args=true) (h:To P fn.ntmps c ⟨kC 0 args,[],0⟩ e B) (he:e = .normal∨e = .ret)
  (hres:∀dead,kx P fn.results.toList (getT (B.tm dead)) B.mem=some v) (hv:v.ok noP=true) (w:World):
  Calls P f (args.map (LV.den E0)).toArray w fun e w'=>e = .returned (v.den E0)∧Below w.heap.size w w':=by
 have ha':=plainVs_iff.1 ha
 refine (yN (m:=[]) (nb:=0) hf hb hle hargs (fun u hu=>LV.ok_mono jm (ha' u hu)) (fun i b h=>by simp [getM] at h) trivial h he hres E0 w ⟨fun i b h=>by simp [getM] at h,fun i j h=>by simp [getM] at h⟩).mono ?_
 rintro e w' ⟨E',rfl,_,hx⟩
 exact ⟨by rw [km hv],hx.os,hx.tape,hx.output,hx.size,fun k hk=>hx.frame k hk fun i hi=>by simp [getM,Kst.ms] at hi⟩
end Go.Lr

/- The local evaluator: summaries of functions that are handed slices of numbers. -/
namespace Go.Lr
open Go.RowKit
structure Lcl (E:Env) (m m':Mem) (w w':World):Prop where
 os:w'.os=w.os
 tape:w'.tape=w.tape
 output:w'.output=w.output
 size:w.heap.size≤w'.heap.size
 frame:∀b,b<w.heap.size→(∀i,(getM m i).isSome→(E i).1≠b)→w'.heap[b]? = w.heap[b]?
 blk:∀i b,getM m' i=some b→blkAt E i b w'
section
variable {P:Program} {S:FuncId→Option SumK} {z:Md}
theorem jjM {E E':Env} {A B:St} {m m':Mem} {w w':World} (hA:A.mem=m) (hr:MRel E' B w') (hx:Ext w E A w' E' B)
  (hg:∀i b,getM m' i=some b→getM B.mem i=some b∧i<A.nb∧okL (below A.nb) b.cells=true):Lcl E m m' w w':=by
 subst hA
 refine ⟨hx.os,hx.tape,hx.output,hx.size,hx.frame,fun i b hib=> ?_⟩
 obtain ⟨h1,h2,h3⟩:=hg i b hib
 obtain ⟨r,g1,g2,g3⟩:=hr.rel.blk i b h1
 rw [hx.agree i h2] at g1 g3
 refine ⟨r, ?_,g2,g3⟩
 rw [g1,kk (E:=E) (E':=E') (p:=below A.nb) (fun j hj=>hx.agree j (by simpa [below,Ko] using hj)) h3]
theorem yu (hs:Sound P S) {n:Nat} {f:FuncId} {args:List LV} {m m' m2:Mem} {nb nb':Nat} {dec:List (Option Bool)} {v:LV} {cs:List (Bool×Bool)} (hrun:jR P S z n f args m nb dec=some (v,m2,nb',cs))
  (hg:∀i b,getM m' i=some b→getM m2 i=some b∧i<nb∧okL (below nb) b.cells=true) (hc:∀c∈cs,c.1=c.2) (hm:ku nb m=true) (ha:∀u∈args,u.ok (below nb)=true) (hv:v.ok noP=true)
  (E:Env) (w:World) (hrel:Rel E (getM m) w):Calls P f (args.map (LV.den E)).toArray w fun e w'=>e = .returned (v.den E0)∧Lcl E m m' w w':=by
 obtain ⟨s',h1,h2,h3,h4⟩:=zA hrun
 obtain ⟨k1,k2⟩:=xS hm
 obtain ⟨v',b1,b2,b3,b4,b5,b6,b7,b8⟩:=(kD (QZ P) hs.sums hs.mix hs.ng n).2.2.2 f args _ _ s' h1 k1 k2 ha
 cases b1
 refine (b8 (by rw [Good,h4];exact hc) E w ⟨hrel,k1,k2⟩).mono ?_
 rintro e w' ⟨E',rfl,hmr,hx⟩
 exact ⟨by rw [km hv],jjM rfl hmr hx fun i b hib=>by rw [h2];exact hg i b hib⟩
theorem J9 {f:FuncId} {fn:Func} {c:Code} {args:List LV} {m m':Mem} {nb:Nat} {B:Kst} {e:Ex} {v:LV} (hf:P.funcs[f]? = some fn) (hb:fn.body=some c)
  (hle:fn.ntmps≤60000) (hargs:args.length≤fn.ntmps) (hA:∀u∈args,u.ok (below nb)=true) (hm:ku nb m=true)
  (h:To P fn.ntmps c ⟨kC 0 args,m,nb⟩ e B) (he:e = .normal∨e = .ret)
  (hres:∀dead,kx P fn.results.toList (getT (B.tm dead)) B.mem=some v) (hv:v.ok noP=true)
  (hg:∀i b,getM m' i=some b→getM B.mem i=some b∧i<nb∧okL (below nb) b.cells=true)
  (E:Env) (w:World) (hrel:Rel E (getM m) w):Calls P f (args.map (LV.den E)).toArray w fun e w'=>e = .returned (v.den E0)∧Lcl E m m' w w':=by
 obtain ⟨k1,k2⟩:=xS hm
 refine (yN hf hb hle hargs hA k1 k2 h he hres E w hrel).mono ?_
 rintro e w' ⟨E',rfl,hmr,hx⟩
 exact ⟨by rw [km hv],jjM rfl hmr hx hg⟩
def Xi:List At→Nat→Option (List Int)
 | _,0=>some []
 | .int .i64 x::l,n+1=>match Xi l n with
  | some r=>some (x::r)
  | none=>none
 | _,_+1=>none
def toI:At→Int
 | .int .i64 x=>x
 | _=>0
def jiw:At→Bool
 | .int .i64 _=>true
 | _=>false
def kQ (l:List At):List Int:=l.map toI
def qJ (l:List At):Bool:=l.all jiw
def IntsAt (l:List At) (o:Nat) (xs:List Int):Prop:=∀j (h:j<xs.length),atL l (o+j)=some (.int .i64 xs[j])
theorem KX (l:List At) (n:Nat):atL l n=l[n]? :=z4
theorem jix (l:List At) (o n:Nat):atL (l.drop o) n=atL l (o+n):=by rw [KX,KX,List.getElem?_drop]
theorem Yf:∀(n:Nat) (l:List At) (xs:List Int),Xi l n=some xs→xs.length=n∧IntsAt l 0 xs
 | 0,l,xs,h=>by simp only [Xi] at h;cases h;exact ⟨rfl,fun j hj=>by simp at hj⟩
 | n+1,l,xs,h=>by
  unfold Xi at h
  split at h
  ·rename_i h' ;cases h'
  ·rename_i x l' n' hn
   cases hn
   split at h
   ·rename_i r hr
    cases h
    obtain ⟨h1,h2⟩:=Yf n l' r hr
    refine ⟨by simp [h1],fun j hj=> ?_⟩
    cases j with
    | zero=>rfl
    | succ j=>have:=h2 j (by simpa using hj);rw [KX] at this ⊢;simpa using this
   ·cases h
  ·cases h
theorem IntsAt.drop {l:List At} {o:Nat} {xs:List Int} (h:IntsAt (l.drop o) 0 xs):IntsAt l o xs:=fun j hj=>by
 have:=h j hj
 rw [jix] at this
 simpa using this
theorem jiy (l:List At):(kQ l).length=l.length:=by simp [kQ]
theorem jgg (l:List At) (h:qJ l=true):IntsAt l 0 (kQ l):=by
 intro j hj
 rw [KX,Nat.zero_add]
 have hj':j<l.length:=by simpa [kQ] using hj
 rw [List.getElem?_eq_getElem hj']
 have:=List.all_eq_true.1 h l[j] (List.getElem_mem hj')
 simp only [kQ,List.getElem_map]
 generalize l[j]=a at this ⊢
 unfold jiw at this
 split at this
 ·rfl
 ·cases this
theorem Ja {l:List At} {o:Nat} {x:Int} (h:atL l o=some (.int .i64 x)):jo l o=x∧isIntAt .i64 l o=true:=by
 unfold jo isIntAt;rw [h];exact ⟨rfl,rfl⟩
inductive AV where
 | pl (v:LV)
 | ints (xs:List Int)
def slB:LV→Option Nat
 | .v (.one (.sl b _ _ _))=>some b
 | .v (.one (.slu b _))=>some b
 | .v (.one (.slx b _ _ _))=>some b
 | _=>none
def jgh:LV→Bool
 | .v (.one .nilsl)=>true
 | _=>false
def rdA:List LV→Option (List Nat)
 | []=>some []
 | v::l=>match slB v with
  | some b=>match rdA l with
   | some r=>some (b::r)
   | none=>none
  | none=>match v.ok noP with
   | true=>rdA l
   | false=>none
def jao (es:Nat) (s:LV) (k:Blk):Option (List Int×List (Bool×Bool)):=
 match s with
 | .v (.one (.sl _ o n c))=>match Nat.ble n c,Xi (k.cells.drop o) (n*es),okL noP k.cells with
  | true,some xs,true=>some (xs,[])
  | _,_,_=>none
 | .v (.one (.slu _ n))=>match Nat.beq k.es es,Nat.ble 1 es with
  | true,true=>some (kQ (k.cells.take (n*es)),[(qJ (k.cells.take (n*es))&&(okL noP k.cells&&decide (n*es≤k.cells.length)),true)])
  | _,_=>none
 | .v (.one (.slx _ o n c))=>some (kQ ((k.cells.drop o).take (n*es)),[(qJ ((k.cells.drop o).take (n*es))&&(okL noP k.cells&&(decide (o+n*es≤k.cells.length)&&decide (n≤c))),true)])
 | _=>none
def avA (es:Nat):List LV→List Blk→Option (List AV×List (Bool×Bool))
 | [],_=>some ([],[])
 | v::l,bs=>match slB v with
  | some _=>match bs with
   | k::bs=>match jao es v k with
    | some (xs,cs)=>match avA es l bs with
     | some (r,cs')=>some (.ints xs::r,cs++cs')
     | none=>none
    | none=>none
   | []=>none
  | none=>match jgh v with
   | true=>match avA es l bs with
    | some (r,cs')=>some (.ints []::r,cs')
    | none=>none
   | false=>match avA es l bs with
    | some (r,cs')=>some (.pl v::r,cs')
    | none=>none
def yv (ty:TypeId) (es:Nat) (F:List AV→Bool→Option (LV×Bool×List (Bool×Bool))):Sum:=fun args=>
 match args with
 | .v (.one (.ptr c 0))::rest=>match rdA rest with
  | some bl=>match Jg bl c with
   | false=>some ⟨bl,[c],fun rdB wB _=>match wB with
    | [⟨t,(0,0),0,[.bool h]⟩]=>match Nat.beq t ty with
     | true=>match avA es rest rdB with
      | some (avs,cs0)=>match F avs h with
       | some (v,h',cs)=>match v.ok noP with
        | true=>some ⟨v,[flag ty h'],[],cs0++cs⟩
        | false=>none
       | none=>none
      | none=>none
     | false=>none
    | _=>none⟩
   | true=>none
  | none=>none
 | _=>none
theorem jcY {w w':World} {E:Env} {g:Nat→Option Blk} {nb c:Nat} {v:LV} {ty:TypeId} {h h':Bool} (hr:Rel E g w) (hc:g c=some (flag ty h))
  (hos:w'.os=w.os) (htape:w'.tape=w.tape) (hout:w'.output=w.output) (hsz:w.heap.size≤w'.heap.size)
  (hthis:blkAt E c (flag ty h') w') (hrest:∀i b,i≠c→g i=some b→blkAt E i b w') (hfr:∀b,b<w.heap.size→(∀i,(g i).isSome→(E i).1≠b)→w'.heap[b]? = w.heap[b]?):
  Post w E g nb ⟨v,[(c,some (flag ty h'))],[],[],[]⟩ E w':=by
 refine ⟨fun _ _=>rfl,⟨fun i b hb=> ?_,fun i j hi hj he=> ?_⟩,hos,htape,hout,hsz,hfr,fun i h1 h2=>by simp at h2;omega⟩
 ·simp only [nwG,wrG] at hb
  by_cases hi:i=c
  ·subst hi
   rw [if_pos rfl] at hb
   cases hb
   exact hthis
  ·rw [if_neg hi] at hb
   exact hrest i b hi hb
 ·simp only [nwG,wrG] at hi hj
  refine hr.inj i j ?_ ?_ he
  ·by_cases h1:i=c
   ·rw [h1];simp [hc]
   ·simpa [if_neg h1] using hi
  ·by_cases h1:j=c
   ·rw [h1];simp [hc]
   ·simpa [if_neg h1] using hj
def SlAt (es:Nat) (k:Blk) (o n:Nat) (xs:List Int):Prop:=xs.length=n*es∧IntsAt k.cells o xs∧okL noP k.cells=true
theorem kF {E E':Env} {i j:Nat} {b:Blk} {w:World} (hb:okL noP b.cells=true) (he:E' j=E i) (h:blkAt E i b w):blkAt E' j b w:=by
 obtain ⟨r,h1,h2,h3⟩:=h
 refine ⟨r, ?_,h2,fun hne=>by rw [he];exact h3 hne⟩
 rw [he,h1,qx (E:=E') hb,qx (E:=E) hb]
theorem JG {f:FuncId} (ho:Own P f) {args args':List LV} {m m':Mem} {ren:Nat→Nat} {g:Nat→Option Blk} {nb c:Nat} {ty:TypeId} {h h':Bool} {v:LV} {E E1:Env} {w:World}
  (hE:∀i,E1 i=E (ren i)) (hrel:Rel E g w) (hc:g c=some (flag ty h)) (h0:getM m' 0=some (flag ty h')) (hren0:ren 0=c) (hm:∀i b,getM m i=some b→g (ren i)=some b)
  (hm':∀i b,i≠0→getM m i=some b→getM m' i=some b) (hok:∀i b,getM m i=some b→okL noP b.cells=true)
  (hargs:args.map (LV.den E)=args'.map (LV.den E1)) (hv:v.ok noP=true)
  (hcall:Calls P f (args'.map (LV.den E1)).toArray w fun e w'=>e = .returned (v.den E0)∧Lcl E1 m m' w w'):
  CallOK P f (args.map (LV.den E)).toArray w fun u w'=>∃E',u=v.den E'∧Post w E g nb ⟨v,[(c,some (flag ty h'))],[],[],[]⟩ E' w':=by
 obtain ⟨fn,f1,f2,f3⟩:=ho
 rw [hargs]
 refine .inl ⟨fn,f1,f2,f3,hcall.mono ?_⟩
 rintro e w' ⟨rfl,hl⟩
 have hfr:∀b,b<w.heap.size→(∀i,(getM m i).isSome→(E1 i).1≠b)→w'.heap[b]? = w.heap[b]? :=hl.frame
 refine ⟨_,rfl,E,(km hv).symm,jcY hrel hc hl.os hl.tape hl.output hl.size ?_ (fun i b hi hib=> ?_) fun b hb hne=>hfr b hb fun i hi=> ?_⟩
 ·exact kF (E:=E1) (i:=0) rfl (by rw [hE,hren0]) (hl.blk 0 _ h0)
 ·by_cases hex:∃j,(getM m j).isSome∧ren j=i
  ·obtain ⟨j,hj,rfl⟩:=hex
   obtain ⟨b',hb'⟩:=Option.isSome_iff_exists.1 hj
   have:b'=b:=by have:=hm j b' hb';rw [hib] at this;cases this;rfl
   subst this
   have hj0:j≠0:=fun e=>hi (by rw [e,hren0])
   exact kF (E:=E1) (i:=j) (hok j _ hb') (hE j).symm (hl.blk j _ (hm' j _ hj0 hb'))
  ·obtain ⟨r,g1,g2,g3⟩:=hrel.blk i b hib
   refine ⟨r, ?_,g2,g3⟩
   rw [hfr _ (Array.getElem?_eq_some_iff.1 g1).1 fun j hj e=>hex ⟨j,hj, ?_⟩]
   ·exact g1
   ·obtain ⟨b',hb'⟩:=Option.isSome_iff_exists.1 hj
    rw [hE] at e
    exact hrel.inj _ _ (by rw [hm j b' hb'];rfl) (by rw [hib];rfl) e
 ·obtain ⟨b',hb'⟩:=Option.isSome_iff_exists.1 hi
  rw [hE]
  exact hne _ (by rw [hm i b' hb'];rfl)
theorem jvC {E E1:Env} {g:Nat→Option Blk} {w:World} {c b:Nat} {kc k:Blk} (hrel:Rel E g w) (hkc:g c=some kc) (hk:g b=some k) (hcb:c≠b) (o0:okL noP kc.cells=true) (o1:okL noP k.cells=true)
  (h0:E1 0=E c) (h1:E1 1=E b):Rel E1 (getM [(0,kc),(1,k)]) w:=by
 refine ⟨fun i q hq=> ?_,fun i j hi hj he=> ?_⟩
 ·rw [jz] at hq
  by_cases hi:i=0
  ·subst hi;rw [if_pos rfl] at hq;cases hq;exact kF o0 h0 (hrel.blk c _ hkc)
  ·rw [if_neg hi,jz] at hq
   by_cases hi1:i=1
   ·subst hi1;rw [if_pos rfl] at hq;cases hq;exact kF o1 h1 (hrel.blk b _ hk)
   ·rw [if_neg hi1] at hq;simp [getM] at hq
 ·have two:∀i,(getM [(0,kc),(1,k)] i).isSome→i=0∨i=1:=by
   intro i hi
   rw [jz] at hi
   by_cases h0:i=0
   ·exact .inl h0
   ·rw [if_neg h0,jz] at hi
    by_cases h1:i=1
    ·exact .inr h1
    ·rw [if_neg h1] at hi;simp [getM] at hi
  rcases two i hi with rfl | rfl <;> rcases two j hj with rfl | rfl
  ·rfl
  ·rw [h0,h1] at he;exact absurd (hrel.inj c b (by simp [hkc]) (by simp [hk]) he) hcb
  ·rw [h0,h1] at he;exact absurd (hrel.inj b c (by simp [hk]) (by simp [hkc]) he).symm hcb
  ·rfl
theorem Xj {kc k q:Blk} {i:Nat} (hq:getM [(0,kc),(1,k)] i=some q):(i=0∧q=kc)∨(i=1∧q=k):=by
 rw [jz] at hq
 by_cases hi:i=0
 ·subst hi;rw [if_pos rfl] at hq;cases hq;exact .inl ⟨rfl,rfl⟩
 ·rw [if_neg hi,jz] at hq
  by_cases hi1:i=1
  ·subst hi1;rw [if_pos rfl] at hq;cases hq;exact .inr ⟨rfl,rfl⟩
  ·rw [if_neg hi1] at hq;simp [getM] at hq
theorem jbS {kc q:Blk} {i:Nat} (hq:getM [(0,kc)] i=some q):i=0∧q=kc:=by
 rw [jz] at hq
 by_cases hi:i=0
 ·subst hi;rw [if_pos rfl] at hq;cases hq;exact ⟨rfl,rfl⟩
 ·rw [if_neg hi] at hq;simp [getM] at hq
theorem jyS {E E1:Env} {g:Nat→Option Blk} {w:World} {c:Nat} {kc:Blk} (hrel:Rel E g w) (hkc:g c=some kc) (o0:okL noP kc.cells=true) (h0:E1 0=E c):Rel E1 (getM [(0,kc)]) w:=by
 refine ⟨fun i q hq=> ?_,fun i j hi hj he=> ?_⟩
 ·obtain ⟨rfl,rfl⟩:=jbS hq;exact kF o0 h0 (hrel.blk c _ hkc)
 ·obtain ⟨q,hq⟩:=Option.isSome_iff_exists.1 hi
  obtain ⟨q',hq'⟩:=Option.isSome_iff_exists.1 hj
  rw [(jbS hq).1,(jbS hq').1]
def jap (a b:Nat):Nat→Nat
 | 0=>a
 | _=>b
theorem kf {g:Nat→Option Blk} {b:Nat} {l:List Nat} {r:List Blk} (h:jE g (b::l)=some r):∃k r',g b=some k∧jE g l=some r'∧r=k::r':=by
 simp only [jE] at h
 split at h
 ·rename_i k r' hk hr;cases h;exact ⟨k,r',hk,hr,rfl⟩
 ·cases h
theorem kP {g:Nat→Option Blk} {r:List Blk} (h:jE g []=some r):r=[]:=by simp only [jE] at h;cases h;rfl
theorem jaq {l:List At} {o m:Nat} (h:qJ ((l.drop o).take m)=true) (hl:o+m≤l.length):(kQ ((l.drop o).take m)).length=m∧IntsAt l o (kQ ((l.drop o).take m)):=by
 have e:(kQ ((l.drop o).take m)).length=m:=by rw [jiy,List.length_take,List.length_drop];omega
 refine ⟨e,fun j hj=> ?_⟩
 have h1:=jgg _ h j hj
 rw [e] at hj
 rw [KX,Nat.zero_add,List.getElem?_take,if_pos (by omega),List.getElem?_drop,←KX] at h1
 exact h1
theorem yw {es b:Nat} {s:LV} {k:Blk} {xs:List Int} {cs:List (Bool×Bool)} {E:Env} {w:World} (h:jao es s k=some (xs,cs)) (hc:∀c∈cs,c.1=c.2) (hb:slB s=some b) (hk:blkAt E b k w):
  ∃o n c,SlAt es k o n xs∧n≤c∧∀(E':Env) (j:Nat),E' j=E b→s.den E=(LV.v (.one (.slx j o n c))).den E':=by
 unfold jao at h
 split at h
 ·rename_i b' o n c
  cases hb
  split at h
  ·rename_i hle hx hok
   cases h
   obtain ⟨h1,h2⟩:=Yf _ _ _ hx
   exact ⟨o,n,c,⟨h1,h2.drop,hok⟩,Nat.le_of_ble_eq_true hle,fun E' j hj=>by simp only [LV.den,V1.den,At.den,hj]⟩
  ·cases h
 ·rename_i b' n
  cases hb
  split at h
  ·rename_i he h1
   cases h
   rw [xi] at he
   have he':k.es=es:=by simpa using he
   have h1':1≤es:=Nat.le_of_ble_eq_true h1
   have:=hc _ (List.mem_singleton.2 rfl)
   simp only [Bool.and_eq_true,decide_eq_true_eq] at this
   obtain ⟨a1,a2,a3⟩:=this
   have ht:=jaq (l:=k.cells) (o:=0) (m:=n*es) (by simpa using a1) (by omega)
   simp only [List.drop_zero] at ht
   obtain ⟨r,g1,g2,g3⟩:=hk
   have g4:=g3 (by omega)
   have hle:n≤(E b).2:=by
    refine Nat.le_of_mul_le_mul_right (c:=es) ?_ (by omega)
    rw [he'] at g4
    omega
   exact ⟨0,n,(E b).2,⟨ht.1,ht.2,a2⟩,hle,fun E' j hj=>by simp only [LV.den,V1.den,At.den,hj,Nat.zero_add]⟩
  ·cases h
 ·rename_i b' o n c
  cases hb
  cases h
  have:=hc _ (List.mem_singleton.2 rfl)
  simp only [Bool.and_eq_true,decide_eq_true_eq] at this
  obtain ⟨a1,a2,a3,a4⟩:=this
  have ht:=jaq a1 a3
  exact ⟨o,n,c,⟨ht.1,ht.2,a2⟩,a4,fun E' j hj=>by simp only [LV.den,V1.den,At.den,hj]⟩
 ·cases h
theorem jjN {es:Nat} {xs:List Int} {g:Nat→Option Blk}:∀(pre:List LV) (rest:List LV) (rdB:List Blk) (bl:List Nat) (cs0:List (Bool×Bool)),rdA rest=some bl→jE g bl=some rdB→avA es rest rdB=some (pre.map AV.pl++[.ints xs],cs0)→(∀c∈cs0,c.1=c.2)→
 ke pre=true∧((∃s b k cs,rest=pre++[s]∧slB s=some b∧bl=[b]∧g b=some k∧jao es s k=some (xs,cs)∧∀c∈cs,c.1=c.2)∨(rest=pre++[.v (.one .nilsl)]∧xs=[])):=by
 intro pre
 induction pre with
 | nil=>
  intro rest rdB bl cs0 h1 h2 h3 h4
  refine ⟨rfl, ?_⟩
  cases rest with
  | nil=>simp [avA] at h3
  | cons s rest=>
   simp only [avA,List.map_nil,List.nil_append] at h3
   split at h3
   ·rename_i b hsl
    simp only [rdA,hsl] at h1
    split at h1
    ·rename_i r hr1
     cases h1
     obtain ⟨k,r',hk,hr',rfl⟩:=kf h2
     simp only at h3
     split at h3
     ·rename_i xs' cs1 hx
      split at h3
      ·rename_i r2 cs2 hav
       simp only [Option.some.injEq,Prod.mk.injEq,List.cons.injEq,AV.ints.injEq] at h3
       obtain ⟨⟨rfl,jde⟩,hcs⟩:=h3
       subst jde
       subst hcs
       cases rest with
       | nil=>
        simp only [rdA] at hr1
        cases hr1
        exact .inl ⟨s,b,k,cs1,rfl,hsl,rfl,hk,hx,fun c hcm=>h4 c (List.mem_append_left _ hcm)⟩
       | cons s2 rest2=>
        exfalso
        simp only [avA] at hav
        (repeat' split at hav) <;> simp at hav
      ·cases h3
     ·cases h3
    ·cases h1
   ·rename_i hsl
    split at h3
    ·rename_i jde
     split at h3
     ·rename_i r2 cs2 hav
      simp only [Option.some.injEq,Prod.mk.injEq,List.cons.injEq,AV.ints.injEq] at h3
      obtain ⟨⟨hx,hn2⟩,hcs⟩:=h3
      subst hn2
      cases rest with
      | nil=>
       refine .inr ⟨?_,hx.symm⟩
       unfold jgh at jde
       split at jde
       ·rfl
       ·cases jde
      | cons s2 rest2=>
       exfalso
       simp only [avA] at hav
       (repeat' split at hav) <;> simp at hav
     ·cases h3
    ·split at h3 <;> simp at h3
 | cons q pre ih=>
  intro rest rdB bl cs0 h1 h2 h3 h4
  cases rest with
  | nil=>simp [avA] at h3
  | cons s rest=>
   simp only [avA,List.map_cons,List.cons_append] at h3
   split at h3
   ·rename_i b hsl
    (repeat' split at h3) <;> simp at h3
   ·rename_i hsl
    split at h3
    ·(repeat' split at h3) <;> simp at h3
    ·split at h3
     ·rename_i r2 cs2 hav
      simp only [Option.some.injEq,Prod.mk.injEq,List.cons.injEq,AV.pl.injEq] at h3
      obtain ⟨⟨rfl,hr2⟩,rfl⟩:=h3
      simp only [rdA,hsl] at h1
      split at h1
      ·rename_i hq
       rw [hr2] at hav
       obtain ⟨i1,i2⟩:=ih rest rdB bl cs2 h1 h2 hav h4
       refine ⟨by simp only [ke,hq,i1], ?_⟩
       rcases i2 with ⟨s',b,k,cs',e1,e2⟩ | ⟨e1,e2⟩
       ·exact .inl ⟨s',b,k,cs',by rw [e1];rfl,e2⟩
       ·exact .inr ⟨by rw [e1];rfl,e2⟩
      ·cases h1
     ·cases h3
theorem jar {f:FuncId} (ho:Own P f) {ty:TypeId} {es:Nat} {F:List AV→Bool→Option (LV×Bool×List (Bool×Bool))}
  (hF1:∀avs hb r,F avs hb=some r→∃(pre:List LV) (xs:List Int),avs=pre.map AV.pl++[.ints xs])
  (h:∀(pre:List LV) (xs:List Int) (hb:Bool) (v:LV) (h':Bool) (cs:List (Bool×Bool)),F (pre.map AV.pl++[.ints xs]) hb=some (v,h',cs)→(∀c∈cs,c.1=c.2)→ke pre=true→v.ok noP=true→
   (∀(k:Blk) (o n c:Nat),SlAt es k o n xs→n≤c→∀(E:Env) (w:World),Rel E (getM [(0,flag ty hb),(1,k)]) w→
    Calls P f ((A0::(pre++[.v (.one (.slx 1 o n c))])).map (LV.den E)).toArray w fun e w'=>e = .returned (v.den E0)∧Lcl E [(0,flag ty hb),(1,k)] [(0,flag ty h'),(1,k)] w w')∧
   (xs=[]→∀(E:Env) (w:World),Rel E (getM [(0,flag ty hb)]) w→
    Calls P f ((A0::(pre++[.v (.one .nilsl)])).map (LV.den E)).toArray w fun e w'=>e = .returned (v.den E0)∧Lcl E [(0,flag ty hb)] [(0,flag ty h')] w w')):SumOK P f (yv ty es F):=by
 intro args t g nb p rdB wrB ans ws E w hs hr hw _ hgo hz hc hrel hg hargs hn
 unfold yv at hs
 split at hs
 ·rename_i c rest
  split at hs
  ·rename_i bl hbl
   split at hs
   ·rename_i hmem
    cases hs
    simp only at hgo hw hr
    split at hgo
    ·rename_i t' hb
     split at hgo
     ·rename_i hty
      rw [xi] at hty
      have hty':t'=ty:=by simpa using hty
      subst hty'
      split at hgo
      ·rename_i avs cs0 has
       split at hgo
       ·rename_i v h' cs hF
        split at hgo
        ·rename_i hv
         cases hgo
         obtain ⟨kc,r',hkc,hr',hrr⟩:=kf hw
         cases kP hr'
         cases hrr
         simp only [Xm] at hz
         cases hz
         simp only at hc ⊢
         have hc0:∀c∈cs0,c.1=c.2:=fun c hcm=>hc c (List.mem_append_left _ hcm)
         have hc1:∀c∈cs,c.1=c.2:=fun c hcm=>hc c (List.mem_append_right _ hcm)
         obtain ⟨pre,xs,rfl⟩:=hF1 _ _ _ hF
         obtain ⟨hp,hcase⟩:=jjN (es:=es) (xs:=xs) (g:=g) pre rest rdB bl cs0 hbl hr has hc0
         obtain ⟨H1,H2⟩:=h pre xs hb v h' cs hF hc1 hp hv
         have hpre:=plainVs_iff.1 hp
         have hf0:(⟨t',(0,0),0,[.bool hb]⟩:Blk)=flag t' hb:=rfl
         rw [hf0] at hkc
         rcases hcase with ⟨s,b,k,csl,rfl,hsl,rfl,hk,hsi,hcl0⟩ | ⟨rfl,hx⟩
         ·have hcb:c≠b:=fun e=>by rw [e] at hmem;simp [Jg] at hmem
          obtain ⟨o,n,cc,hsa,hncc,hden⟩:=yw hsi hcl0 hsl (hrel.blk b k hk)
          generalize hE1:(fun i=>E (jap c b i))=E1
          have hE:∀i,E1 i=E (jap c b i):=fun i=>by rw [←hE1]
          have hcl:=H1 k o n cc hsa hncc E1 w (jvC hrel hkc hk hcb rfl hsa.2.2 (hE 0) (hE 1))
          refine JG ho hE hrel hkc rfl rfl (fun i q hq=> ?_) (fun i q h0 hq=> ?_) (fun i q hq=> ?_) ?_ hv hcl
          ·rcases Xj hq with ⟨rfl,rfl⟩ | ⟨rfl,rfl⟩
           ·exact hkc
           ·exact hk
          ·rw [jz,if_neg h0] at hq ⊢;exact hq
          ·rcases Xj hq with ⟨rfl,rfl⟩ | ⟨rfl,rfl⟩
           ·rfl
           ·exact hsa.2.2
          ·simp only [List.map_cons,List.map_append,List.map_nil]
           rw [hden E1 1 (hE 1),j9 hpre,j9 (E:=E1) hpre]
           congr 1
           show LV.den E (.v (.one (.ptr c 0)))=LV.den E1 (.v (.one (.ptr 0 0)))
           simp only [LV.den,V1.den,At.den,hE,jap]
         ·generalize hE1:(fun _:Nat=>E c)=E1
          have hE:∀i,E1 i=E ((fun _=>c) i):=fun i=>by rw [←hE1]
          have hcl:=H2 hx E1 w (jyS hrel hkc rfl (hE 0))
          refine JG ho hE hrel hkc rfl rfl (fun i q hq=> ?_) (fun i q h0 hq=> ?_) (fun i q hq=> ?_) ?_ hv hcl
          ·obtain ⟨rfl,rfl⟩:=jbS hq;exact hkc
          ·exact absurd (jbS hq).1 h0
          ·obtain ⟨rfl,rfl⟩:=jbS hq;rfl
          ·simp only [List.map_cons,List.map_append,List.map_nil]
           rw [j9 hpre,j9 (E:=E1) hpre]
           congr 1
           show LV.den E (.v (.one (.ptr c 0)))=LV.den E1 (.v (.one (.ptr 0 0)))
           simp only [LV.den,V1.den,At.den,hE]
        ·cases hgo
       ·cases hgo
      ·cases hgo
     ·cases hgo
    ·cases hgo
   ·cases hs
  ·cases hs
 ·cases hs
end
end Go.Lr

/- The local evaluator: summaries of functions that are handed two slices of numbers. -/
namespace Go.Lr
open Go.RowKit
section
variable {P:Program} {S:FuncId→Option SumK} {z:Md}
def jlL (es:Nat) (g:Nat→Option Blk) (s:LV) (bs:List Nat) (xs:List Int):Prop:=
 (∃b k cs,slB s=some b∧bs=[b]∧g b=some k∧jao es s k=some (xs,cs)∧∀c∈cs,c.1=c.2)∨(s = .v (.one .nilsl)∧bs=[]∧xs=[])
theorem jgi {es:Nat} {xs:List Int} {g:Nat→Option Blk} {rest:List LV} {rdB:List Blk} {bl:List Nat} {cs0:List (Bool×Bool)} (h1:rdA rest=some bl) (h2:jE g bl=some rdB) (h3:avA es rest rdB=some ([.ints xs],cs0)) (h4:∀c∈cs0,c.1=c.2):
  ∃s,rest=[s]∧jlL es g s bl xs:=by
 obtain ⟨-,h⟩:=jjN (es:=es) (xs:=xs) (g:=g) [] rest rdB bl cs0 h1 h2 h3 h4
 rcases h with ⟨s,b,k,cs,e,h⟩ | ⟨e,h⟩
 ·exact ⟨s,e,.inl ⟨b,k,cs,h⟩⟩
 ·refine ⟨_,e,.inr ⟨rfl, ?_,h⟩⟩
  rw [e] at h1
  cases h1
  rfl
theorem jqt {es:Nat} {xs ys:List Int} {g:Nat→Option Blk}:∀(pre:List LV) (rest:List LV) (rdB:List Blk) (bl:List Nat) (cs0:List (Bool×Bool)),rdA rest=some bl→jE g bl=some rdB→avA es rest rdB=some (pre.map AV.pl++[.ints xs,.ints ys],cs0)→(∀c∈cs0,c.1=c.2)→
 ke pre=true∧∃s1 s2 b1 b2,rest=pre++[s1,s2]∧bl=b1++b2∧jlL es g s1 b1 xs∧jlL es g s2 b2 ys:=by
 intro pre
 induction pre with
 | nil=>
  intro rest rdB bl cs0 h1 h2 h3 h4
  refine ⟨rfl, ?_⟩
  cases rest with
  | nil=>simp [avA] at h3
  | cons s rest=>
   simp only [avA,List.map_nil,List.nil_append] at h3
   split at h3
   ·rename_i b hsl
    simp only [rdA,hsl] at h1
    split at h1
    ·rename_i r hr1
     cases h1
     obtain ⟨k,r',hk,hr',rfl⟩:=kf h2
     simp only at h3
     split at h3
     ·rename_i xs' cs1 hx
      split at h3
      ·rename_i r2 cs2 hav
       simp only [Option.some.injEq,Prod.mk.injEq,List.cons.injEq,AV.ints.injEq] at h3
       obtain ⟨⟨rfl,jde⟩,hcs⟩:=h3
       subst jde
       subst hcs
       obtain ⟨s2,rfl,h⟩:=jgi hr1 hr' hav fun c hcm=>h4 c (List.mem_append_right _ hcm)
       exact ⟨s,s2,[b],r,rfl,rfl,.inl ⟨b,k,cs1,hsl,rfl,hk,hx,fun c hcm=>h4 c (List.mem_append_left _ hcm)⟩,h⟩
      ·cases h3
     ·cases h3
    ·cases h1
   ·rename_i hsl
    split at h3
    ·rename_i jde
     split at h3
     ·rename_i r2 cs2 hav
      simp only [Option.some.injEq,Prod.mk.injEq,List.cons.injEq,AV.ints.injEq] at h3
      obtain ⟨⟨hx,hn2⟩,hcs⟩:=h3
      subst hn2
      simp only [rdA,hsl] at h1
      split at h1
      ·obtain ⟨s2,rfl,h⟩:=jgi h1 h2 hav fun c hcm=>h4 c (by rw [←hcs];exact hcm)
       refine ⟨s,s2,[],bl,rfl,rfl,.inr ⟨?_,rfl,hx.symm⟩,h⟩
       unfold jgh at jde
       split at jde
       ·rfl
       ·cases jde
      ·cases h1
     ·cases h3
    ·split at h3 <;> simp at h3
 | cons q pre ih=>
  intro rest rdB bl cs0 h1 h2 h3 h4
  cases rest with
  | nil=>simp [avA] at h3
  | cons s rest=>
   simp only [avA,List.map_cons,List.cons_append] at h3
   split at h3
   ·rename_i b hsl
    (repeat' split at h3) <;> simp at h3
   ·rename_i hsl
    split at h3
    ·(repeat' split at h3) <;> simp at h3
    ·split at h3
     ·rename_i r2 cs2 hav
      simp only [Option.some.injEq,Prod.mk.injEq,List.cons.injEq,AV.pl.injEq] at h3
      obtain ⟨⟨rfl,hr2⟩,rfl⟩:=h3
      simp only [rdA,hsl] at h1
      split at h1
      ·rename_i hq
       rw [hr2] at hav
       obtain ⟨i1,s1,s2,b1,b2,i2,i3⟩:=ih rest rdB bl cs2 h1 h2 hav h4
       exact ⟨by simp only [ke,hq,i1],s1,s2,b1,b2,by rw [i2];rfl,i3⟩
      ·cases h1
     ·cases h3
theorem jec {kc k1 k2 q:Blk} {i:Nat} (hq:getM [(0,kc),(1,k1),(2,k2)] i=some q):(i=0∧q=kc)∨(i=1∧q=k1)∨(i=2∧q=k2):=by
 rw [jz] at hq
 by_cases hi:i=0
 ·subst hi;rw [if_pos rfl] at hq;cases hq;exact .inl ⟨rfl,rfl⟩
 ·rw [if_neg hi,jz] at hq
  by_cases hi1:i=1
  ·subst hi1;rw [if_pos rfl] at hq;cases hq;exact .inr (.inl ⟨rfl,rfl⟩)
  ·rw [if_neg hi1,jz] at hq
   by_cases hi2:i=2
   ·subst hi2;rw [if_pos rfl] at hq;cases hq;exact .inr (.inr ⟨rfl,rfl⟩)
   ·rw [if_neg hi2] at hq;simp [getM] at hq
theorem jEn {E E1:Env} {g:Nat→Option Blk} {w:World} {c b1 b2:Nat} {kc k1 k2:Blk} (hrel:Rel E g w) (hkc:g c=some kc) (hk1:g b1=some k1) (hk2:g b2=some k2) (h01:c≠b1) (h02:c≠b2) (h12:b1≠b2)
  (o0:okL noP kc.cells=true) (o1:okL noP k1.cells=true) (o2:okL noP k2.cells=true) (h0:E1 0=E c) (h1:E1 1=E b1) (h2:E1 2=E b2):Rel E1 (getM [(0,kc),(1,k1),(2,k2)]) w:=by
 refine ⟨fun i q hq=> ?_,fun i j hi hj he=> ?_⟩
 ·rcases jec hq with ⟨rfl,rfl⟩ | ⟨rfl,rfl⟩ | ⟨rfl,rfl⟩
  ·exact kF o0 h0 (hrel.blk c _ hkc)
  ·exact kF o1 h1 (hrel.blk b1 _ hk1)
  ·exact kF o2 h2 (hrel.blk b2 _ hk2)
 ·have i01:∀{a b},(g a).isSome→(g b).isSome→a≠b→(E a).1≠(E b).1:=fun ha hb hn e=>hn (hrel.inj _ _ ha hb e)
  have sc:(g c).isSome:=by rw [hkc];rfl
  have s1:(g b1).isSome:=by rw [hk1];rfl
  have s2:(g b2).isSome:=by rw [hk2];rfl
  obtain ⟨qi,hqi⟩:=Option.isSome_iff_exists.1 hi
  obtain ⟨qj,hqj⟩:=Option.isSome_iff_exists.1 hj
  rcases jec hqi with ⟨rfl,-⟩ | ⟨rfl,-⟩ | ⟨rfl,-⟩ <;> rcases jec hqj with ⟨rfl,-⟩ | ⟨rfl,-⟩ | ⟨rfl,-⟩
  ·rfl
  ·rw [h0,h1] at he;exact absurd he (i01 sc s1 h01)
  ·rw [h0,h2] at he;exact absurd he (i01 sc s2 h02)
  ·rw [h0,h1] at he;exact absurd he.symm (i01 sc s1 h01)
  ·rfl
  ·rw [h1,h2] at he;exact absurd he (i01 s1 s2 h12)
  ·rw [h0,h2] at he;exact absurd he.symm (i01 sc s2 h02)
  ·rw [h1,h2] at he;exact absurd he.symm (i01 s1 s2 h12)
  ·rfl
def jjO (a b c:Nat):Nat→Nat
 | 0=>a
 | 1=>b
 | _=>c
def NIL:LV:= .v (.one .nilsl)
def SLX (b o n c:Nat):LV:= .v (.one (.slx b o n c))
structure Two (P:Program) (f:FuncId) (ty:TypeId) (es:Nat) (pre:List LV) (xs ys:List Int) (hb h':Bool) (v:LV):Prop where
 two:∀(k1:Blk) (o1 n1 c1:Nat) (k2:Blk) (o2 n2 c2:Nat),SlAt es k1 o1 n1 xs→SlAt es k2 o2 n2 ys→∀(E:Env) (w:World),Rel E (getM [(0,flag ty hb),(1,k1),(2,k2)]) w→
  Calls P f ((A0::(pre++[SLX 1 o1 n1 c1,SLX 2 o2 n2 c2])).map (LV.den E)).toArray w fun e w'=>e = .returned (v.den E0)∧Lcl E [(0,flag ty hb),(1,k1),(2,k2)] [(0,flag ty h'),(1,k1),(2,k2)] w w'
 one:∀(k:Blk) (o1 n1 c1:Nat) (o2 n2 c2:Nat),SlAt es k o1 n1 xs→SlAt es k o2 n2 ys→∀(E:Env) (w:World),Rel E (getM [(0,flag ty hb),(1,k)]) w→
  Calls P f ((A0::(pre++[SLX 1 o1 n1 c1,SLX 1 o2 n2 c2])).map (LV.den E)).toArray w fun e w'=>e = .returned (v.den E0)∧Lcl E [(0,flag ty hb),(1,k)] [(0,flag ty h'),(1,k)] w w'
 right:xs=[]→∀(k:Blk) (o n c:Nat),SlAt es k o n ys→∀(E:Env) (w:World),Rel E (getM [(0,flag ty hb),(1,k)]) w→
  Calls P f ((A0::(pre++[NIL,SLX 1 o n c])).map (LV.den E)).toArray w fun e w'=>e = .returned (v.den E0)∧Lcl E [(0,flag ty hb),(1,k)] [(0,flag ty h'),(1,k)] w w'
 left:ys=[]→∀(k:Blk) (o n c:Nat),SlAt es k o n xs→∀(E:Env) (w:World),Rel E (getM [(0,flag ty hb),(1,k)]) w→
  Calls P f ((A0::(pre++[SLX 1 o n c,NIL])).map (LV.den E)).toArray w fun e w'=>e = .returned (v.den E0)∧Lcl E [(0,flag ty hb),(1,k)] [(0,flag ty h'),(1,k)] w w'
 none:xs=[]→ys=[]→∀(E:Env) (w:World),Rel E (getM [(0,flag ty hb)]) w→
  Calls P f ((A0::(pre++[NIL,NIL])).map (LV.den E)).toArray w fun e w'=>e = .returned (v.den E0)∧Lcl E [(0,flag ty hb)] [(0,flag ty h')] w w'
theorem jgj {f:FuncId} (ho:Own P f) {ty:TypeId} {es:Nat} {F:List AV→Bool→Option (LV×Bool×List (Bool×Bool))}
  (hF1:∀avs hb r,F avs hb=some r→∃(pre:List LV) (xs ys:List Int),avs=pre.map AV.pl++[.ints xs,.ints ys])
  (h:∀(pre:List LV) (xs ys:List Int) (hb:Bool) (v:LV) (h':Bool) (cs:List (Bool×Bool)),F (pre.map AV.pl++[.ints xs,.ints ys]) hb=some (v,h',cs)→(∀c∈cs,c.1=c.2)→ke pre=true→v.ok noP=true→
   Two P f ty es pre xs ys hb h' v):SumOK P f (yv ty es F):=by
 intro args t g nb p rdB wrB ans ws E w hs hr hw _ hgo hz hc hrel hg hargs hn
 unfold yv at hs
 split at hs
 ·rename_i c rest
  split at hs
  ·rename_i bl hbl
   split at hs
   ·rename_i hmem
    cases hs
    simp only at hgo hw hr
    split at hgo
    ·rename_i t' hb
     split at hgo
     ·rename_i hty
      rw [xi] at hty
      have hty':t'=ty:=by simpa using hty
      subst hty'
      split at hgo
      ·rename_i avs cs0 has
       split at hgo
       ·rename_i v h' cs hF
        split at hgo
        ·rename_i hv
         cases hgo
         obtain ⟨kc,r',hkc,hr',hrr⟩:=kf hw
         cases kP hr'
         cases hrr
         simp only [Xm] at hz
         cases hz
         simp only at hc ⊢
         have hc0:∀c∈cs0,c.1=c.2:=fun c hcm=>hc c (List.mem_append_left _ hcm)
         have hc1:∀c∈cs,c.1=c.2:=fun c hcm=>hc c (List.mem_append_right _ hcm)
         obtain ⟨pre,xs,ys,rfl⟩:=hF1 _ _ _ hF
         obtain ⟨hp,s1,s2,b1,b2,rfl,rfl,hs1,hs2⟩:=jqt (es:=es) (xs:=xs) (ys:=ys) (g:=g) pre rest rdB bl cs0 hbl hr has hc0
         have H:=h pre xs ys hb v h' cs hF hc1 hp hv
         have hpre:=plainVs_iff.1 hp
         have hf0:(⟨t',(0,0),0,[.bool hb]⟩:Blk)=flag t' hb:=rfl
         rw [hf0] at hkc
         have hnc:∀b∈b1++b2,c≠b:=fun b hbm e=>by
          subst e
          have:=xG hmem
          exact this hbm
         rcases hs1 with ⟨d1,k1,q1,e1,rfl,hk1,hi1,hq1⟩ | ⟨rfl,rfl,rfl⟩ <;> rcases hs2 with ⟨d2,k2,q2,e2,rfl,hk2,hi2,hq2⟩ | ⟨rfl,rfl,rfl⟩
         ·obtain ⟨o1,n1,cc1,hsa1,-,hden1⟩:=yw hi1 hq1 e1 (hrel.blk d1 k1 hk1)
          obtain ⟨o2,n2,cc2,hsa2,-,hden2⟩:=yw hi2 hq2 e2 (hrel.blk d2 k2 hk2)
          have hc1:c≠d1:=hnc d1 (by simp)
          have hc2:c≠d2:=hnc d2 (by simp)
          by_cases hd:d1=d2
          ·subst hd
           rw [hk1] at hk2
           cases hk2
           generalize hE1:(fun i=>E (jap c d1 i))=E1
           have hE:∀i,E1 i=E (jap c d1 i):=fun i=>by rw [←hE1]
           have hcl:=H.one k1 o1 n1 cc1 o2 n2 cc2 hsa1 hsa2 E1 w (jvC hrel hkc hk1 hc1 rfl hsa1.2.2 (hE 0) (hE 1))
           refine JG ho hE hrel hkc rfl rfl (fun i q hq=> ?_) (fun i q h0 hq=> ?_) (fun i q hq=> ?_) ?_ hv hcl
           ·rcases Xj hq with ⟨rfl,rfl⟩ | ⟨rfl,rfl⟩
            ·exact hkc
            ·exact hk1
           ·rw [jz,if_neg h0] at hq ⊢;exact hq
           ·rcases Xj hq with ⟨rfl,rfl⟩ | ⟨rfl,rfl⟩
            ·rfl
            ·exact hsa1.2.2
           ·simp only [List.map_cons,List.map_append,List.map_nil]
            rw [hden1 E1 1 (hE 1),hden2 E1 1 (hE 1),j9 hpre,j9 (E:=E1) hpre]
            congr 1
            show LV.den E (.v (.one (.ptr c 0)))=LV.den E1 (.v (.one (.ptr 0 0)))
            simp only [LV.den,V1.den,At.den,hE,jap]
          ·generalize hE1:(fun i=>E (jjO c d1 d2 i))=E1
           have hE:∀i,E1 i=E (jjO c d1 d2 i):=fun i=>by rw [←hE1]
           have hcl:=H.two k1 o1 n1 cc1 k2 o2 n2 cc2 hsa1 hsa2 E1 w (jEn hrel hkc hk1 hk2 hc1 hc2 hd rfl hsa1.2.2 hsa2.2.2 (hE 0) (hE 1) (hE 2))
           refine JG ho hE hrel hkc rfl rfl (fun i q hq=> ?_) (fun i q h0 hq=> ?_) (fun i q hq=> ?_) ?_ hv hcl
           ·rcases jec hq with ⟨rfl,rfl⟩ | ⟨rfl,rfl⟩ | ⟨rfl,rfl⟩
            ·exact hkc
            ·exact hk1
            ·exact hk2
           ·rw [jz,if_neg h0] at hq ⊢;exact hq
           ·rcases jec hq with ⟨rfl,rfl⟩ | ⟨rfl,rfl⟩ | ⟨rfl,rfl⟩
            ·rfl
            ·exact hsa1.2.2
            ·exact hsa2.2.2
           ·simp only [List.map_cons,List.map_append,List.map_nil]
            rw [hden1 E1 1 (hE 1),hden2 E1 2 (hE 2),j9 hpre,j9 (E:=E1) hpre]
            congr 1
            show LV.den E (.v (.one (.ptr c 0)))=LV.den E1 (.v (.one (.ptr 0 0)))
            simp only [LV.den,V1.den,At.den,hE,jjO]
         ·obtain ⟨o1,n1,cc1,hsa1,-,hden1⟩:=yw hi1 hq1 e1 (hrel.blk d1 k1 hk1)
          have hc1:c≠d1:=hnc d1 (by simp)
          generalize hE1:(fun i=>E (jap c d1 i))=E1
          have hE:∀i,E1 i=E (jap c d1 i):=fun i=>by rw [←hE1]
          have hcl:=H.left rfl k1 o1 n1 cc1 hsa1 E1 w (jvC hrel hkc hk1 hc1 rfl hsa1.2.2 (hE 0) (hE 1))
          refine JG ho hE hrel hkc rfl rfl (fun i q hq=> ?_) (fun i q h0 hq=> ?_) (fun i q hq=> ?_) ?_ hv hcl
          ·rcases Xj hq with ⟨rfl,rfl⟩ | ⟨rfl,rfl⟩
           ·exact hkc
           ·exact hk1
          ·rw [jz,if_neg h0] at hq ⊢;exact hq
          ·rcases Xj hq with ⟨rfl,rfl⟩ | ⟨rfl,rfl⟩
           ·rfl
           ·exact hsa1.2.2
          ·simp only [List.map_cons,List.map_append,List.map_nil]
           rw [hden1 E1 1 (hE 1),j9 hpre,j9 (E:=E1) hpre]
           congr 1
           show LV.den E (.v (.one (.ptr c 0)))=LV.den E1 (.v (.one (.ptr 0 0)))
           simp only [LV.den,V1.den,At.den,hE,jap]
         ·obtain ⟨o1,n1,cc1,hsa1,-,hden1⟩:=yw hi2 hq2 e2 (hrel.blk d2 k2 hk2)
          have hc1:c≠d2:=hnc d2 (by simp)
          generalize hE1:(fun i=>E (jap c d2 i))=E1
          have hE:∀i,E1 i=E (jap c d2 i):=fun i=>by rw [←hE1]
          have hcl:=H.right rfl k2 o1 n1 cc1 hsa1 E1 w (jvC hrel hkc hk2 hc1 rfl hsa1.2.2 (hE 0) (hE 1))
          refine JG ho hE hrel hkc rfl rfl (fun i q hq=> ?_) (fun i q h0 hq=> ?_) (fun i q hq=> ?_) ?_ hv hcl
          ·rcases Xj hq with ⟨rfl,rfl⟩ | ⟨rfl,rfl⟩
           ·exact hkc
           ·exact hk2
          ·rw [jz,if_neg h0] at hq ⊢;exact hq
          ·rcases Xj hq with ⟨rfl,rfl⟩ | ⟨rfl,rfl⟩
           ·rfl
           ·exact hsa1.2.2
          ·simp only [List.map_cons,List.map_append,List.map_nil]
           rw [hden1 E1 1 (hE 1),j9 hpre,j9 (E:=E1) hpre]
           congr 1
           show LV.den E (.v (.one (.ptr c 0)))=LV.den E1 (.v (.one (.ptr 0 0)))
           simp only [LV.den,V1.den,At.den,hE,jap]
         ·generalize hE1:(fun _:Nat=>E c)=E1
          have hE:∀i,E1 i=E ((fun _=>c) i):=fun i=>by rw [←hE1]
          have hcl:=H.none rfl rfl E1 w (jyS hrel hkc rfl (hE 0))
          refine JG ho hE hrel hkc rfl rfl (fun i q hq=> ?_) (fun i q h0 hq=> ?_) (fun i q hq=> ?_) ?_ hv hcl
          ·obtain ⟨rfl,rfl⟩:=jbS hq;exact hkc
          ·exact absurd (jbS hq).1 h0
          ·obtain ⟨rfl,rfl⟩:=jbS hq;rfl
          ·simp only [List.map_cons,List.map_append,List.map_nil]
           rw [j9 hpre,j9 (E:=E1) hpre]
           congr 1
           show LV.den E (.v (.one (.ptr c 0)))=LV.den E1 (.v (.one (.ptr 0 0)))
           simp only [LV.den,V1.den,At.den,hE]
        ·cases hgo
       ·cases hgo
      ·cases hgo
     ·cases hgo
    ·cases hgo
   ·cases hs
  ·cases hs
 ·cases hs
end
end Go.Lr

/- The local evaluator: what is not in the log of what was written lies as it lay. -/
set_option linter.unusedVariables false
namespace Go.Lr
structure Kept (s s':St):Prop where
 lg:∀i∈s.lg,i∈s'.lg
 nb:s.nb≤s'.nb
 mem:∀i,i<s.nb→i ∉ s'.lg→getM s'.mem i=getM s.mem i
theorem Kept.refl (s:St):Kept s s:=⟨fun _ h=>h,Nat.le_refl _,fun _ _ _=>rfl⟩
theorem Kept.trans {a b c:St} (h:Kept a b) (k:Kept b c):Kept a c:=
 ⟨fun i hi=>k.lg i (h.lg i hi),Nat.le_trans h.nb k.nb,fun i hi hn=>by rw [k.mem i (Nat.lt_of_lt_of_le hi h.nb) hn,h.mem i hi fun hh=>hn (k.lg i hh)]⟩
theorem Kept.of {a b a' b':St} (h:Kept a b) (h1:a'.lg=a.lg) (h2:a'.nb=a.nb) (h3:a'.mem=a.mem) (h4:b'.lg=b.lg) (h5:b'.nb=b.nb) (h6:b'.mem=b.mem):Kept a' b':=
 ⟨by rw [h1,h4];exact h.lg,by rw [h2,h5];exact h.nb,by rw [h2,h3,h4,h6];exact h.mem⟩
theorem KL:∀(m:Mem) (i:Nat) (s:Option Blk) (j:Nat),j≠i→getM (jc2 m i s) j=getM m j
 | [],i,s,j,h=>rfl
 | (k,b)::m,i,s,j,h=>by
  simp only [jc2,xi]
  by_cases hk:k=i
  ·subst hk
   simp only [decide_true]
   cases s with
   | none=>
    simp only
    rw [jz,if_neg h]
   | some c=>
    simp only
    rw [jz,jz,if_neg h,if_neg h]
  ·simp only [hk,decide_false]
   rw [jz,jz,KL m i s j h]
theorem Jm:∀(l:List (Nat×Option Blk)) (m:Mem) (j:Nat),(∀x∈l,x.1≠j)→getM (xg m l) j=getM m j
 | [],m,j,_=>rfl
 | (i,s)::l,m,j,h=>by
  simp only [xg]
  rw [Jm l _ j fun x hx=>h x (List.mem_cons_of_mem _ hx),KL m i s j (h (i,s) (List.mem_cons_self ..)).symm]
theorem Jn:∀(l:List Blk) (m:Mem) (nb j:Nat),j<nb→getM (xh m nb l) j=getM m j
 | [],m,nb,j,_=>rfl
 | b::l,m,nb,j,h=>by
  simp only [xh]
  rw [Jn l _ (nb+1) j (by omega),jz,if_neg (by omega)]
theorem XN {β:Type} {s:St} {dst:Option Tmp} {v:LV} {k:Tr→Option β} {r:β} (h:jdm s dst v k=some r):∃tm,k tm=some r:=by
 unfold jdm at h
 split at h
 ·split at h
  ·rw [JT] at h;exact ⟨_,h⟩
  ·cases h
 ·exact ⟨_,h⟩
theorem QK {β:Type} {z:Md} {s:St} {dst:Option Tmp} {d:Dl} {dec:List (Option Bool)} {cs:List (Bool×Bool)} {k:St→Option β} {r:β} (h:jh7 z s dst d dec cs k=some r):∃s1,k s1=some r∧Kept s s1:=by
 unfold jh7 at h
 rw [JU,JV] at h
 obtain ⟨tm,h1⟩:=XN h
 rw [Kw,Kx] at h1
 obtain ⟨lg',hlg,g1,g2⟩:=Y5 s.lg d.wr (fun lg=>csK z.z d.cs s.cs fun c1=>csK z.z cs c1 fun c2=>k ⟨tm,s.sz,xh (xg s.mem d.wr) s.nb d.nw,s.nb+d.nw.length,dec,c2,lg⟩)
 rw [hlg] at h1
 obtain ⟨c1,h3,-⟩:=qh h1
 obtain ⟨c2,h5,-⟩:=qh h3
 refine ⟨_,h5,⟨g1,Nat.le_add_right _ _,fun i hi hn=> ?_⟩⟩
 show getM (xh (xg s.mem d.wr) s.nb d.nw) i=_
 rw [Jn _ _ _ _ hi,Jm]
 exact fun x hx e=>hn (e ▸ g2 x hx)
theorem KM {P:Program} {S:FuncId→Option SumK} {z:Md} {all:List Oper}:∀(l:List Oper) (s:St) (acc:List Rec) (s':St) (acc':List Rec),zp P S z all l s acc=some (s',acc')→Kept s s'
 | [],s,acc,s',acc',h=>by simp only [zp,Option.some.injEq,Prod.mk.injEq] at h;rw [←h.1];exact .refl _
 | o::l,s,acc,s',acc',h=>by
  simp only [zp] at h
  split at h
  ·obtain ⟨s1,h1,h2⟩:=QK h
   exact h2.trans (KM l s1 _ s' acc' h1)
  ·cases h
theorem jdh {β:Type} {y:Bool} {nb:Nat} {v:LV} {m:Mem} {k:Mem→β} {r:β} (h:jft y nb v m k=r):∃m',k m'=r∧∀i,i<nb→getM m' i=getM m i:=by
 unfold jft at h
 split at h
 ·exact ⟨m,h,fun _ _=>rfl⟩
 ·split at h
  ·rw [QS] at h
   exact ⟨_,h,fun i hi=>by rw [yp,if_pos hi]⟩
  ·exact ⟨m,h,fun _ _=>rfl⟩
theorem ZI {P:Program} {S:FuncId→Option SumK} {z:Md}:∀(n:Nat) (c:Cmd) (s:St) (out:Out) (s':St),exec P S z n c s=some (out,s')→Kept s s'
 | 0,c,s,out,s',h=>by simp [exec] at h
 | n+1,c,s,out,s',h=>by
  have ih:=ZI (P:=P) (S:=S) (z:=z) n
  simp only [exec,jbi] at h
  cases c with
  | code c=>
   simp only at h
   cases c with
   | skip=>simp only [qe,Option.some.injEq,Prod.mk.injEq] at h;rw [←h.2];exact .refl _
   | region id ops draw=>
    cases draw with
    | false=>simp only [qe] at h;exact ih _ _ _ _ h
    | true=>
     simp only [qe] at h
     unfold YR at h
     split at h
     ·rename_i s1 hr
      simp only [Option.some.injEq,Prod.mk.injEq] at h
      rw [←h.2]
      unfold YP at hr
      split at hr
      ·rename_i s2 acc hs2
       split at hr
       ·cases hr;exact KM _ _ _ _ _ hs2
       ·cases hr
      ·cases hr
     ·cases h
   | seq a b=>
    simp only [qe] at h
    cases hq:exec P S z n (.code a) s with
    | none=>rw [hq] at h;cases h
    | some q=>
     obtain ⟨o1,s1⟩:=q
     have k1:=ih _ _ _ _ hq
     rw [hq] at h
     unfold ye at h
     split at h
     ·rename_i s2 he
      cases he
      exact k1.trans (ih _ _ _ _ h)
     ·cases h;exact k1
   | cond c a b=>
    simp only [qe] at h
    unfold YQ at h
    split at h
    ·split at h
     ·split at h
      ·obtain ⟨c1,h1,-⟩:=qh h
       exact (ih _ _ _ _ h1).of rfl rfl rfl rfl rfl rfl
      ·obtain ⟨c1,h1,-⟩:=qh h
       exact (ih _ _ _ _ h1).of rfl rfl rfl rfl rfl rfl
      ·cases h
    ·cases h
   | block id a=>
    simp only [qe] at h
    cases hq:exec P S z n (.code a) s with
    | none=>rw [hq] at h;cases h
    | some q=>
     obtain ⟨o1,s1⟩:=q
     have k1:=ih _ _ _ _ hq
     rw [hq] at h
     unfold yl at h
     split at h
     ·rename_i i s2 he
      cases he
      split at h <;> (cases h;exact k1)
     ·cases h;exact k1
   | loop a=>
    simp only [qe] at h
    cases hq:exec P S z n (.code a) s with
    | none=>rw [hq] at h;cases h
    | some q=>
     obtain ⟨o1,s1⟩:=q
     have k1:=ih _ _ _ _ hq
     rw [hq] at h
     unfold ye at h
     split at h
     ·rename_i s2 he
      cases he
      exact k1.trans (ih _ _ _ _ h)
     ·cases h;exact k1
   | exit id=>simp only [qe,Option.some.injEq,Prod.mk.injEq] at h;rw [←h.2];exact .refl _
   | ret=>simp only [qe,Option.some.injEq,Prod.mk.injEq] at h;rw [←h.2];exact .refl _
   | _=>simp [qe] at h
  | ops all l=>
   simp only at h
   unfold YS at h
   split at h
   ·cases h;exact .refl _
   ·split at h
    split at h
    ·obtain ⟨s1,h1,h2⟩:=QK h
     exact h2.trans (ih _ _ _ _ h1)
    ·unfold jfw at h
     split at h
     ·rename_i f args _
      obtain ⟨c1,h1,-⟩:=qh h
      unfold jbh at h1
      split at h1
      ·rename_i v s1 hq
       have k1:=ih _ _ _ _ hq
       rw [JV] at h1
       obtain ⟨tm,h2⟩:=XN h1
       obtain ⟨m',h3,h4⟩:=jdh h2
       have k2:=ih _ _ _ _ h3
       refine Kept.trans (b:=⟨tm,s1.sz,m',s1.nb,s1.dec,s1.cs,s1.lg⟩) ⟨k1.lg,k1.nb,fun i hi hn=> ?_⟩ k2
       show getM m' i=_
       rw [h4 i hi,k1.mem i hi hn]
      ·cases h1
     ·split at h
      ·obtain ⟨s1,h1,h2⟩:=QK h
       exact h2.trans (ih _ _ _ _ h1)
      ·cases h
    ·cases h
  | body f args=>
   simp only at h
   unfold Qo at h
   split at h
   ·rename_i fn _
    split at h
    ·rename_i c _
     split at h
     ·rw [JW] at h
      cases hq:exec P S z n (.code c) ⟨K9 .nil 0 args,fn.ntmps,s.mem,s.nb,s.dec,s.cs,s.lg⟩ with
      | none=>rw [hq] at h;cases h
      | some q=>
       obtain ⟨o1,s1⟩:=q
       have k1:=(ih _ _ _ _ hq).of (a':=s) (b':=s1) rfl rfl rfl rfl rfl rfl
       rw [hq] at h
       unfold YT at h
       split at h
       ·rename_i s2 he
        cases he
        split at h
        ·cases h;exact k1.of rfl rfl rfl rfl rfl rfl
        ·cases h
       ·rename_i s2 he
        cases he
        split at h
        ·cases h;exact k1.of rfl rfl rfl rfl rfl rfl
        ·cases h
       ·cases h
     ·cases h
    ·cases h
   ·cases h
theorem jfb {P:Program} {S:FuncId→Option SumK} {z:Md} {n:Nat} {f:FuncId} {args:List LV} {m:Mem} {nb:Nat} {dec:List (Option Bool)} {v:LV} {m':Mem} {cs:List (Bool×Bool)} {lg:List Nat}
  (h:jyp P S z n f args m nb dec=some (v,m',cs,lg)):
  (∃s',exec P S z n (.body f args) ⟨.nil,0,m,nb,dec,[],[]⟩=some (.val v,s')∧s'.mem=m'∧s'.cs=cs)∧∀i,i<nb→i ∉ lg→getM m' i=getM m i:=by
 unfold jyp at h
 split at h
 ·rename_i v' s hq
  cases h
  exact ⟨⟨s,hq,rfl,rfl⟩,(ZI _ _ _ _ _ hq).mem⟩
 ·cases h
end Go.Lr

/- The local evaluator: summaries of any functions, made by running them on all blocks that can be got at; new blocks are told by new numbers. -/
namespace Go.Lr
open Go.RowKit
def jhc (nb:Nat):List Nat→Bool
 | []=>true
 | a::l=>match Nat.blt a nb with
  | true=>jhc nb l
  | false=>false
def JM (p:Nat→Bool):List LV→Bool
 | []=>true
 | a::l=>match a.ok p with
  | true=>JM p l
  | false=>false
def jnr (j:Nat):Nat→List Nat→Option Nat
 | _,[]=>none
 | k,a::l=>match Nat.beq a j with
  | true=>some k
  | false=>jnr j (k+1) l
def nmG (seen keys:List Nat) (nb:Nat) (i:Nat):Option Nat:=
 match Jg seen i with
 | true=>some i
 | false=>jnr i nb keys
def rnC (φ:Nat→Option Nat):List (Nat×Nat)→Option (List (Nat×Nat))
 | []=>some []
 | c::l=>match φ c.1,rnC φ l with
  | some b,some r=>some ((b,c.2)::r)
  | _,_=>none
def rnA (φ:Nat→Option Nat):At→Option At
 | .ptr b o=>match φ b with
  | some c=>some (.ptr c o)
  | none=>none
 | .sl b o n k=>match φ b with
  | some c=>some (.sl c o n k)
  | none=>none
 | .slu b n=>match φ b with
  | some c=>some (.slu c n)
  | none=>none
 | .slx b o n k=>match φ b with
  | some c=>some (.slx c o n k)
  | none=>none
 | .ptx b o=>match φ b with
  | some c=>some (.ptx c o)
  | none=>none
 | .slt b o n=>match φ b with
  | some c=>some (.slt c o n)
  | none=>none
 | .fn f caps=>match rnC φ caps with
  | some c=>some (.fn f c)
  | none=>none
 | a=>some a
def rnL (φ:Nat→Option Nat):List At→Option (List At)
 | []=>some []
 | a::l=>match rnA φ a,rnL φ l with
  | some b,some r=>some (b::r)
  | _,_=>none
def ju8 (φ:Nat→Option Nat):V1→Option V1
 | .one a=>match rnA φ a with
  | some b=>some (.one b)
  | none=>none
 | .agg l=>match rnL φ l with
  | some r=>some (.agg r)
  | none=>none
def jns (φ:Nat→Option Nat):List V1→Option (List V1)
 | []=>some []
 | a::l=>match ju8 φ a,jns φ l with
  | some b,some r=>some (b::r)
  | _,_=>none
def jv2 (φ:Nat→Option Nat):LV→Option LV
 | .v x=>match ju8 φ x with
  | some y=>some (.v y)
  | none=>none
 | .tup l=>match jns φ l with
  | some r=>some (.tup r)
  | none=>none
def rnB (φ:Nat→Option Nat) (b:Blk):Option Blk:=
 match rnL φ b.cells with
 | some l=>some ⟨b.ty,b.fr,b.es,l⟩
 | none=>none
def jnt (φ:Nat→Option Nat):List Blk→Option (List Blk)
 | []=>some []
 | a::l=>match rnB φ a,jnt φ l with
  | some b,some r=>some (b::r)
  | _,_=>none
def XF (nb:Nat):Mem→List Nat
 | []=>[]
 | (j,_)::m=>match Nat.ble nb j with
  | true=>j::XF nb m
  | false=>XF nb m
def jd9:List Nat→List Blk→Mem
 | i::l,k::ks=>(i,k)::jd9 l ks
 | _,_=>[]
def jnu (φ:Nat→Option Nat) (m:Mem):List Nat→Option (List (Nat×Option Blk))
 | []=>some []
 | i::l=>match jnu φ m l with
  | some r=>match getM m i with
   | none=>some ((i,none)::r)
   | some b=>match rnB φ b with
    | some c=>some ((i,some c)::r)
    | none=>none
  | none=>none
def y9 (lg:List Nat):List Nat→List Nat
 | []=>[]
 | i::l=>match Jg lg i with
  | true=>i::y9 lg l
  | false=>y9 lg l
def jBL (seen:List Nat) (nb:Nat) (v:LV) (m':Mem) (cs:List (Bool×Bool)) (keys lg:List Nat):Option Dl:=
 match xV keys,jE (getM m') keys with
 | true,some bs=>match jv2 (nmG seen keys nb) v,jnu (nmG seen keys nb) m' (y9 lg seen),jnt (nmG seen keys nb) bs with
  | some v',some ws,some bs'=>some ⟨v',ws,bs',seen,cs⟩
  | _,_,_=>none
 | _,_=>none
def kN (P:Program) (S:FuncId→Option SumK) (z:Md) (n:Nat) (f:FuncId) (dec:List (Option Bool)):List LV→List Nat→List Blk→Nat→Option Dl:=fun args seen ks nb=>
 match xV seen,jhc nb seen,JM (Jg seen) args,okBs (Jg seen) ks with
 | true,true,true,true=>match jyp P S z n f args (jd9 seen ks) nb dec with
  | some (v,m',cs,lg)=>jBL seen nb v m' cs (XF nb m') lg
  | none=>none
 | _,_,_,_=>none
def jS (P:Program) (S:FuncId→Option SumK) (z:Md) (n:Nat) (f:FuncId):List LV→List Nat→List Blk→Nat→Option Dl:=kN P S z n f []
theorem keepIn_mem {lg:List Nat}:∀{l:List Nat} {i:Nat},i∈y9 lg l↔i∈l∧i∈lg
 | [],i=>by simp [y9]
 | a::l,i=>by
  simp only [y9]
  split
  ·rename_i h
   have h:=memB_iff.1 h
   simp only [List.mem_cons,keepIn_mem (l:=l)]
   constructor
   ·rintro (rfl | h2)
    ·exact ⟨.inl rfl,h⟩
    ·exact ⟨.inr h2.1,h2.2⟩
   ·rintro ⟨rfl | h2,h3⟩
    ·exact .inl rfl
    ·exact .inr ⟨h2,h3⟩
  ·rename_i h
   have h:a ∉ lg:=fun hh=>by rw [memB_iff.2 hh] at h;cases h
   simp only [List.mem_cons,keepIn_mem (l:=l)]
   constructor
   ·exact fun h2=>⟨.inr h2.1,h2.2⟩
   ·rintro ⟨rfl | h2,h3⟩
    ·exact absurd h3 h
    ·exact ⟨h2,h3⟩
theorem za {lg:List Nat}:∀{l:List Nat},l.Nodup→(y9 lg l).Nodup
 | [],_=>by simp [y9]
 | a::l,h=>by
  simp only [List.nodup_cons] at h
  simp only [y9]
  split
  ·exact List.nodup_cons.2 ⟨fun hh=>h.1 (keepIn_mem.1 hh).1,za h.2⟩
  ·exact za h.2
theorem Zk {nb:Nat}:∀{l:List Nat},jhc nb l=true→∀i∈l,i<nb
 | [],_,i,hi=>by cases hi
 | a::l,h,i,hi=>by
  simp only [jhc,Ko] at h
  split at h
  ·rename_i ha
   have ha':a<nb:=by simpa using ha
   rcases List.mem_cons.1 hi with rfl | hi
   ·exact ha'
   ·exact Zk h i hi
  ·cases h
theorem yg {p:Nat→Bool}:∀{l:List LV},JM p l=true→∀v∈l,v.ok p=true
 | [],_,i,hi=>by cases hi
 | a::l,h,i,hi=>by
  simp only [JM] at h
  split at h
  ·rename_i ha
   rcases List.mem_cons.1 hi with rfl | hi
   ·exact ha
   ·exact yg h i hi
  ·cases h
theorem Zm {j:Nat}:∀{l:List Nat} {k i:Nat},jnr j k l=some i→k≤i∧i<k+l.length∧l[i - k]? = some j
 | [],k,i,h=>by simp [jnr] at h
 | a::l,k,i,h=>by
  simp only [jnr,xi] at h
  split at h
  ·rename_i ha
   have ha':a=j:=by simpa using ha
   cases h
   subst ha'
   exact ⟨Nat.le_refl _,by simp,by simp⟩
  ·obtain ⟨h1,h2,h3⟩:=Zm h
   refine ⟨by omega,by simp;omega, ?_⟩
   rw [show i - k=(i - (k+1))+1 by omega,List.getElem?_cons_succ]
   exact h3
section
variable {φ:Nat→Option Nat} {E E':Env}
theorem jeg (hφ:∀i c,φ i=some c→E' c=E i):∀{l r:List (Nat×Nat)},rnC φ l=some r→l.map (fun p=>Value.pointer (some ⟨(E p.1).1,p.2+(E p.1).pre.length,none⟩))=r.map (fun p=>Value.pointer (some ⟨(E' p.1).1,p.2+(E' p.1).pre.length,none⟩))
 | [],r,h=>by simp only [rnC] at h;cases h;rfl
 | c::l,r,h=>by
  simp only [rnC] at h
  split at h
  ·rename_i b r' hb hr
   cases h
   simp only [List.map_cons,hφ _ _ hb,jeg hφ hr]
  ·cases h
theorem jeh (hφ:∀i c,φ i=some c→E' c=E i) {a b:At} (h:rnA φ a=some b):a.den E=b.den E':=by
 unfold rnA at h
 split at h
 ·split at h
  ·rename_i hc;cases h;simp only [At.den,hφ _ _ hc]
  ·cases h
 ·split at h
  ·rename_i hc;cases h;simp only [At.den,hφ _ _ hc]
  ·cases h
 ·split at h
  ·rename_i hc;cases h;simp only [At.den,hφ _ _ hc]
  ·cases h
 ·split at h
  ·rename_i hc;cases h;simp only [At.den,hφ _ _ hc]
  ·cases h
 ·split at h
  ·rename_i hc;cases h;simp only [At.den,hφ _ _ hc]
  ·cases h
 ·split at h
  ·rename_i hc;cases h;simp only [At.den,hφ _ _ hc]
  ·cases h
 ·split at h
  ·rename_i hc;cases h;simp only [At.den,jeg hφ hc]
  ·cases h
 ·rename_i h1 h2 h3 h4 h5 h7 h6
  cases h
  cases a with
  | ptr b o=>exact absurd rfl (h1 b o)
  | sl b o n c=>exact absurd rfl (h2 b o n c)
  | slu b n=>exact absurd rfl (h3 b n)
  | slx b o n c=>exact absurd rfl (h4 b o n c)
  | ptx b o=>exact absurd rfl (h5 b o)
  | slt b o n=>exact absurd rfl (h7 b o n)
  | fn f c=>exact absurd rfl (h6 f c)
  | _=>rfl
theorem jaE (hφ:∀i c,φ i=some c→E' c=E i):∀{l r:List At},rnL φ l=some r→l.map (At.den E)=r.map (At.den E')
 | [],r,h=>by simp only [rnL] at h;cases h;rfl
 | c::l,r,h=>by
  simp only [rnL] at h
  split at h
  ·rename_i b r' hb hr
   cases h
   simp only [List.map_cons,jeh hφ hb,jaE hφ hr]
  ·cases h
theorem jei:∀{l r:List At},rnL φ l=some r→r.length=l.length
 | [],r,h=>by simp only [rnL] at h;cases h;rfl
 | c::l,r,h=>by
  simp only [rnL] at h
  split at h
  ·rename_i b r' hb hr
   cases h
   simp only [List.length_cons,jei hr]
  ·cases h
theorem jbX (hφ:∀i c,φ i=some c→E' c=E i) {a b:V1} (h:ju8 φ a=some b):a.den E=b.den E':=by
 unfold ju8 at h
 split at h
 ·split at h
  ·rename_i hb;cases h;exact jeh hφ hb
  ·cases h
 ·split at h
  ·rename_i hb;cases h;simp only [V1.den,jaE hφ hb]
  ·cases h
theorem jbY (hφ:∀i c,φ i=some c→E' c=E i):∀{l r:List V1},jns φ l=some r→l.map (V1.den E)=r.map (V1.den E')
 | [],r,h=>by simp only [jns] at h;cases h;rfl
 | c::l,r,h=>by
  simp only [jns] at h
  split at h
  ·rename_i b r' hb hr
   cases h
   simp only [List.map_cons,jbX hφ hb,jbY hφ hr]
  ·cases h
theorem jhd (hφ:∀i c,φ i=some c→E' c=E i) {a b:LV} (h:jv2 φ a=some b):a.den E=b.den E':=by
 unfold jv2 at h
 split at h
 ·split at h
  ·rename_i hb;cases h;exact jbX hφ hb
  ·cases h
 ·split at h
  ·rename_i hb;cases h;simp only [LV.den,jbY hφ hb]
  ·cases h
theorem jjb (hφ:∀i c,φ i=some c→E' c=E i) {b c:Blk} {i j:Nat} {w:World} (h:rnB φ b=some c) (he:E' j=E i) (hb:blkAt E i b w):blkAt E' j c w:=by
 unfold rnB at h
 split at h
 ·rename_i l hl
  cases h
  obtain ⟨r,h1,h2,h3⟩:=hb
  refine ⟨r, ?_,h2,fun hz=> ?_⟩
  ·show w.heap[(E' j).1]? = some (.cells ((E' j).pre++l.map (At.den E')++r++(E' j).suf).toArray ((E' j).ty.getD b.ty) b.fr)
   rw [he,←jaE hφ hl];exact h1
  ·show l.length+r.length=(E' j).2*b.es
   rw [he,jei hl];exact h3 hz
 ·cases h
end
theorem jbZ {φ:Nat→Option Nat}:∀{l r:List Blk},jnt φ l=some r→r.length=l.length∧∀(i:Nat) (c:Blk),r[i]? = some c→∃b,l[i]? = some b∧rnB φ b=some c
 | [],r,h=>by
  simp only [jnt] at h;cases h
  exact ⟨rfl,fun i c hc=>by simp at hc⟩
 | b::l,r,h=>by
  simp only [jnt] at h
  split at h
  ·rename_i c r' hb hr
   cases h
   obtain ⟨h1,h2⟩:=jbZ hr
   refine ⟨by simp [h1],fun i d hd=> ?_⟩
   cases i with
   | zero=>simp only [List.getElem?_cons_zero,Option.some.injEq] at hd ⊢;subst hd;exact ⟨b,rfl,hb⟩
   | succ i=>simp only [List.getElem?_cons_succ] at hd ⊢;exact h2 i d hd
  ·cases h
theorem yA {g:Nat→Option Blk}:∀{l:List Nat} {r:List Blk},jE g l=some r→r.length=l.length∧∀(i:Nat) (j:Nat),l[i]? = some j→∃b,r[i]? = some b∧g j=some b
 | [],r,h=>by
  simp only [jE] at h;cases h
  exact ⟨rfl,fun i c hc=>by simp at hc⟩
 | a::l,r,h=>by
  simp only [jE] at h
  split at h
  ·rename_i k r' hk hr
   cases h
   obtain ⟨h1,h2⟩:=yA hr
   refine ⟨by simp [h1],fun i j hj=> ?_⟩
   cases i with
   | zero=>simp only [List.getElem?_cons_zero,Option.some.injEq] at hj ⊢;subst hj;exact ⟨k,rfl,hk⟩
   | succ i=>simp only [List.getElem?_cons_succ] at hj ⊢;exact h2 i j hj
  ·cases h
theorem xH {g:Nat→Option Blk}:∀{l:List Nat} {ks:List Blk},jE g l=some ks→∀i,getM (jd9 l ks) i=if i∈l then g i else none
 | [],ks,h,i=>by simp only [jE] at h;cases h;simp [jd9,getM]
 | a::l,ks,h,i=>by
  simp only [jE] at h
  split at h
  ·rename_i k r hk hr
   cases h
   simp only [jd9]
   rw [jz,xH hr]
   by_cases hi:i=a
   ·subst hi;simp [hk]
   ·simp [hi]
  ·cases h
theorem Qv {g:Nat→Option Blk}:∀{l:List Nat} {ks:List Blk},jE g l=some ks→l.Nodup→uniq (jd9 l ks)
 | [],ks,h,_=>by simp only [jE] at h;cases h;trivial
 | a::l,ks,h,hn=>by
  simp only [jE] at h
  split at h
  ·rename_i k r hk hr
   cases h
   rw [List.nodup_cons] at hn
   refine ⟨?_,Qv hr hn.2⟩
   rw [xH hr,if_neg hn.1]
  ·cases h
theorem Qw (nb:Nat):∀(m:Mem),∀j∈XF nb m,nb≤j
 | [],j,hj=>by cases hj
 | (a,b)::m,j,hj=>by
  simp only [XF] at hj
  split at hj
  ·rename_i ha
   rcases List.mem_cons.1 hj with rfl | hj
   ·exact Nat.le_of_ble_eq_true ha
   ·exact Qw nb m j hj
  ·exact Qw nb m j hj
theorem Zn {φ:Nat→Option Nat} {m:Mem}:∀{l:List Nat} {ws:List (Nat×Option Blk)},jnu φ m l=some ws→ws.map (·.1)=l∧∀x∈ws,(x.2=none)∨∃b c,getM m x.1=some b∧rnB φ b=some c∧x.2=some c
 | [],ws,h=>by simp only [jnu] at h;cases h;exact ⟨rfl,fun x hx=>by cases hx⟩
 | i::l,ws,h=>by
  simp only [jnu] at h
  split at h
  ·rename_i r hr
   obtain ⟨h1,h2⟩:=Zn hr
   split at h
   ·cases h
    refine ⟨by simp [h1],fun x hx=> ?_⟩
    rcases List.mem_cons.1 hx with rfl | hx
    ·exact .inl rfl
    ·exact h2 x hx
   ·rename_i b hb
    split at h
    ·rename_i c hc
     cases h
     refine ⟨by simp [h1],fun x hx=> ?_⟩
     rcases List.mem_cons.1 hx with rfl | hx
     ·exact .inr ⟨b,c,hb,hc,rfl⟩
     ·exact h2 x hx
    ·cases h
  ·cases h
theorem jej {g:Nat→Option Blk}:∀(l:List (Nat×Option Blk)),(l.map (·.1)).Nodup→∀x∈l,wrG g l x.1=x.2
 | [],_,x,hx=>by cases hx
 | (i,s)::l,hn,x,hx=>by
  simp only [List.map_cons,List.nodup_cons] at hn
  simp only [wrG]
  rcases List.mem_cons.1 hx with rfl | hx
  ·rw [qy]
   ·simp
   ·intro y hy e
    exact hn.1 (by have h:=List.mem_map_of_mem (f:=fun x:Nat×Option Blk=>x.1) hy;rw [e] at h;exact h)
  ·exact jej l hn.2 x hx
theorem jb0 {g:Nat→Option Blk}:∀(l:List Blk) (nb k:Nat),nb≤k→k<nb+l.length→nwG g nb l k=l[k - nb]?
 | [],nb,k,h1,h2=>by simp at h2;omega
 | b::l,nb,k,h1,h2=>by
  simp only [nwG]
  by_cases hk:k=nb
  ·subst hk
   rw [qk l (k+1) k (by omega)]
   simp
  ·rw [jb0 l (nb+1) k (by omega) (by simp at h2;omega),show k - nb=(k - (nb+1))+1 by omega,List.getElem?_cons_succ]
section
variable {P:Program} {S:FuncId→Option SumK} {z:Md}
theorem kR (hs:Sound P S) {n:Nat} {f:FuncId} {dec:List (Option Bool)} (ho:Own P f):GenOK P f (kN P S z n f dec):=by
 intro args seen ks g nb p d E w hl hd hnd hc hrel hg hargs hn
 unfold kN at hd
 split at hd
 ·rename_i c1 c2 c3 c4
  have k1:=nodupB_iff.1 c1
  have k2:=Zk c2
  have k3:=yg c3
  have k4:=okBs_iff.1 c4
  split at hd
  ·rename_i v m' cs lg hrun
   unfold jBL at hd
   split at hd
   ·rename_i bs hkd hbs
    split at hd
    ·rename_i v' ws bs' hv' hws hbs'
     cases hd
     have kn:=nodupB_iff.1 hkd
     obtain ⟨⟨s',h1,h2,h4⟩,hkept⟩:=jfb hrun
     have hsub:∀i c,getM (jd9 seen ks) i=some c→i∈seen∧g i=some c:=by
      intro i c hc
      rw [xH hl] at hc
      split at hc
      ·rename_i hi;exact ⟨hi,hc⟩
      ·cases hc
     have hbel:∀i,Jg seen i=true→below nb i=true:=fun i hi=>by
      simp only [below,decide_eq_true_eq];exact k2 i (memB_iff.1 hi)
     have hcell:∀i c,getM (jd9 seen ks) i=some c→i<nb∧okL (below nb) c.cells=true:=by
      intro i c hc
      obtain ⟨hi,hgi⟩:=hsub i c hc
      refine ⟨k2 i hi,jn hbel ?_⟩
      obtain ⟨_,h6⟩:=yA hl
      obtain ⟨t,ht,hti⟩:=List.getElem_of_mem hi
      obtain ⟨b,hb,hgb⟩:=h6 t i (by rw [List.getElem?_eq_getElem ht,hti])
      rw [hgi] at hgb
      cases hgb
      exact k4 c (List.mem_of_getElem? hb)
     obtain ⟨v0,b1,b2,b3,b4,b5,b6,b7,b8⟩:=(kD (QZ P) hs.sums hs.mix hs.ng n).2.2.2 f args _ _ s' h1 hcell (Qv hl k1) (fun u hu=>LV.ok_mono hbel (k3 u hu))
     cases b1
     have hmr:MRel E ⟨.nil,0,jd9 seen ks,nb,dec,[],[]⟩ w:=⟨hrel.sub fun i b hb=>(hsub i b hb).2,hcell,Qv hl k1⟩
     have hcall:=b8 (by rw [Good,h4];exact hc) E w hmr
     obtain ⟨fn,f1,f2,f3⟩:=ho
     refine .inl ⟨fn,f1,f2,f3,hcall.mono ?_⟩
     rintro e w' ⟨Eo,rfl,hmr',hx⟩
     have hrel':=hmr'.rel
     rw [h2] at hrel'
     have hsrc:=hx.src
     rw [h2] at hsrc
     have hagr:∀i,i<nb→Eo i=E i:=hx.agree
     have hge:=Qw nb m'
     obtain ⟨l1,l2⟩:=yA hbs
     obtain ⟨q1,q2⟩:=jbZ hbs'
     obtain ⟨y1,y2⟩:=Zn hws
     generalize hK:XF nb m'=keys at *
     have hlen:bs'.length=keys.length:=by rw [q1,l1]
     generalize hE':(fun i=>if i<nb then E i else match keys[i - nb]? with
      | some j=>Eo j
      | none=>E i)=E'
     have Elt:∀i,i<nb→E' i=E i:=fun i hi=>by rw [←hE'];simp [hi]
     have Ege:∀i j,nb≤i→keys[i - nb]? = some j→E' i=Eo j:=fun i j hi hj=>by
      rw [←hE'];simp only [show ¬i<nb by omega,if_false,hj]
     have Eout:∀i,nb+bs'.length≤i→E' i=E i:=fun i hi=>by
      rw [←hE']
      simp only [show ¬i<nb by omega,if_false]
      rw [List.getElem?_eq_none (by omega)]
     have hφ:∀i c,nmG seen keys nb i=some c→E' c=Eo i:=by
      intro i c hic
      unfold nmG at hic
      split at hic
      ·rename_i hi
       cases hic
       have hlt:=k2 _ (memB_iff.1 hi)
       rw [Elt _ hlt,hagr _ hlt]
      ·obtain ⟨p1,p2,p3⟩:=Zm hic
       exact Ege c i p1 p3
     have hsome:∀i∈seen,∃c,g i=some c:=fun i hi=>Option.isSome_iff_exists.1 (kw hl i hi)
     have hgnew:∀i c,g i=some c→i<nb∨nb+bs'.length≤i:=by
      intro i c hi
      by_cases h5:i<nb
      ·exact .inl h5
      ·by_cases h6:nb+bs'.length≤i
       ·exact .inr h6
       ·exfalso
        have:=(hg i c hi).1
        rw [hn i (by omega) (by show i<nb+bs'.length;omega)] at this
        cases this
     have Eold:∀i c,g i=some c→E' i=E i:=fun i c hi=>(hgnew i c hi).elim (Elt i) (Eout i)
     have hlt:∀i c,g i=some c→(E i).1<w.heap.size:=fun i c hi=>by
      obtain ⟨r,u1,-⟩:=hrel.blk i c hi
      exact (Array.getElem?_eq_some_iff.1 u1).1
     have hpE:∀i,p i=true→E' i=E i:=by
      intro i hi
      by_cases h5:i<nb
      ·exact Elt i h5
      ·refine Eout i ?_
       by_cases h6:nb+bs'.length≤i
       ·exact h6
       ·exfalso
        rw [hn i (by omega) (by show i<nb+bs'.length;omega)] at hi
        cases hi
     have hwk:(ws.map (·.1)).Nodup:=by rw [y1];exact za k1
     have hat:∀i b,nwG (wrG g ws) nb bs' i=some b→
       (∃j b0,nb≤i∧i<nb+bs'.length∧keys[i - nb]? = some j∧getM m' j=some b0∧rnB (nmG seen keys nb) b0=some b)∨
       (i∈seen∧∃b0,getM m' i=some b0∧(rnB (nmG seen keys nb) b0=some b∨(b0=b∧g i=some b)))∨(i ∉ seen∧g i=some b):=by
      intro i b hb
      by_cases hi:nb≤i∧i<nb+bs'.length
      ·left
       rw [jb0 _ _ _ hi.1 hi.2] at hb
       obtain ⟨b0,hb0,hr0⟩:=q2 _ _ hb
       have hkl:i - nb<keys.length:=by omega
       obtain ⟨b1,hb1,hg1⟩:=l2 (i - nb) keys[i - nb] (List.getElem?_eq_getElem hkl)
       rw [hb0] at hb1
       cases hb1
       exact ⟨keys[i - nb],b0,hi.1,hi.2,List.getElem?_eq_getElem hkl,hg1,hr0⟩
      ·right
       rw [qk _ _ _ (by omega)] at hb
       by_cases hs2:i∈seen
       ·left
        refine ⟨hs2, ?_⟩
        by_cases hlgi:i∈lg
        ·have hs3:=keepIn_mem.2 ⟨hs2,hlgi⟩
         rw [←y1] at hs3
         obtain ⟨x,hx1,hx2⟩:=List.mem_map.1 hs3
         rw [←hx2,jej ws hwk x hx1] at hb
         rcases y2 x hx1 with hz | ⟨b0,c,z1,z2,z3⟩
         ·rw [hz] at hb;cases hb
         ·rw [z3] at hb
          cases hb
          exact ⟨b0,by rw [←hx2];exact z1,.inl z2⟩
        ·have hgi:g i=some b:=by
          rw [qy] at hb
          ·exact hb
          ·intro x hx1 e
           have:i∈y9 lg seen:=by rw [←y1,←e];exact List.mem_map_of_mem hx1
           exact hlgi (keepIn_mem.1 this).2
         refine ⟨b, ?_,.inr ⟨rfl,hgi⟩⟩
         rw [hkept i (k2 i hs2) hlgi,xH hl,if_pos hs2]
         exact hgi
       ·right
        refine ⟨hs2, ?_⟩
        rw [qy] at hb
        ·exact hb
        ·intro x hx1 e
         have:i∈y9 lg seen:=by rw [←y1,←e];exact List.mem_map_of_mem hx1
         exact hs2 (keepIn_mem.1 this).1
     have hframe:∀b,b<w.heap.size→(∀i∈seen,(E i).1≠b)→w'.heap[b]? = w.heap[b]? :=fun b hb hne=>hx.frame b hb fun i hi he=>by
      obtain ⟨c,hc⟩:=Option.isSome_iff_exists.1 hi
      exact hne i (hsub i c hc).1 he
     have hnew:∀j b0,getM m' j=some b0→w.heap.size≤(Eo j).1∨∃i∈seen,(Eo j).1=(E i).1:=by
      intro j b0 hj
      rcases hsrc j (by rw [hj];rfl) with h | ⟨i,hi,he⟩
      ·exact .inl h
      ·obtain ⟨c,hc⟩:=Option.isSome_iff_exists.1 hi
       exact .inr ⟨i,(hsub i c hc).1,he⟩
     have hcal:∀i b,nwG (wrG g ws) nb bs' i=some b→(∃j b0,getM m' j=some b0∧E' i=Eo j∧(nb≤i∧i<nb+bs'.length∧keys[i - nb]? = some j∨i∈seen∧j=i))∨(i ∉ seen∧g i=some b):=by
      intro i b hb
      rcases hat i b hb with ⟨j,b0,a1,a2,a3,a4,a5⟩ | ⟨a1,b0,a2,a3⟩ | ⟨a1,a2⟩
      ·exact .inl ⟨j,b0,a4,Ege i j a1 a3,.inl ⟨a1,a2,a3⟩⟩
      ·exact .inl ⟨i,b0,a2,by rw [Elt i (k2 i a1),hagr i (k2 i a1)],.inr ⟨a1,rfl⟩⟩
      ·exact .inr ⟨a1,a2⟩
     refine ⟨_,rfl,E',jhd hφ hv', ?_⟩
     refine ⟨fun i hi=> ?_,⟨fun i b hb=> ?_,fun i i2 hi hi2 he=> ?_⟩,hx.os,hx.tape,hx.output,hx.size,fun b hb hne=>hframe b hb fun i hi he=> ?_,fun i h5 h6=> ?_⟩
     ·rcases hi with hi | hi
      ·exact Elt i hi
      ·exact Eout i hi
     ·rcases hat i b hb with ⟨j,b0,a1,a2,a3,a4,a5⟩ | ⟨a1,b0,a2,a3⟩ | ⟨a1,a2⟩
      ·exact jjb hφ a5 (Ege i j a1 a3) (hrel'.blk j b0 a4)
      ·rcases a3 with a3 | ⟨rfl,a3⟩
       ·exact jjb hφ a3 (by rw [Elt i (k2 i a1),hagr i (k2 i a1)]) (hrel'.blk i b0 a2)
       ·have hce:=(hcell i b0 (by rw [xH hl,if_pos a1];exact a3)).2
        obtain ⟨r,u1,u2,u3⟩:=hrel'.blk i b0 a2
        have e1:E' i=Eo i:=by rw [Elt i (k2 i a1),hagr i (k2 i a1)]
        refine ⟨r, ?_,u2,fun hz=>by rw [e1];exact u3 hz⟩
        rw [e1,u1,kk (E:=Eo) (E':=E') (p:=below nb) (fun j hj=> ?_) hce]
        have hj':j<nb:=by simpa [below] using hj
        rw [Elt j hj',hagr j hj']
      ·obtain ⟨r,u1,u2,u3⟩:=hrel.blk i b a2
       refine ⟨r, ?_,u2,fun hz=>by rw [Eold i b a2];exact u3 hz⟩
       rw [Eold i b a2,hframe _ (hlt i b a2) (fun j hj e=> ?_),u1,kk (p:=p) hpE (hg i b a2).2]
       obtain ⟨c,hc2⟩:=hsome j hj
       have:=hrel.inj j i (by rw [hc2];rfl) (by rw [a2];rfl) e
       exact a1 (this ▸ hj)
     ·obtain ⟨b,hb⟩:=Option.isSome_iff_exists.1 hi
      obtain ⟨b2',hb2⟩:=Option.isSome_iff_exists.1 hi2
      have apart:∀(j:Nat) (b0:Blk) (t:Nat) (c:Blk),getM m' j=some b0→t ∉ seen→g t=some c→(Eo j).1≠(E t).1:=by
       intro j b0 t c hj ht hgt e
       rcases hnew j b0 hj with h | ⟨i0,hi0,e0⟩
       ·have:=hlt t c hgt;omega
       ·obtain ⟨c0,hc0⟩:=hsome i0 hi0
        have:=hrel.inj i0 t (by rw [hc0];rfl) (by rw [hgt];rfl) (by rw [←e0,e])
        exact ht (this ▸ hi0)
      rcases hcal i b hb with ⟨j,b0,a1,a2,a3⟩ | ⟨a1,a2⟩
      ·rcases hcal i2 b2' hb2 with ⟨j2,b3,d1,d2,d3⟩ | ⟨d1,d2⟩
       ·rw [a2,d2] at he
        have hjj:=hrel'.inj j j2 (by rw [a1];rfl) (by rw [d1];rfl) he
        subst hjj
        rcases a3 with ⟨e1,e2,e3⟩ | ⟨e1,e2⟩
        ·rcases d3 with ⟨g1,g2,g3⟩ | ⟨g1,g2⟩
         ·have h7:i - nb<keys.length:=by omega
          have h8:i2 - nb<keys.length:=by omega
          have e4:keys[i - nb]=j:=by rw [List.getElem?_eq_getElem h7] at e3;exact Option.some.inj e3
          have g4:keys[i2 - nb]=j:=by rw [List.getElem?_eq_getElem h8] at g3;exact Option.some.inj g3
          have:=(List.getElem_inj (h₀:=h7) (h₁:=h8) kn).1 (by rw [e4,g4])
          omega
         ·exfalso
          have h7:=hge j (List.mem_of_getElem? e3)
          have h8:=k2 i2 g1
          omega
        ·rcases d3 with ⟨g1,g2,g3⟩ | ⟨g1,g2⟩
         ·exfalso
          have h7:=hge j (List.mem_of_getElem? g3)
          have h8:=k2 i e1
          omega
         ·omega
       ·exfalso
        rw [a2,Eold i2 b2' d2] at he
        exact apart j b0 i2 b2' a1 d1 d2 he
      ·rcases hcal i2 b2' hb2 with ⟨j2,b3,d1,d2,d3⟩ | ⟨d1,d2⟩
       ·exfalso
        rw [d2,Eold i b a2] at he
        exact apart j2 b3 i b d1 a1 a2 he.symm
       ·rw [Eold i b a2,Eold i2 b2' d2] at he
        exact hrel.inj i i2 (by rw [a2];rfl) (by rw [d2];rfl) he
     ·obtain ⟨c,hc2⟩:=hsome i hi
      exact hne i (by rw [hc2];rfl) he
     ·have h6':i<nb+bs'.length:=h6
      have hkl:i - nb<keys.length:=by omega
      have hk:=List.getElem?_eq_getElem hkl
      obtain ⟨b1,hb1,hg1⟩:=l2 (i - nb) _ hk
      rw [Ege i _ h5 hk]
      rcases hnew _ b1 hg1 with h | ⟨i0,hi0,e0⟩
      ·exact .inl h
      ·obtain ⟨c,hc2⟩:=hsome i0 hi0
       exact .inr ⟨i0,by rw [hc2];rfl,e0⟩
    ·cases hd
   ·cases hd
  ·cases hd
 ·cases hd
theorem jl (hs:Sound P S) {n:Nat} {f:FuncId} (ho:Own P f):GenOK P f (jS P S z n f):=kR hs ho
end
def moreG (S:FuncId→Option SumK) (f:FuncId) (s:List LV→List Nat→List Blk→Nat→Option Dl):FuncId→Option SumK:=fun g=>
 match Nat.beq g f with
 | true=>some (.gen s)
 | false=>S g
section
variable {P:Program} {S:FuncId→Option SumK}
theorem Sound.moreG (h:Sound P S) {f:FuncId} {s:List LV→List Nat→List Blk→Nat→Option Dl} (hs:GenOK P f s):Sound P (Go.Lr.moreG S f s):=by
 refine ⟨fun g t hg=> ?_,h.mix,h.ng⟩
 unfold Go.Lr.moreG at hg
 split at hg
 ·rename_i he
  cases hg
  rw [xi] at he
  have:g=f:=by simpa using he
  subst this
  exact hs
 ·exact h.sums g t hg
end
end Go.Lr

/- The local evaluator: summaries of methods on a flag, where the flag lies anywhere in a block. -/
namespace Go.Lr
open Go.RowKit
set_option linter.unusedVariables false
def jfa (ty:TypeId) (s:Sum):Sum:=fun args=>
 match args with
 | .v (.one (.ptr c o))::rest=>match JM (fun i=> !(Nat.beq i c)) rest,s (.v (.one (.ptr c 0))::rest) with
  | true,some t=>match t.wr with
   | [c']=>match Nat.beq c' c,Jg t.rd c with
    | true,false=>some ⟨t.rd,[c],fun rdB wB nb=>match wB with
     | [⟨tt,(0,0),eb,l⟩]=>match atL l o,okBs noP rdB with
      | some (.bool h),true=>match t.go rdB [flag ty h] nb with
       | some ⟨v,[⟨t',(0,0),0,[.bool h']⟩],[],cs⟩=>match Nat.beq t' ty,v.ok noP with
        | true,true=>some ⟨v,[⟨tt,(0,0),eb,l.set o (.bool h')⟩],[],cs⟩
        | _,_=>none
       | _=>none
      | _,_=>none
     | _=>none⟩
    | _,_=>none
   | _=>none
  | _,_=>none
 | _=>none
section
variable {P:Program}
theorem xx {g g':Nat→Option Blk}:∀{l:List Nat} {r:List Blk},jE g l=some r→(∀(i:Nat) (b:Blk),i∈l→b∈r→g i=some b→g' i=some b)→jE g' l=some r
 | [],r,h,_=>h
 | a::l,r,h,hg=>by
  obtain ⟨k,r',h1,h2,rfl⟩:=kf h
  have e1:=hg a k (List.mem_cons_self ..) (List.mem_cons_self ..) h1
  have e2:=xx h2 fun i b hi hb=>hg i b (List.mem_cons_of_mem _ hi) (List.mem_cons_of_mem _ hb)
  simp only [jE,e1,e2]
open Classical in
noncomputable def gW (g:Nat→Option Blk) (c:Nat) (k:Blk):Nat→Option Blk:=fun i=>if i=c then some k else match g i with
 | some b=>if okL noP b.cells=true then some b else none
 | none=>none
def eW (E:Env) (c:Nat) (L:Loc):Env:=fun i=>if i=c then L else E i
theorem jjv {g:Nat→Option Blk} {c i:Nat} {k b:Blk} (h:gW g c k i=some b) (hi:i≠c):g i=some b∧okL noP b.cells=true:=by
 unfold gW at h
 rw [if_neg hi] at h
 split at h
 ·rename_i b' hb
  split at h
  ·rename_i ho;cases h;exact ⟨hb,ho⟩
  ·cases h
 ·cases h
theorem jpZ {g:Nat→Option Blk} {c i:Nat} {k b:Blk} (h:g i=some b) (ho:okL noP b.cells=true) (hi:i≠c):gW g c k i=some b:=by
 unfold gW
 rw [if_neg hi,h]
 simp only [ho,if_true]
theorem jx7 {g:Nat→Option Blk} {c:Nat} {k:Blk}:gW g c k c=some k:=by unfold gW;rw [if_pos rfl]
theorem YB {g:Nat→Option Blk} {c i:Nat} {k kc:Blk} (hc:g c=some kc) (h:(gW g c k i).isSome):(g i).isSome:=by
 by_cases hi:i=c
 ·rw [hi,hc];rfl
 ·obtain ⟨b,hb⟩:=Option.isSome_iff_exists.1 h
  rw [(jjv hb hi).1];rfl
theorem jjw {E:Env} {c i:Nat} {t:TypeId} {l:List At} {r:List Value} {o:Nat}:(eW E c (qD (E c) E t l r o) i).1=(E i).1:=by
 unfold eW
 by_cases hi:i=c
 ·rw [if_pos hi,hi];rfl
 ·rw [if_neg hi]
theorem YC {f:FuncId} {ty:TypeId} {s:Sum} (hS:SumOK P f s):SumOK P f (jfa ty s):=by
 intro args t g nb p rdB wrB ans ws E w hs hr hw hnd hgo hz hc hrel hg hargs hn
 unfold jfa at hs
 split at hs
 ·rename_i c o rest
  split at hs
  ·rename_i t0 hrest ht0
   split at hs
   ·rename_i c' hwr
    split at hs
    ·rename_i hcc hmem
     cases hs
     rw [xi] at hcc
     have hcc':c'=c:=of_decide_eq_true hcc
     subst hcc'
     simp only at hgo hw hr hz
     split at hgo
     ·rename_i tt eb l
      split at hgo
      ·rename_i h hat hokr
       split at hgo
       ·rename_i v t' h' cs hgo0
        split at hgo
        ·rename_i hty hv
         cases hgo
         rw [xi] at hty
         have hty':t'=ty:=of_decide_eq_true hty
         subst hty'
         obtain ⟨kc,r',hkc,hr',hrr⟩:=kf hw
         cases kP hr'
         cases hrr
         simp only [Xm] at hz
         cases hz
         obtain ⟨r,g1,g2,g3⟩:=hrel.blk c' _ hkc
         have hlt:o<l.length:=jaa hat
         generalize hL:qD (E c') E tt l r o=L
         have hLb:L.blk=(E c').blk:=by rw [←hL];rfl
         have hEb:∀i,(eW E c' L i).1=(E i).1:=fun i=>by rw [←hL];exact jjw
         have hEi:∀i,i≠c'→eW E c' L i=E i:=fun i hi=>by unfold eW;rw [if_neg hi]
         have hEc:eW E c' L c'=L:=by unfold eW;rw [if_pos rfl]
         have hok:∀i b,gW g c' (flag t' h) i=some b→i≠c'→g i=some b∧okL noP b.cells=true:=fun i b hb hi=>jjv hb hi
         have hrelW:Rel (eW E c' L) (gW g c' (flag t' h)) w:=by
          refine ⟨fun i b hb=> ?_,fun i j hi hj he=>hrel.inj i j (YB hkc hi) (YB hkc hj) (by rw [←hEb i,←hEb j];exact he)⟩
          by_cases hi:i=c'
          ·subst hi
           rw [jx7] at hb
           cases hb
           refine ⟨[], ?_,fun _=>rfl,fun hne=>absurd rfl hne⟩
           rw [hEc]
           have e:=xE (L:=E i) (E:=E) (t:=tt) (l:=l) (r:=r) (o:=o) t' (h:=h) hlt
           rw [YV hat,hL] at e
           show w.heap[L.blk]? = some (JY L t' h)
           rw [e,hLb];exact g1
          ·obtain ⟨q1,q2⟩:=hok i b hb hi
           exact kF q2 (hEi i hi) (hrel.blk i b q1)
         have hdenr:∀u∈rest,u.den E=u.den (eW E c' L):=fun u hu=>(LV.den_congr (p:=fun i=> !(Nat.beq i c')) (fun i hi=>hEi i (by
          intro e
          rw [e] at hi
          simp at hi)) (yg hrest u hu)).symm
         have hargs':((LV.v (V1.one (At.ptr c' o)))::rest).map (LV.den E)=((LV.v (V1.one (At.ptr c' 0)))::rest).map (LV.den (eW E c' L)):=by
          rw [List.map_cons,List.map_cons,List.map_congr_left hdenr]
          congr 1
          show Value.pointer (some ⟨(E c').1,o+(E c').pre.length,none⟩)=Value.pointer (some ⟨(eW E c' L c').1,0+(eW E c' L c').pre.length,none⟩)
          have e:(eW E c' L c').pre.length=o+(E c').pre.length:=by
           rw [hEc,←hL];unfold qD;simp;omega
          rw [e,hEb,Nat.zero_add]
         have hrd:jE (gW g c' (flag t' h)) t0.rd=some rdB:=xx hr fun i b hi hb hgi=>by
          refine jpZ hgi (okBs_iff.1 hokr b hb) fun e=> ?_
          subst e
          exact xG hmem hi
         have hwW:jE (gW g c' (flag t' h)) t0.wr=some [flag t' h]:=by
          rw [hwr];simp only [jE,jx7]
         have main:=hS _ t0 (gW g c' (flag t' h)) nb p rdB [flag t' h] ⟨v,[⟨t',(0,0),0,[.bool h']⟩],[],cs⟩ [(c',some (flag t' h'))] (eW E c' L) w ht0 hrd hwW (by rw [hwr];exact hnd) hgo0 (by rw [hwr];rfl) hc hrelW
          (fun i b hb=>by
           by_cases hi:i=c'
           ·subst hi;rw [jx7] at hb;cases hb;exact ⟨(hg i _ hkc).1,rfl⟩
           ·exact hg i b (hok i b hb hi).1)
          (fun u hu=>by
           rcases List.mem_cons.1 hu with rfl | hu
           ·exact (hg c' _ hkc).1
           ·exact hargs u (List.mem_cons_of_mem _ hu)) hn
         have jh6:∀(E':Env) (w':World),Post w (eW E c' L) (gW g c' (flag t' h)) nb ⟨v,[(c',some (flag t' h'))],[],[],[]⟩ E' w'→Post w E g nb ⟨v,[(c',some ⟨tt,(0,0),eb,l.set o (.bool h')⟩)],[],[],[]⟩ E w':=by
          intro E' w' hp
          have hEE:∀i,E' i=eW E c' L i:=fun i=>hp.agree i (by simp;omega)
          have hEf:E'=eW E c' L:=funext hEE
          subst hEf
          have hfr:∀i b,i≠c'→g i=some b→gW g c' (flag t' h) i=none→w'.heap[(E i).1]? = w.heap[(E i).1]? :=fun i b hi hb hno=>by
           obtain ⟨r2,u1,-,-⟩:=hrel.blk i b hb
           refine hp.frame _ (Array.getElem?_eq_some_iff.1 u1).1 fun j hj he=> ?_
           rw [hEb] at he
           have:=hrel.inj j i (YB hkc hj) (by rw [hb];rfl) he
           subst this
           rw [hno] at hj
           cases hj
          refine ⟨fun _ _=>rfl,⟨fun i b hb=> ?_,fun i j hi hj he=> ?_⟩,hp.os,hp.tape,hp.output,hp.size,fun k hk hne=>hp.frame k hk fun i hi=>by rw [hEb];exact hne i (YB hkc hi),fun i i1 i2=>by simp at i2;omega⟩
          ·simp only [nwG,wrG] at hb
           by_cases hi:i=c'
           ·subst hi
            rw [if_pos rfl] at hb
            cases hb
            have hb2:=hp.rel.blk i (flag t' h') (by simp only [nwG,wrG,if_true])
            obtain ⟨r2,u1,u2,-⟩:=hb2
            rw [hEc,u2 rfl] at u1
            refine ⟨r, ?_,g2,fun hne=>by show (l.set o _).length+_=_;rw [List.length_set];exact g3 hne⟩
            have e:=xE (L:=E i) (E:=E) (t:=tt) (l:=l) (r:=r) (o:=o) t' (h:=h') hlt
            rw [hL] at e
            rw [←hLb]
            exact u1.trans (congrArg some e)
           ·rw [if_neg hi] at hb
            by_cases ho:okL noP b.cells=true
            ·have:=hp.rel.blk i b (by simp only [nwG,wrG,if_neg hi];exact jpZ hb ho hi)
             exact kF ho (hEi i hi).symm this
            ·obtain ⟨r2,u1,u2,u3⟩:=hrel.blk i b hb
             refine ⟨r2, ?_,u2,u3⟩
             rw [hfr i b hi hb]
             ·exact u1
             ·unfold gW
              rw [if_neg hi,hb]
              show (if okL noP b.cells=true then some b else none)=none
              rw [if_neg ho]
          ·simp only [nwG,wrG] at hi hj
           refine hrel.inj i j ?_ ?_ he
           ·by_cases h1:i=c'
            ·rw [h1,hkc];rfl
            ·simpa [if_neg h1] using hi
           ·by_cases h1:j=c'
            ·rw [h1,hkc];rfl
            ·simpa [if_neg h1] using hj
         rw [hargs']
         refine main.imp (fun ⟨fn,h1,h2,h3,h4⟩=>⟨fn,h1,h2,h3,h4.mono ?_⟩) (fun ⟨u,w',h1,E',h2,h3⟩=>⟨u,w',h1,E, ?_,jh6 E' w' h3⟩)
         ·rintro e w' ⟨u,rfl,E',rfl,h3⟩
          exact ⟨_,rfl,E,by rw [km hv,km (E:=E) hv],jh6 E' w' h3⟩
         ·rw [h2,km hv,km (E:=E) hv]
        ·cases hgo
       ·cases hgo
      ·cases hgo
     ·cases hgo
    ·cases hs
   ·cases hs
  ·cases hs
 ·cases hs
end
end Go.Lr

/- The local evaluator: summaries of methods on a flag that lies in a block of any type. -/
set_option linter.unusedVariables false
set_option linter.unusedSimpArgs false
namespace Go.Lr
open Go.RowKit
section
variable {P:Program} {S:FuncId→Option SumK}
end
end Go.Lr

/- Numbers of 64 bits: what the machine's operations come to. Plain. -/
namespace Go.Lr
theorem kI {x:Int} (h0:0≤x) (h1:x<18446744073709551616):u64 x=x:=by unfold u64;omega
theorem xu {x:Int} (h0: -9223372036854775808≤x) (h1:x<9223372036854775808):w64 x=x:=by unfold w64;omega
theorem Jo (x:Int):wr .u64 x=u64 x:=rfl
theorem jlc (x:Int):wr .i64 x=w64 x:=rfl
theorem Qk:jj (min (Int.toNat 32) IntKind.u64.bits)=4294967296:=by decide
theorem jhV:jj (min (Int.toNat 63) IntKind.i64.bits)=9223372036854775808:=by decide
theorem ZO (x:Int) (h0:0≤x) (h1:x<18446744073709551616):Int.ofNat ((u64 x).toNat.land (u64 4294967295).toNat)=x%4294967296:=by
 have e:(u64 4294967295).toNat=2 ^ 32 - 1:=by decide
 rw [kI h0 h1,e]
 show ((x.toNat &&& (2 ^ 32 - 1):Nat):Int)=_
 rw [Nat.and_two_pow_sub_one_eq_mod]
 omega
theorem jjx (x:Int) (h0:0≤x) (h1:x<18446744073709551616):Int.ofNat ((u64 (-1)).toNat.xor (u64 x).toNat)=18446744073709551615 - x:=by
 have e:(u64 (-1)).toNat=(BitVec.allOnes 64).toNat:=by decide
 rw [kI h0 h1,e]
 have hx:x.toNat<2 ^ 64:=by omega
 have h2:(BitVec.ofNat 64 x.toNat).toNat=x.toNat:=by rw [BitVec.toNat_ofNat];exact Nat.mod_eq_of_lt hx
 have h3:(BitVec.allOnes 64).toNat.xor x.toNat=(BitVec.allOnes 64 ^^^ BitVec.ofNat 64 x.toNat).toNat:=by rw [BitVec.toNat_xor,h2];rfl
 have h4:BitVec.allOnes 64 ^^^ BitVec.ofNat 64 x.toNat = ~~~BitVec.ofNat 64 x.toNat:=by rw [BitVec.xor_comm,BitVec.xor_allOnes]
 rw [h3,h4,BitVec.toNat_not,h2]
 show ((2 ^ 64 - 1 - x.toNat:Nat):Int)=_
 omega
theorem jya (x y:Int) (hx0:0≤x) (hx1:x<18446744073709551616) (hy0:0≤y) (hy1:y<18446744073709551616):
  u64 (u64 (u64 (x/4294967296*(y/4294967296))+u64 (u64 (x/4294967296*(y%4294967296))+u64 (x%4294967296*(y%4294967296))/4294967296)/4294967296) +
   u64 ((u64 (u64 (x/4294967296*(y%4294967296))+u64 (x%4294967296*(y%4294967296))/4294967296))%4294967296+u64 (x%4294967296*(y/4294967296)))/4294967296)=x*y/18446744073709551616:=by
 have hb:∀a b:Int,0≤a→a≤4294967295→0≤b→b≤4294967295→0≤a*b∧a*b≤18446744065119617025:=by
  intro a b h1 h2 h3 h4
  refine ⟨Int.mul_nonneg h1 h3, ?_⟩
  calc a*b≤4294967295*b:=Int.mul_le_mul_of_nonneg_right h2 h3
   _≤4294967295*4294967295:=Int.mul_le_mul_of_nonneg_left h4 (by omega)
   _=18446744065119617025:=by decide
 have hprod:x*y=(x/4294967296*(y/4294967296))*18446744073709551616+((x/4294967296*(y%4294967296))+(x%4294967296*(y/4294967296)))*4294967296+x%4294967296*(y%4294967296):=by
  have ex:x=x/4294967296*4294967296+x%4294967296:=by omega
  have ey:y=y/4294967296*4294967296+y%4294967296:=by omega
  generalize x/4294967296=x1 at *
  generalize x%4294967296=x0 at *
  generalize y/4294967296=y1 at *
  generalize y%4294967296=y0 at *
  rw [ex,ey]
  clear hb ex ey hx0 hx1 hy0 hy1
  grind
 have b1:=hb (x/4294967296) (y/4294967296) (by omega) (by omega) (by omega) (by omega)
 have b2:=hb (x/4294967296) (y%4294967296) (by omega) (by omega) (by omega) (by omega)
 have b3:=hb (x%4294967296) (y/4294967296) (by omega) (by omega) (by omega) (by omega)
 have b4:=hb (x%4294967296) (y%4294967296) (by omega) (by omega) (by omega) (by omega)
 rw [hprod]
 generalize x/4294967296*(y/4294967296)=p11 at *
 generalize x/4294967296*(y%4294967296)=p10 at *
 generalize x%4294967296*(y/4294967296)=p01 at *
 generalize x%4294967296*(y%4294967296)=p00 at *
 clear hprod hb
 rw [kI (x:=p11) (by omega) (by omega),kI (x:=p10) (by omega) (by omega),kI (x:=p00) (by omega) (by omega),kI (x:=p01) (by omega) (by omega)]
 rw [kI (x:=p10+p00/4294967296) (by omega) (by omega)]
 rw [kI (x:=(p10+p00/4294967296)%4294967296+p01) (by omega) (by omega)]
 unfold u64
 omega
end Go.Lr

/- Numbers of 128 bits in two halves: what the operations on the halves come to. Plain. -/
namespace Go.Lr
def wHi (v:Int):Int:=v/18446744073709551616
def wLo (v:Int):Int:=v%18446744073709551616
def jb (h l:Int):Int:=h*18446744073709551616+l
theorem jW (v:Int):jb (wHi v) (wLo v)=v:=by unfold jb wHi wLo;omega
theorem jld (x y:Int) (h0:0≤y) (h1:y<18446744073709551616):wHi (jb x y)=x:=by unfold wHi jb;omega
theorem jle (x y:Int) (h0:0≤y) (h1:y<18446744073709551616):wLo (jb x y)=y:=by unfold wLo jb;omega
theorem qG (v:Int):0≤wLo v∧wLo v<18446744073709551616:=by unfold wLo;omega
theorem jp2 (v:Int) (h0:0≤v) (h1:v<340282366920938463463374607431768211456):0≤wHi v∧wHi v<18446744073709551616:=by unfold wHi;omega
theorem qa (v:Int) (h0: -170141183460469231731687303715884105728≤v) (h1:v<170141183460469231731687303715884105728): -9223372036854775808≤wHi v∧wHi v<9223372036854775808:=by unfold wHi;omega
theorem kg (n:Nat):0<jj n:=by
 have:0<2 ^ n:=Nat.two_pow_pos n
 unfold jj;exact Int.ofNat_lt.2 this
theorem xd (m n:Nat):jj (m+n)=jj m*jj n:=by
 unfold jj;show ((2 ^ (m+n):Nat):Int)=((2 ^ m:Nat):Int)*((2 ^ n:Nat):Int)
 rw [Nat.pow_add];exact Int.natCast_mul _ _
theorem zk (n:Nat):jj (n+1)=2*jj n:=by rw [xd];show jj n*2=_;omega
theorem Jr:jj 64=18446744073709551616:=by decide
theorem jfg {m n:Nat} (h:m≤n):jj m≤jj n:=by
 unfold jj;exact Int.ofNat_le.2 (Nat.pow_le_pow_right (by omega) h)
theorem ja7 {m n:Nat} (k:Int) (h:m≤n) (hk:jj n=k):jj m≤k:=hk ▸ jfg h
theorem jlf (a b:Nat) (s:Nat) (hb:b<2 ^ s):(2 ^ s*a).lor b=2 ^ s*a+b:=(Nat.two_pow_add_eq_or_of_lt hb a).symm
theorem ja8 (a b:Int) (s:Nat) (ha:0≤a) (hb0:0≤b) (hb1:b<jj s) (hs:a*jj s+b<18446744073709551616):
  Int.ofNat ((u64 (a*jj s)).toNat.lor (u64 b).toNat)=a*jj s+b∧Int.ofNat ((u64 b).toNat.lor (u64 (a*jj s)).toNat)=a*jj s+b:=by
 obtain ⟨A,rfl⟩:=Int.eq_ofNat_of_zero_le ha
 obtain ⟨B,rfl⟩:=Int.eq_ofNat_of_zero_le hb0
 have hp:jj s=((2 ^ s:Nat):Int):=rfl
 rw [hp] at hb1 hs ⊢
 have hB:B<2 ^ s:=Int.ofNat_lt.1 hb1
 have e1:(A:Int)*((2 ^ s:Nat):Int)=((2 ^ s*A:Nat):Int):=by rw [Nat.mul_comm];exact (Int.natCast_mul _ _).symm
 rw [e1] at hs ⊢
 have l1:=jlf A B s hB
 generalize 2 ^ s*A=M at *
 rw [kI (by omega) (by omega),kI (by omega) (by omega)]
 simp only [Int.toNat_natCast]
 have l2:B.lor M=M+B:=by
  rw [←l1];exact Nat.or_comm _ _
 rw [l1,l2]
 exact ⟨Int.natCast_add _ _,Int.natCast_add _ _⟩
theorem q8 {a k n r:Int} (h:a=k*n+r) (h0:0≤r) (h1:r<n):a%n=r:=by
 rw [h,Int.add_comm,Int.add_mul_emod_self_right];exact Int.emod_eq_of_lt h0 h1
theorem Js {a k n r:Int} (h:a=k*n+r) (h0:0≤r) (h1:r<n):a/n=k:=by
 rw [h,Int.add_comm,Int.add_mul_ediv_right _ _ (by omega),Int.ediv_eq_zero_of_lt h0 h1];omega
theorem jjy (x y p q:Int) (hq:0<q) (hp:0<p) (hpq:p*q=18446744073709551616) (hy0:0≤y) (hy1:y<18446744073709551616):
  wHi (jb x y*p%340282366920938463463374607431768211456)=(x%q)*p+y/q∧wLo (jb x y*p%340282366920938463463374607431768211456)=(y%q)*p∧
  u64 (x*p)=(x%q)*p∧u64 (y*p)=(y%q)*p∧0≤y/q∧y/q<p∧(x%q)*p+y/q<18446744073709551616∧0≤x%q:=by
 have hx:=Int.emod_add_mul_ediv x q
 have hy:=Int.emod_add_mul_ediv y q
 have x0:=Int.emod_nonneg x (show q≠0 by omega)
 have x1:=Int.emod_lt_of_pos x hq
 have y0:=Int.emod_nonneg y (show q≠0 by omega)
 have y1:=Int.emod_lt_of_pos y hq
 have d0:0≤y/q:=Int.ediv_nonneg hy0 (by omega)
 have d1:y/q<p:=Int.ediv_lt_of_lt_mul hq (by rw [hpq];exact hy1)
 generalize x%q=a at *
 generalize x/q=b at *
 generalize y%q=c at *
 generalize y/q=d at *
 have ha:a*p≤18446744073709551616 - p:=by
  have:a*p≤(q - 1)*p:=Int.mul_le_mul_of_nonneg_right (by omega) (by omega)
  have e:(q - 1)*p=p*q - p:=by grind
  omega
 have hc:c*p≤18446744073709551616 - p:=by
  have:c*p≤(q - 1)*p:=Int.mul_le_mul_of_nonneg_right (by omega) (by omega)
  have e:(q - 1)*p=p*q - p:=by grind
  omega
 have ha0:0≤a*p:=Int.mul_nonneg x0 (by omega)
 have hc0:0≤c*p:=Int.mul_nonneg y0 (by omega)
 have e1:jb x y*p=b*340282366920938463463374607431768211456+((a*p+d)*18446744073709551616+c*p):=by
  unfold jb
  rw [←hx,←hy]
  have e:(340282366920938463463374607431768211456:Int)=(p*q)*(p*q):=by rw [hpq];rfl
  rw [e,←hpq]
  grind
 have e2:jb x y*p%340282366920938463463374607431768211456=(a*p+d)*18446744073709551616+c*p:=q8 e1 (by omega) (by omega)
 rw [e2]
 refine ⟨by unfold wHi;omega,by unfold wLo;omega, ?_, ?_,d0,d1,by omega,x0⟩
 ·refine q8 (k:=b) ?_ (by omega) (by omega)
  rw [←hx,←hpq];grind
 ·refine q8 (k:=d) ?_ (by omega) (by omega)
  rw [←hy,←hpq];grind
theorem jp3 (x y p q:Int) (hq:0<q) (hp:0<p) (hpq:p*q=18446744073709551616) (hy0:0≤y) (hy1:y<18446744073709551616):
  wHi (jb x y/p)=x/p∧wLo (jb x y/p)=(x%p)*q+y/p∧u64 (x*q)=(x%p)*q∧0≤y/p∧y/p<q∧(x%p)*q+y/p<18446744073709551616∧0≤x%p:=by
 have hx:=Int.emod_add_mul_ediv x p
 have hy:=Int.emod_add_mul_ediv y p
 have x0:=Int.emod_nonneg x (show p≠0 by omega)
 have x1:=Int.emod_lt_of_pos x hp
 have y0:=Int.emod_nonneg y (show p≠0 by omega)
 have y1:=Int.emod_lt_of_pos y hp
 have d0:0≤y/p:=Int.ediv_nonneg hy0 (by omega)
 have d1:y/p<q:=Int.ediv_lt_of_lt_mul hp (by rw [Int.mul_comm,hpq];exact hy1)
 generalize x%p=a at *
 generalize x/p=b at *
 generalize y%p=c at *
 generalize y/p=d at *
 have ha:a*q≤18446744073709551616 - q:=by
  have:a*q≤(p - 1)*q:=Int.mul_le_mul_of_nonneg_right (by omega) (by omega)
  have e:(p - 1)*q=p*q - q:=by grind
  omega
 have ha0:0≤a*q:=Int.mul_nonneg x0 (by omega)
 have e1:jb x y=(b*18446744073709551616+(a*q+d))*p+c:=by
  unfold jb
  rw [←hx,←hy,←hpq]
  grind
 have e2:jb x y/p=b*18446744073709551616+(a*q+d):=Js e1 y0 y1
 rw [e2]
 refine ⟨by unfold wHi;omega,by unfold wLo;omega, ?_,d0,d1,by omega,x0⟩
 refine q8 (k:=b) ?_ (by omega) (by omega)
 rw [←hx,←hpq];grind
end Go.Lr
