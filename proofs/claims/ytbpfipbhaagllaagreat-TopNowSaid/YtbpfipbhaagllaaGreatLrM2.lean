/- Joined texts. What each part proves stands ahead of it; no condition. -/
import Derived.Test.YtbpfipbhaagllaaGreatLrM1
import Derived.LoopN
import Derived.Laws.Externs
import Derived.KernelRfl
set_option linter.unusedVariables false
set_option linter.unusedSimpArgs false
/- The local evaluator's steps: states, their relation to the model's, and how it goes from one to the next. -/
namespace Go.Lr
open Go.RowKit
def below (n:Nat):Nat→Bool:=fun i=>decide (i<n)
structure MRel (E:Env) (s:St) (w:World):Prop where
 rel:Rel E (getM s.mem) w
 okM:∀i b,getM s.mem i=some b→i<s.nb∧okL (below s.nb) b.cells=true
 uq:uniq s.mem
structure R (E:Env) (s:St) (a:Act) (w:World):Prop where
 size:a.tmps.size=s.sz
 le:s.sz≤60000
 tm:∀t:Nat,a.tmps.getD t undef=(getT s.tm t).den E
 defers:a.defers=[]
 okT:∀t,(getT s.tm t).ok (below s.nb)=true
 m:MRel E s w
structure Ext (w:World) (E:Env) (s:St) (w':World) (E':Env) (s':St):Prop where
 nb:s.nb≤s'.nb
 agree:∀i,i<s.nb→E' i=E i
 os:w'.os=w.os
 tape:w'.tape=w.tape
 output:w'.output=w.output
 size:w.heap.size≤w'.heap.size
 frame:∀b,b<w.heap.size→(∀i,(getM s.mem i).isSome→(E i).1≠b)→w'.heap[b]? = w.heap[b]?
 src:∀i,(getM s'.mem i).isSome→w.heap.size≤(E' i).1∨∃j,(getM s.mem j).isSome∧(E' i).1=(E j).1
theorem Ext.refl (w:World) (E:Env) (s:St):Ext w E s w E s:=
 ⟨Nat.le_refl _,fun _ _=>rfl,rfl,rfl,rfl,Nat.le_refl _,fun _ _ _=>rfl,fun i hi=> .inr ⟨i,hi,rfl⟩⟩
theorem Ext.trans {w w1 w2:World} {E E1 E2:Env} {s s1 s2:St} (h:Ext w E s w1 E1 s1) (k:Ext w1 E1 s1 w2 E2 s2):Ext w E s w2 E2 s2:=by
 refine ⟨Nat.le_trans h.nb k.nb,fun i hi=>(k.agree i (Nat.lt_of_lt_of_le hi h.nb)).trans (h.agree i hi),k.os.trans h.os,k.tape.trans h.tape,k.output.trans h.output,Nat.le_trans h.size k.size,fun b hb hn=> ?_,fun i hi=> ?_⟩
 ·rw [←h.frame b hb hn]
  refine k.frame b (Nat.lt_of_lt_of_le hb h.size) fun i hi he=> ?_
  rcases h.src i hi with h1 | ⟨j,hj,h1⟩
  ·omega
  ·exact hn j hj (h1.symm.trans he)
 ·rcases k.src i hi with h1 | ⟨j,hj,h1⟩
  ·exact .inl (Nat.le_trans h.size h1)
  ·rcases h.src j hj with h2 | ⟨q,hq,h2⟩
   ·exact .inl (by omega)
   ·exact .inr ⟨q,hq,h1.trans h2⟩
def Good (s:St):Prop:=∀c∈s.cs,c.1=c.2
theorem Kh {β:Type}:∀(m:Mem) (l:List (Nat×Option Blk)) (k:Mem→β),YQ m l k=k (qW m l)
 | _,[],_=>rfl
 | m,(i,s)::l,k=>by simp only [YQ,qW,jde,Kh]
theorem Ki {β:Type}:∀(m:Mem) (nb:Nat) (l:List Blk) (k:Mem→Nat→β),YR m nb l k=k (qX m nb l) (nb+l.length)
 | _,_,[],_=>rfl
 | m,nb,b::l,k=>by
  simp only [YR,qX,JD,Ki,List.length_cons]
  congr 1
  omega
theorem Y5 {β:Type}:∀(lg:List Nat) (l:List (Nat×Option Blk)) (k:List Nat→β),∃lg',jpG lg l k=k lg'∧(∀i∈lg,i∈lg')∧∀x∈l,x.1∈lg'
 | lg,[],k=>⟨lg,rfl,fun _ h=>h,by simp⟩
 | lg,x::l,k=>by
  simp only [jpG]
  split
  ·rename_i h
   obtain ⟨lg',h1,h2,h3⟩:=Y5 lg l k
   refine ⟨lg',h1,h2,fun y hy=> ?_⟩
   rcases List.mem_cons.1 hy with rfl | hy
   ·exact h2 _ (memB_iff.1 h)
   ·exact h3 y hy
  ·obtain ⟨lg',h1,h2,h3⟩:=Y5 (x.1::lg) l k
   refine ⟨lg',h1,fun i hi=>h2 i (List.mem_cons_of_mem _ hi),fun y hy=> ?_⟩
   rcases List.mem_cons.1 hy with rfl | hy
   ·exact h2 _ (List.mem_cons_self ..)
   ·exact h3 y hy
theorem kS {β:Type}:∀{z:Bool} {l old:List (Bool×Bool)} {k:List (Bool×Bool)→Option β} {r:β},csK z l old k=some r→
  ∃new,k new=some r∧((∀c∈new,c.1=c.2)→(∀c∈l,c.1=c.2)∧(∀c∈old,c.1=c.2))
 | z,[],old,k,r,h=>⟨old,by cases z <;> exact h,fun hc=>⟨by simp,hc⟩⟩
 | false,c::l,old,k,r,h=>by
  simp only [csK] at h
  obtain ⟨new,h1,h2⟩:=kS h
  refine ⟨c::new,h1,fun hc=> ?_⟩
  have:=h2 fun x hx=>hc x (by simp [hx])
  refine ⟨fun x hx=> ?_,this.2⟩
  rcases List.mem_cons.1 hx with rfl | hx
  ·exact hc x (by simp)
  ·exact this.1 x hx
 | true,(true,true)::l,old,k,r,h=>by
  simp only [csK] at h
  obtain ⟨new,h1,h2⟩:=kS h
  refine ⟨new,h1,fun hc=>⟨fun x hx=> ?_,(h2 hc).2⟩⟩
  rcases List.mem_cons.1 hx with rfl | hx
  ·rfl
  ·exact (h2 hc).1 x hx
 | true,(false,false)::l,old,k,r,h=>by
  simp only [csK] at h
  obtain ⟨new,h1,h2⟩:=kS h
  refine ⟨new,h1,fun hc=>⟨fun x hx=> ?_,(h2 hc).2⟩⟩
  rcases List.mem_cons.1 hx with rfl | hx
  ·rfl
  ·exact (h2 hc).1 x hx
 | true,(true,false)::l,old,k,r,h=>by simp [csK] at h
 | true,(false,true)::l,old,k,r,h=>by simp [csK] at h
theorem Jj:∀(l:List (Nat×Option Blk)) (m:Mem),uniq m→uniq (qW m l)
 | [],_,h=>h
 | (i,s)::l,m,h=>Jj l _ (QN m i s h)
theorem xB:∀(l:List (Nat×Option Blk)) (m:Mem),uniq m→(∀x∈l,(getM m x.1).isSome)→(l.map (·.1)).Nodup→∀k,getM (qW m l) k=wrG (getM m) l k
 | [],_,_,_,_,_=>rfl
 | (i,s)::l,m,hu,hl,hn,k=>by
  have hi:(getM m i).isSome:=hl (i,s) (by simp)
  have hset:∀j,getM (jdx m i s) j=if j=i then s else getM m j:=fun j=>QM m i s j hu hi
  simp only [List.map_cons,List.nodup_cons] at hn
  simp only [qW,wrG]
  rw [xB l _ (QN m i s hu) (fun x hx=>by
   rw [hset,if_neg (fun e=>hn.1 (by rw [←e];exact List.mem_map_of_mem hx))]
   exact hl x (by simp [hx])) hn.2 k]
  congr 1
  funext j
  exact hset j
theorem Jk:∀(l:List Blk) (m:Mem) (nb:Nat) (k:Nat),getM (qX m nb l) k=nwG (getM m) nb l k
 | [],_,_,_=>rfl
 | b::l,m,nb,k=>by
  simp only [qX,nwG]
  rw [Jk l]
  congr 1
  funext j
  exact jm nb b m j
theorem Jl:∀(l:List Blk) (m:Mem) (nb:Nat),uniq m→(∀i,nb≤i→getM m i=none)→uniq (qX m nb l)
 | [],_,_,h,_=>h
 | b::l,m,nb,h,hf=>by
  refine Jl l _ (nb+1) ⟨hf nb (Nat.le_refl _),h⟩ fun i hi=> ?_
  rw [jm,if_neg (by omega)]
  exact hf i (by omega)
theorem qA {g:Nat→Option Blk}:∀(l:List (Nat×Option Blk)) (k:Nat),(∀x∈l,x.1≠k)→wrG g l k=g k
 | [],_,_=>rfl
 | (i,s)::l,k,h=>by
  simp only [wrG]
  have hne:¬k=i:=fun e=>h (i,s) (by simp) e.symm
  have:(fun j=>if j=i then s else g j) k=g k:=by simp [hne]
  rw [←this]
  exact qA (g:=fun j=>if j=i then s else g j) l k fun x hx=>h x (by simp [hx])
theorem Q6 {g:Nat→Option Blk}:∀(l:List (Nat×Option Blk)) (k:Nat) (b:Blk),wrG g l k=some b→g k=some b∨∃x∈l,x.1=k∧x.2=some b
 | [],_,_,h=> .inl h
 | (i,s)::l,k,b,h=>by
  simp only [wrG] at h
  rcases Q6 l k b h with h | ⟨x,hx,h1,h2⟩
  ·by_cases hk:k=i
   ·rw [if_pos hk] at h;exact .inr ⟨(i,s),by simp,hk.symm,h⟩
   ·rw [if_neg hk] at h;exact .inl h
  ·exact .inr ⟨x,by simp [hx],h1,h2⟩
theorem Q7 {g:Nat→Option Blk}:∀(l:List Blk) (nb k:Nat) (b:Blk),nwG g nb l k=some b→g k=some b∨(nb≤k∧k<nb+l.length∧b∈l)
 | [],_,_,_,h=> .inl h
 | c::l,nb,k,b,h=>by
  simp only [nwG] at h
  rcases Q7 l (nb+1) k b h with h | ⟨h1,h2,h3⟩
  ·by_cases hk:k=nb
   ·rw [if_pos hk] at h;cases h;exact .inr ⟨by omega,by simp;omega,by simp⟩
   ·rw [if_neg hk] at h;exact .inl h
  ·exact .inr ⟨by omega,by simp;omega,by simp [h3]⟩
theorem Qc {nb k i:Nat} (h:pn (below nb) nb k i=true):below (nb+k) i=true:=by
 simp only [pn,below,Bool.or_eq_true,decide_eq_true_eq,Bool.and_eq_true] at h ⊢
 omega
section
variable {P:Program} {E:Env} {a:Act} {w:World}
theorem MRel.post {s:St} {d:Dl} {E':Env} {w':World} {tm:Tr} {sz:Nat} {dec:List (Option Bool)} {cs:List (Bool×Bool)} {lg:List Nat} (hm:MRel E s w) (hd:OkD (below s.nb) (getM s.mem) s.nb d) (hp:Post w E (getM s.mem) s.nb d E' w'):
  MRel E' ⟨tm,sz,qX (qW s.mem d.wr) s.nb d.nw,s.nb+d.nw.length,dec,cs,lg⟩ w'∧Ext w E s w' E' ⟨tm,sz,qX (qW s.mem d.wr) s.nb d.nw,s.nb+d.nw.length,dec,cs,lg⟩:=by
 have hfree:∀i,s.nb≤i→getM s.mem i=none:=by
  intro i hi
  cases h:getM s.mem i with
  | none=>rfl
  | some b=>have:=(hm.okM i b h).1;omega
 have hget:getM (qX (qW s.mem d.wr) s.nb d.nw)=nwG (wrG (getM s.mem) d.wr) s.nb d.nw:=by
  funext k
  rw [Jk]
  congr 1
  funext j
  exact xB d.wr s.mem hm.uq hd.live hd.nd j
 have hsrc:∀i b,nwG (wrG (getM s.mem) d.wr) s.nb d.nw i=some b→
   ((getM s.mem i).isSome∧(getM s.mem i=some b∨∃x∈d.wr,x.1=i∧x.2=some b))∨(s.nb≤i∧i<s.nb+d.nw.length∧b∈d.nw):=by
  intro i b h
  rcases Q7 _ _ _ _ h with h | h
  ·rcases Q6 _ _ _ h with h | ⟨x,hx,h1,h2⟩
   ·exact .inl ⟨by simp [h],.inl h⟩
   ·exact .inl ⟨by rw [←h1];exact hd.live x hx,.inr ⟨x,hx,h1,h2⟩⟩
  ·exact .inr h
 refine ⟨⟨by rw [hget];exact hp.rel,fun i b h=> ?_, ?_⟩,⟨Nat.le_add_right _ _,fun i hi=>hp.agree i (.inl hi),hp.os,hp.tape,hp.output,hp.size,hp.frame,fun i hi=> ?_⟩⟩
 ·rw [hget] at h
  rcases hsrc i b h with ⟨h0,h1 | ⟨x,hx,h1,h2⟩⟩ | ⟨h1,h2,h3⟩
  ·obtain ⟨g1,g2⟩:=hm.okM i b h1
   exact ⟨by show i<s.nb+_;omega,jn (fun j hj=>Qc (xf hj)) g2⟩
  ·obtain ⟨c,hc⟩:=Option.isSome_iff_exists.1 h0
   have g1:=(hm.okM i c hc).1
   exact ⟨by show i<s.nb+_;omega,jn (fun j hj=>Qc hj) (hd.wr x hx b h2)⟩
  ·exact ⟨h2,jn (fun j hj=>Qc hj) (okBs_iff.1 hd.nw b h3)⟩
 ·refine Jl _ _ _ (Jj _ _ hm.uq) fun i hi=> ?_
  rw [xB d.wr s.mem hm.uq hd.live hd.nd i,qA]
  ·exact hfree i hi
  ·intro x hx e
   have:=hd.live x hx
   rw [e,hfree i hi] at this
   cases this
 ·obtain ⟨b,hb⟩:=Option.isSome_iff_exists.1 hi
  rw [hget] at hb
  rcases hsrc i b hb with ⟨h0,_⟩ | ⟨h1,h2,_⟩
  ·obtain ⟨c,hc⟩:=Option.isSome_iff_exists.1 h0
   exact .inr ⟨i,h0,by rw [hp.agree i (.inl (hm.okM i c hc).1)]⟩
  ·exact hp.fresh i h1 h2
def updτ (τ:Nat→LV) (dst:Option Tmp) (v:LV):Nat→LV:=
 match dst with
 | some d=>fun t=>if t=d then v else τ t
 | none=>τ
theorem ju6 (d sz:Nat) (h1:d<sz) (h2:sz≤60000):d+1<2 ^ 16:=by omega
theorem JQ (xs:Array Value) (d t:Nat) (v:Value) (hd:d<xs.size):(xs.setIfInBounds d v).getD t undef=if t=d then v else xs.getD t undef:=by
 by_cases h:t=d
 ·subst h
  simp [hd]
 ·rw [if_neg h]
  simp [Array.getElem?_setIfInBounds_ne (Ne.symm h)]
theorem jjX {s:St} (hsz:a.tmps.size=s.sz) (hle:s.sz≤60000) {dst:Option Tmp} {v:LV} {β:Type} {k:Tr→Option β} {r:β} (h:jdU s dst v k=some r):
  ∃tm,k tm=some r∧(getT tm=updτ (getT s.tm) dst v∧∀d,dst=some d→d<s.sz)∧∀E':Env,(a.put dst (v.den E')).tmps.size=s.sz∧
   ((∀t:Nat,a.tmps.getD t undef=(getT s.tm t).den E')→∀t:Nat,(a.put dst (v.den E')).tmps.getD t undef=(getT tm t).den E'):=by
 unfold jdU at h
 split at h
 ·rename_i d
  split at h
  ·rename_i hlt
   rw [zT] at hlt
   have hlt':d<s.sz:=by simpa using hlt
   rw [JC] at h
   refine ⟨_,h,⟨?_,fun d' hd=>by cases hd;exact hlt'⟩,fun E'=>⟨by simp [Act.put,hsz],fun ht t=> ?_⟩⟩
   ·funext t
    exact xY 16 s.tm d v t (ju6 d s.sz hlt' hle)
   ·rw [xY 16 s.tm d v t (ju6 d s.sz hlt' hle)]
    simp only [Act.put]
    rw [JQ a.tmps d t _ (by rw [hsz];exact hlt')]
    by_cases hh:t=d
    ·rw [if_pos hh,if_pos hh]
    ·rw [if_neg hh,if_neg hh,ht t]
  ·cases h
 ·exact ⟨s.tm,h,⟨rfl,fun d hd=>by cases hd⟩,fun E'=>⟨hsz,fun ht t=>ht t⟩⟩
theorem jaw {β:Type} {z:Md} {s:St} {dst:Option Tmp} {d:Dl} {dec:List (Option Bool)} {cs:List (Bool×Bool)} {k:St→Option β} {r:β} (hsz:a.tmps.size=s.sz) (hle:s.sz≤60000)
  (h:jio z s dst d dec cs k=some r):
  ∃s1,k s1=some r∧(Good s1→(∀c∈d.cs,c.1=c.2)∧(∀c∈cs,c.1=c.2)∧Good s)∧s1.dec=dec∧s1.sz=s.sz∧s1.nb=s.nb+d.nw.length∧s1.mem=qX (qW s.mem d.wr) s.nb d.nw∧
   (getT s1.tm=updτ (getT s.tm) dst d.val∧∀d',dst=some d'→d'<s.sz)∧
   ∀E',(a.put dst (d.val.den E')).tmps.size=s.sz∧((∀t:Nat,a.tmps.getD t undef=(getT s.tm t).den E')→∀t:Nat,(a.put dst (d.val.den E')).tmps.getD t undef=(getT s1.tm t).den E'):=by
 unfold jio at h
 rw [JD,JE] at h
 obtain ⟨tm,h1,h2,h7⟩:=jjX hsz hle h
 rw [Kh,Ki] at h1
 obtain ⟨lg',hlg,-,-⟩:=Y5 s.lg d.wr (fun lg=>csK z.z d.cs s.cs fun c1=>csK z.z cs c1 fun c2=>k ⟨tm,s.sz,qX (qW s.mem d.wr) s.nb d.nw,s.nb+d.nw.length,dec,c2,lg⟩)
 rw [hlg] at h1
 obtain ⟨c1,h3,h4⟩:=kS h1
 obtain ⟨c2,h5,h6⟩:=kS h3
 refine ⟨_,h5,fun hg=> ?_,rfl,rfl,rfl,rfl,h2,h7⟩
 have g1:=h6 hg
 have g2:=h4 g1.2
 exact ⟨g2.1,g1.1,g2.2⟩
end
end Go.Lr

/- The local evaluator: guards, one step in whatever state, what a step hangs on. -/
namespace Go.Lr
open Go.RowKit
section
variable {P:Program} {S:FuncId→Option SumK} {E:Env} {τ:Nat→LV} {a:Act} {w:World} {g:Nat→Option Blk} {nb:Nat} {p:Nat→Bool}
theorem Kj {ops:Array Oper} {o:Oper} {gd:Option Bool} {b:Bool} {cs:List (Bool×Bool)} (hτ:∀t:Nat,a.tmps.getD t undef=(τ t).den E)
  (h:Xs ops.toList τ o gd=some (b,cs)) (hc:∀c∈cs,c.1=c.2):Region.wanted o (yielded ops a.tmps)=b:=by
 unfold Xs at h
 unfold Region.wanted
 split at h
 ·rename_i ho;rw [ho];cases h;rfl
 ·rename_i j want ho
  rw [ho]
  simp only
  split at h
  ·rename_i t ht
   have hdst:(ops[j]?).bind (·.dst)=some t:=by
    unfold KX at ht
    have:ops.toList[j]? = ops[j]? :=by simp
    rw [this] at ht
    split at ht
    ·rename_i q hq;rw [hq];exact ht
    ·cases ht
   have hy:∀v,(τ t).den E=v→yielded ops a.tmps j=match (if t<a.tmps.size then some v else none) with | some (.bool b)=>some b | _=>none:=by
    intro v hv
    have:=hτ t
    rw [hv] at this
    unfold yielded
    rw [hdst]
    simp only [Option.bind_some]
    by_cases hlt:t<a.tmps.size
    ·rw [if_pos hlt]
     have h2:a.tmps[t]? = some v:=by
      rw [Array.getD_eq_getD_getElem?,Array.getElem?_eq_getElem hlt] at this
      rw [Array.getElem?_eq_getElem hlt]
      simpa using this
     rw [h2]
     cases v <;> rfl
    ·rw [if_neg hlt,Array.getElem?_eq_none (Nat.le_of_not_lt hlt)]
   split at h
   ·rename_i q hq
    have h1:=hy (.bool q) (by rw [hq];rfl)
    have hlt:t<a.tmps.size:=by
     have h2:=hτ t
     rw [hq] at h2
     by_cases hlt:t<a.tmps.size
     ·exact hlt
     ·rw [Array.getD_eq_getD_getElem?,Array.getElem?_eq_none (Nat.le_of_not_lt hlt)] at h2
      simp [undef,LV.den,V1.den,At.den] at h2
    rw [if_pos hlt] at h1
    rw [h1]
    split at h
    ·rename_i c cs' hcs
     cases h
     have:=xA hcs hc
     subst this
     cases q <;> cases want <;> rfl
    ·cases h
   ·rename_i vs hq
    have h1:=hy (.tuple vs) (by rw [hq];rfl)
    have:yielded ops a.tmps j=none:=by rw [h1];by_cases hlt:t<a.tmps.size <;> simp [hlt]
    rw [this]
    cases h
    cases want <;> rfl
   ·cases h
  ·cases h
def Q8 (P:Program):Prop:=
 ∀(E:Env) (w:World) (a:Act) (op:BinOp) (t:TypeId) (x y:LV) (xo yo:Operand) (kn:Bool) (d:Dl),a.eval xo=x.den E→a.eval yo=y.den E→jnk P op t x y kn=some d→
  Pur P E w (do eqGuard op t xo yo (x.den E) (y.den E);binOp op t (x.den E) (y.den E)) d
theorem JR (hτ:∀t:Nat,a.tmps.getD t undef=(τ t).den E):∀t,a.eval (.tmp t)=(τ t).den E:=hτ
theorem jen (hr:Rel E g w):Post w E g nb jdV E w:= .refl rfl rfl hr
theorem jiI:OkD p g nb jdV:= .plain rfl rfl rfl
theorem jds (hB:Q8 P) (hS:AllOK P S) {z:Md} {ops:Array Oper} {i:Nat} {o:Oper} {gd pd:Option Bool} {d:Dl} {cs:List (Bool×Bool)} (hi:ops[i]? = some o)
  (hτ:∀t:Nat,a.tmps.getD t undef=(τ t).den E) (hp:∀t,(τ t).ok p=true) (hr:Rel E g w) (hg:∀i c,g i=some c→p i=true∧okL p c.cells=true)
  (hn:∀i,nb≤i→i<nb+d.nw.length→p i=false)
  (h:J8 P S z ops.toList τ g nb gd pd o=some (d,cs)) (hc:∀c∈d.cs,c.1=c.2) (hc':∀c∈cs,c.1=c.2) {K:Act→World→Prop} {Q:Exit→Act→World→Prop}
  (hk:∀E' w',Post w E g nb d E' w'→K (a.put o.dst (d.val.den E')) w'):wpOp P ops Q i K a w:=by
 unfold wpOp
 simp only [hi]
 unfold J8 at h
 split at h
 ·rename_i cs' hw
  split at h
  ·rename_i d' hd
   cases h
   have:=Kj (a:=a) (E:=E) (ops:=ops) hτ hw hc'
   rw [this]
   simp only [if_true]
   exact .inl (jiH hS (JR hτ) hp (fun op t x y xo yo kn d h1 h2 h3=>hB E w a op t x y xo yo kn d h1 h2 h3) hd hr hg hn hc K Q hk)
  ·cases h
 ·rename_i cs' hw
  cases h
  have:=Kj (a:=a) (E:=E) (ops:=ops) hτ hw hc'
  rw [this]
  simp only [Bool.false_eq_true,if_false]
  exact hk E w (jen hr)
 ·cases h
theorem Y6 {z:Md} {all:List Oper} {o:Oper} {gd pd:Option Bool} {d:Dl} {cs:List (Bool×Bool)} (hp:∀t,(τ t).ok p=true)
  (hg:∀i c,g i=some c→p i=true∧okL p c.cells=true) (h:J8 P S z all τ g nb gd pd o=some (d,cs)):OkD p g nb d:=by
 unfold J8 at h
 split at h
 ·split at h
  ·rename_i d' hd
   cases h
   exact jpK hp hd hg
  ·cases h
 ·cases h;exact jiI
 ·cases h
theorem jiJ {τ':Nat→LV} {x:Operand} (h:∀t∈qw [x],τ' t=τ t):ev τ' x=ev τ x:=by
 cases x with
 | tmp t=>simp [ev,h t (by simp [qw])]
 | _=>rfl
theorem x7:∀{l:List Operand} {t:Tmp},t∈qw l↔Operand.tmp t∈l
 | [],t=>by simp [qw]
 | .tmp u::l,t=>by simp [qw,x7 (l:=l)]
 | .const v::l,t=>by simp [qw,x7 (l:=l)]
 | .global v::l,t=>by simp [qw,x7 (l:=l)]
 | .func v::l,t=>by simp [qw,x7 (l:=l)]
theorem kx {τ':Nat→LV} {l:List Operand} (h:∀t∈qw l,τ' t=τ t) {x:Operand} (hx:x∈l):ev τ' x=ev τ x:=
 jiJ fun t ht=>h t (by
  rw [x7] at ht ⊢
  rw [List.mem_singleton] at ht
  rw [ht];exact hx)
theorem jb3 {τ':Nat→LV} {l:List Operand} (h:∀t∈qw l,τ' t=τ t):∀{xs:List Operand},(∀x∈xs,x∈l)→evs τ' xs=evs τ xs
 | [],_=>rfl
 | x::xs,hx=>by
  simp only [evs]
  rw [kx h (hx x (by simp)),jb3 h fun y hy=>hx y (by simp [hy])]
theorem Jm {τ':Nat→LV} {l:List Operand} (h:∀t∈qw l,τ' t=τ t):∀{xs:List (Nat×Operand)},(∀x∈xs,x.2∈l)→yi τ' xs=yi τ xs
 | [],_=>rfl
 | (i,x)::xs,hx=>by
  simp only [yi]
  rw [kx h (hx (i,x) (by simp)),Jm h fun y hy=>hx y (by simp [hy])]
theorem Y7 {τ':Nat→LV} {l:List Operand} (h:∀t∈qw l,τ' t=τ t) {x:Option Operand} (hx:∀y,x=some y→y∈l):jho τ' x=jho τ x:=by
 cases x with
 | none=>rfl
 | some y=>simp only [jho];rw [kx h (hx y rfl)]
theorem jgH {g':Nat→Option Blk} {t:TypeId} {v:LV} {d:Dl} (h:Qj P t v g=some d) (hg:∀i∈d.rd++keys d.wr,g' i=g i):Qj P t v g'=some d:=by
 unfold Qj at h ⊢
 split at h
 ·rename_i b o
  split at h
  ·rename_i k hk
   split at h
   ·rename_i x hx
    cases h
    have:=hg b (by simp)
    simp [this,hk,hx]
   ·cases h
  ·cases h
 ·cases h
theorem jeo {g':Nat→Option Blk} {t:TypeId} {v:LV} {d:Dl} (h:Ko P t v g=some d) (hg:∀i∈d.rd++keys d.wr,g' i=g i):Ko P t v g'=some d:=by
 unfold Ko at h ⊢
 split at h
 ·rename_i b o
  split at h
  ·rename_i k hk
   split at h
   ·rename_i x cs hx
    cases h
    have:=hg b (by simp)
    simp [this,hk,hx]
   ·cases h
  ·cases h
 ·exact jgH h hg
theorem jep {g':Nat→Option Blk} {t:TypeId} {u v:LV} {d:Dl} (h:yB P t u v g=some d) (hg:∀i∈d.rd++keys d.wr,g' i=g i):yB P t u v g'=some d:=by
 unfold yB at h ⊢
 split at h
 ·rename_i b o
  split at h
  ·rename_i ty es l hk
   split at h
   ·rename_i vs n hvs hn
    split at h
    ·rename_i r hlen hlay
     cases h
     have:=hg b (by simp [keys])
     simp [this,hk,hlen,hlay]
    ·cases h
   ·cases h
  ·cases h
 ·cases h
theorem jeq {g':Nat→Option Blk} {t:TypeId} {u v:LV} {d:Dl} (h:Kp P t u v g=some d) (hg:∀i∈d.rd++keys d.wr,g' i=g i):Kp P t u v g'=some d:=by
 unfold Kp at h ⊢
 split at h
 ·split at h
  ·have h0:=h
   obtain ⟨ty,es,l,vs,hk,hvs,hs,rfl⟩:=zj h
   have:=hg _ (by simp [keys];rfl)
   unfold Yf at h0 ⊢
   simp only [this]
   exact h0
  have h0:=h
  obtain ⟨ty,es,l,z,hk,rfl,hs,hz,rfl⟩:=Jf h
  have:=hg _ (by simp [keys];rfl)
  unfold jcp at h0 ⊢
  simp only [this]
  exact h0
 ·exact jep h hg
theorem X9 {g':Nat→Option Blk} {s:Nat} {x:LV} {m b:Nat} {news:List At} {cs:List (Bool×Bool)} (h:yR g s x=some (m,news,b,cs)) (hg:g' b=g b):yR g' s x=some (m,news,b,cs):=by
 unfold yR at h ⊢
 split at h
 ·split at h
  ·rename_i k hk
   split at h
   ·rename_i l hcut
    split at h
    ·rename_i hall
     cases h
     simp [hg,hk,hcut,hall]
    ·cases h
   ·cases h
  ·cases h
 ·split at h
  ·rename_i k hk
   split at h
   ·rename_i l hcut
    split at h
    ·rename_i hall
     cases h
     simp [hg,hk,hcut,hall]
    ·cases h
   ·cases h
  ·cases h
 ·split at h
  ·rename_i k hk
   cases h
   simp [hg,hk]
  ·cases h
 ·cases h
theorem jer {g':Nat→Option Blk} {e:TypeId} {s:Nat} {x:LV} {n:Nat} {old:List At} {kill:Option Nat} (h:yE g e s x=some (n,old,kill)) (hg:∀q,kill=some q→g' q=g q):yE g' e s x=some (n,old,kill):=by
 have h0:=h
 unfold yE at h
 split at h
 ·exact h0
 ·rename_i b n'
  split at h
  ·rename_i ty es l hk
   split at h
   ·cases h
    unfold yE at h0 ⊢
    simp only [hg _ rfl] at h0 ⊢
    exact h0
   ·cases h
  ·cases h
 ·exact h0
 ·rename_i b n' c hne
  split at h
  ·rename_i ty l hk
   split at h
   ·cases h
    unfold yE at h0 ⊢
    simp only [hg _ rfl] at h0 ⊢
    exact h0
   ·cases h
  ·cases h
 ·cases h
theorem jb4 {g':Nat→Option Blk} {ts:List TypeId} {args:List LV} {d:Dl} (h:xM P nb g ts args=some d) (hg:∀i∈d.rd++keys d.wr,g' i=g i):xM P nb g' ts args=some d:=by
 unfold xM at h ⊢
 split at h
 ·split at h
  ·split at h
   ·split at h
    ·rename_i n old kill m news b cs hold hnews
     split at h
     ·rename_i q1 q2 q3
      cases h
      have e1:g' b=g b:=hg b (by simp)
      have e2:∀q,kill=some q→g' q=g q:=fun q hq=>by subst hq;exact hg q (by simp [jmA])
      simp [jer hold e2,X9 hnews e1,q1,q2,q3]
     ·cases h
    ·cases h
   ·cases h
  ·cases h
 ·cases h
theorem jb5 {g':Nat→Option Blk} {ts:List TypeId} {args:List LV} {d:Dl} (h:yT P nb g ts args=some d) (hg:∀i∈d.rd++keys d.wr,g' i=g i):yT P nb g' ts args=some d:=by
 unfold yT at h ⊢
 split at h
 ·have h0:=h
  obtain ⟨t,e,i,-,-,-,hd⟩:=zk h
  unfold Yk at h0 ⊢
  rcases hd with ⟨rfl,hd⟩ | ⟨b,o,n,c,k,rfl,hk,-,rfl⟩ | ⟨b,n,ty,es,l,rfl,hk,-,-,rfl⟩
  ·exact h0
  ·have e1:g' b=g b:=hg b (by simp)
   simp only [e1]
   exact h0
  ·have e1:g' b=g b:=hg b (by simp)
   simp only [e1]
   exact h0
 ·exact jb4 h hg
theorem jgI {g':Nat→Option Blk} {s:Nat} {x:LV} {m b:Nat} {news:List At} {cs:List (Bool×Bool)} (h:Zw g s x=some (m,news,b,cs)) (hg:g' b=g b):Zw g' s x=some (m,news,b,cs):=by
 unfold Zw at h ⊢
 split at h
 ·split at h
  ·rename_i k hk
   cases h
   simp [hg,hk]
  ·cases h
 ·exact X9 h hg
theorem jgJ {g':Nat→Option Blk} {e:TypeId} {s:Nat} {x:LV} {n:Nat} {old:List At} {kill:Option Nat} {c:Bool} (h:Yl g e s x=some (n,old,kill,c)) (hg:∀q,kill=some q→g' q=g q):Yl g' e s x=some (n,old,kill,c):=by
 have h0:=h
 unfold Yl at h
 split at h
 ·exact h0
 ·split at h
  ·split at h
   ·cases h
    unfold Yl at h0 ⊢
    simp only [hg _ rfl] at h0 ⊢
    exact h0
   ·cases h
  ·cases h
 ·exact h0
 ·cases h
theorem jb6 {g':Nat→Option Blk} {ts:List TypeId} {args:List LV} {d:Dl} (h:yS P nb g ts args=some d) (hg:∀i∈d.rd++keys d.wr,g' i=g i):yS P nb g' ts args=some d:=by
 unfold yS at h ⊢
 split at h
 ·split at h
  ·split at h
   ·split at h
    ·rename_i n old kill c m news b cs hold hnews
     split at h
     ·rename_i q1 q2 q3
      cases h
      have e1:g' b=g b:=hg b (by simp)
      have e2:∀q,kill=some q→g' q=g q:=fun q hq=>by subst hq;exact hg q (by simp [jmA])
      simp [jgJ hold e2,jgI hnews e1,q1,q2,q3]
     ·cases h
    ·cases h
   ·cases h
  ·cases h
 ·cases h
theorem jb7 {g':Nat→Option Blk} {ts:List TypeId} {args:List LV} {d:Dl} (h:yU P nb g ts args=some d) (hg:∀i∈d.rd++keys d.wr,g' i=g i):yU P nb g' ts args=some d:=by
 unfold yU at h ⊢
 split at h
 ·exact jb6 h hg
 ·exact jb5 h hg
theorem jgK {g':Nat→Option Blk} {ts:List TypeId} {args:List LV} {d:Dl} (h:Ym P g ts args=some d) (hg:∀i∈d.rd++keys d.wr,g' i=g i):Ym P g' ts args=some d:=by
 have h0:=h
 unfold Ym at h
 split at h
 ·split at h
  ·rename_i e b o n b' o' m hu hx hy
   split at h
   ·split at h
    ·split at h
     ·cases h
      have e1:g' b=g b:=hg b (by simp)
      have e2:g' b'=g b':=hg b' (by simp)
      unfold Ym at h0 ⊢
      simp only [hu,hx,hy,e1,e2] at h0 ⊢
      exact h0
     ·cases h
    ·cases h
   ·cases h
  ·cases h
 ·cases h
theorem jes {g':Nat→Option Blk} {ts:List TypeId} {args:List LV} {d:Dl} (h:Jt P g ts args=some d) (hg:∀i∈d.rd++keys d.wr,g' i=g i):Jt P g' ts args=some d:=by
 have h0:=h
 unfold Jt at h
 split at h
 ·split at h
  ·rename_i e b o n hu hx
   split at h
   ·split at h
    ·cases h
     have e1:g' b=g b:=hg b (by simp)
     unfold Jt at h0 ⊢
     simp only [hu,hx,e1] at h0 ⊢
     exact h0
    ·cases h
   ·cases h
  ·cases h
 ·cases h
theorem jax {g':Nat→Option Blk} {b:Builtin} {ts:List TypeId} {args:List LV} {d:Dl} (h:zu P g b ts args=some d) (hg:∀i∈d.rd++keys d.wr,g' i=g i):zu P g' b ts args=some d:=by
 unfold zu at h ⊢
 split at h
 ·exact jgK h hg
 ·exact jes h hg
 ·exact h
theorem jet {g':Nat→Option Blk} {t:TypeId} {c:Bool} {b n:Nat} {lo hi:Option LV} {d:Dl} (h:yC P g nb t c b n lo hi=some d) (hg:∀i∈d.rd++keys d.wr,g' i=g i):yC P g' nb t c b n lo hi=some d:=by
 have h0:=h
 have key:b∈d.rd→yC P g' nb t c b n lo hi=some d:=fun hb=>by
  have e1:g' b=g b:=hg b (by simp [hb])
  unfold yC at h0 ⊢
  simp only [e1]
  exact h0
 unfold yC at h
 split at h
 ·split at h
  ·split at h
   ·split at h
    ·cases h;exact key (by simp)
    ·split at h
     ·cases h;exact key (by simp)
     ·split at h
      ·cases h;exact key (by simp)
      ·cases h
    ·cases h
   ·cases h
  ·cases h
 ·cases h
theorem jeu {g':Nat→Option Blk} {t:TypeId} {x:LV} {lo:Option LV} {hi mx:LV} {d:Dl} (h:yD P g t x lo hi mx=some d) (hg:∀i∈d.rd++keys d.wr,g' i=g i):yD P g' t x lo hi mx=some d:=by
 have h0:=h
 unfold yD at h
 split at h
 ·rename_i e hu
  split at h
  ·rename_i hs
   unfold yD at h0 ⊢
   simp only [hu,hs] at h0 ⊢
   exact h0
  ·rename_i hs
   unfold yD at h0 ⊢
   simp only [hu,hs] at h0 ⊢
   exact h0
  ·rename_i s b n hs
   have key:b∈d.rd→yD P g' t (.v (.one (.slu b n))) lo hi mx=some d:=fun hb=>by
    have e1:g' b=g b:=hg b (by simp [hb])
    unfold yD at h0 ⊢
    simp only [hu,hs,e1] at h0 ⊢
    exact h0
   split at h
   ·split at h
    ·split at h
     ·split at h
      ·split at h <;> (cases h;exact key (by simp))
      ·cases h
     ·cases h
    ·cases h
   ·cases h
  ·cases h
 ·cases h
theorem jev {g':Nat→Option Blk} {t:TypeId} {c:Bool} {b n:Nat} {lo hi:Option LV} {d:Dl} (h:Kr P g nb t c b n lo hi=some d) (hg:∀i∈d.rd++keys d.wr,g' i=g i):Kr P g' nb t c b n lo hi=some d:=by
 have h0:=h
 obtain ⟨k,e,z,l,hk,rfl,-⟩:=Jh h
 have e1:g' b=g b:=hg b (by simp)
 unfold Kr at h0 ⊢
 simp only [e1]
 exact h0
theorem jew {g':Nat→Option Blk} {t:TypeId} {c:Bool} {x:LV} {lo hi mx:Option LV} {d:Dl} (h:Ql P g nb t c x lo hi mx=some d) (hg:∀i∈d.rd++keys d.wr,g' i=g i):Ql P g' nb t c x lo hi mx=some d:=by
 unfold Ql at h ⊢
 split at h
 ·split at h
  ·exact jeu h hg
  ·cases h
 ·split at h
  ·exact jet h hg
  ·split at h
   ·exact jev h hg
   ·exact h
theorem yz {g':Nat→Option Blk}:∀{l:List Nat},(∀i∈l,g' i=g i)→jz g' l=jz g l
 | [],_=>rfl
 | b::l,h=>by
  simp only [jz]
  rw [h b (by simp),yz fun i hi=>h i (by simp [hi])]
theorem jb8:∀(l:List (Nat×Option Blk)),keys l=l.map (·.1)
 | []=>rfl
 | (i,s)::l=>by simp [keys,jb8 l]
theorem jdt {g':Nat→Option Blk} {t:Tch} {d:Dl} (h:jg6 t g nb=some d) (hg:∀i∈d.rd++keys d.wr,g' i=g i):jg6 t g' nb=some d:=by
 have h0:=h
 unfold jg6 at h
 split at h
 ·split at h
  ·split at h
   ·split at h
    ·cases h
     have h1:jz g' t.rd=jz g t.rd:=yz fun i hi=>hg i (by simp [hi])
     have h2:jz g' t.wr=jz g t.wr:=yz fun i hi=>hg i (by simp [hi])
     unfold jg6 at h0 ⊢
     rw [h1,h2]
     exact h0
    ·cases h
   ·cases h
  ·cases h
 ·cases h
theorem jay:∀{l m:List Nat},Zu l m=true→∀a∈l,a∈m
 | [],m,_,a,ha=>by cases ha
 | b::l,m,h,a,ha=>by
  simp only [Zu] at h
  split at h
  ·rename_i hb
   rcases List.mem_cons.1 ha with rfl | ha
   ·exact memB_iff.1 hb
   ·exact jay h a ha
  ·cases h
theorem jaz {g g':Nat→Option Blk}:∀{l:List Nat},(∀b∈l,g' b=g b)→Yi g' l=Yi g l
 | [],_=>rfl
 | b::l,h=>by
  simp only [Yi]
  rw [h b (by simp),jaz fun b hb=>h b (by simp [hb])]
theorem Q9 {g:Nat→Option Blk}:∀(n:Nat) (l seen r:List Nat),JY g n l seen=some r→∀i∈seen,i∈r
 | n,[],seen,r,h,i,hi=>by cases n <;> (simp only [JY] at h;cases h;exact hi)
 | 0,_::_,_,_,h,_,_=>by simp [JY] at h
 | n+1,b::l,seen,r,h,i,hi=>by
  simp only [JY] at h
  split at h
  ·exact Q9 n l seen r h i hi
  ·split at h
   ·exact Q9 n _ _ r h i (List.mem_cons_of_mem _ hi)
   ·cases h
theorem Xa {g g':Nat→Option Blk}:∀(n:Nat) (l seen r:List Nat),JY g n l seen=some r→(∀i∈r,g' i=g i)→JY g' n l seen=some r
 | n,[],seen,r,h,_=>by cases n <;> (simp only [JY] at h ⊢;exact h)
 | 0,_::_,_,_,h,_=>by simp [JY] at h
 | n+1,b::l,seen,r,h,hg=>by
  simp only [JY] at h ⊢
  split at h
  ·exact Xa n l seen r h hg
  ·split at h
   ·rename_i k hk
    have hb:b∈r:=Q9 n _ _ r h b (List.mem_cons_self ..)
    rw [hg b hb,hk]
    exact Xa n _ _ r h hg
   ·cases h
theorem jiK {g':Nat→Option Blk} {s:SumK} {args:List LV} {d:Dl} (h:jdA s args g nb=some d) (hg:∀i∈d.rd++keys d.wr,g' i=g i):jdA s args g' nb=some d:=by
 cases s with
 | old s=>
  simp only [jdA] at h ⊢
  split at h
  ·exact jdt h hg
  ·cases h
 | peek s=>
  simp only [jdA] at h ⊢
  split at h
  ·rename_i t ht
   split at h
   ·rename_i ha
    have hrd:d.rd=t.rd++t.wr:=by
     obtain ⟨rB,wB,ans,ws,-,-,-,-,-,rfl⟩:=Kf h
     rfl
    have hpk:Yi g' (jaQ args)=Yi g (jaQ args):=jaz fun b hb=>hg b (by rw [hrd];exact List.mem_append_left _ (jay ha b hb))
    rw [hpk,ht]
    simp only [ha]
    exact jdt h hg
   ·cases h
  ·cases h
 | gen s=>
  simp only [jdA] at h ⊢
  split at h
  ·rename_i seen hseen
   split at h
   ·rename_i ks hks
    have hrd:d.rd=seen:=by
     obtain ⟨d0,-,-,-,-,-,-,rfl⟩:=Kg h
     rfl
    have hs:∀i∈seen,g' i=g i:=fun i hi=>hg i (List.mem_append_left _ (by rw [hrd];exact hi))
    rw [Xa _ _ _ _ hseen hs]
    simp only [yz hs,hks]
    exact h
   ·cases h
  ·cases h
theorem jlY {τ':Nat→LV} {g':Nat→Option Blk} {z:Bool} {pd:Option Bool} {op:Op} {d:Dl} (h:opD P S z τ g nb pd op=some d)
  (ht:∀t∈qw op.operands.toList,τ' t=τ t) (hg:∀i∈d.rd++keys d.wr,g' i=g i):opD P S z τ' g' nb pd op=some d:=by
 cases op <;> simp only [opD,on1,on2,onL,onP,jeU,reduceCtorEq] at h ⊢
 case move x=>rw [kx ht (x:=x) (by simp [Op.operands])];exact h
 case assign x=>rw [kx ht (x:=x) (by simp [Op.operands])];exact h
 case pick c x y=>
  unfold jaM at h ⊢
  rw [kx ht (x:=c) (by simp [Op.operands]),kx ht (x:=x) (by simp [Op.operands]),kx ht (x:=y) (by simp [Op.operands])];exact h
 case alloc t=>exact h
 case box t x=>rw [kx ht (x:=x) (by simp [Op.operands])];exact h
 case build t parts=>rw [Jm ht (xs:=parts.toList) (fun x hx=>by simp only [Op.operands];exact List.mem_map_of_mem hx)];exact h
 case buildSlice t n parts=>rw [Jm ht (xs:=parts.toList) (fun x hx=>by simp only [Op.operands];exact List.mem_map_of_mem hx)];exact h
 case load t x=>
  rw [kx ht (x:=x) (by simp [Op.operands])]
  split at h
  ·exact jeo h hg
  ·cases h
 case store t x y=>
  rw [kx ht (x:=x) (by simp [Op.operands]),kx ht (x:=y) (by simp [Op.operands])]
  split at h
  ·split at h
   ·exact jeq h hg
   ·cases h
  ·cases h
 case nilCheck x=>rw [kx ht (x:=x) (by simp [Op.operands])];exact h
 case binOp op t x y ty=>rw [kx ht (x:=x) (by simp [Op.operands]),kx ht (x:=y) (by simp [Op.operands])];exact h
 case unOp op t x=>rw [kx ht (x:=x) (by simp [Op.operands])];exact h
 case convert t u x=>rw [kx ht (x:=x) (by simp [Op.operands])];exact h
 case makeFunc f first caps=>rw [jb3 ht (xs:=caps.toList) (fun x hx=>by simp [Op.operands];right;simpa using hx)];exact h
 case slice t x lo hi mx=>
  unfold slD at h ⊢
  rw [Y7 ht (x:=lo) (fun y hy=>by subst hy;simp [Op.operands]),Y7 ht (x:=hi) (fun y hy=>by subst hy;simp [Op.operands]),Y7 ht (x:=mx) (fun y hy=>by subst hy;simp [Op.operands])]
  simp only [on1] at h ⊢
  rw [kx ht (x:=x) (by simp [Op.operands])]
  split at h
  ·split at h
   ·split at h
    ·split at h
     ·exact jew h hg
     ·cases h
    ·cases h
   ·cases h
  ·cases h
 case sliceToArrayPointer t x=>rw [kx ht (x:=x) (by simp [Op.operands])];exact h
 case fieldAddr t x i=>rw [kx ht (x:=x) (by simp [Op.operands])];exact h
 case field t x i=>rw [kx ht (x:=x) (by simp [Op.operands])];exact h
 case indexAddr t x i=>rw [kx ht (x:=x) (by simp [Op.operands]),kx ht (x:=i) (by simp [Op.operands])];exact h
 case index t x i=>rw [kx ht (x:=x) (by simp [Op.operands]),kx ht (x:=i) (by simp [Op.operands])];exact h
 case extract x i=>rw [kx ht (x:=x) (by simp [Op.operands])];exact h
 case call c=>
  have hargs:evs τ' c.args.toList=evs τ c.args.toList:=jb3 ht fun x hx=>by
   simp only [Op.operands,Call.operands]
   cases c.callee <;> simp <;> first | exact Or.inr (by simpa using hx) | simpa using hx
  have hcal:callee τ' c=callee τ c:=by
   unfold callee
   split
   ·rename_i f hf
    rw [hargs,kx ht (x:=f) (by simp [Op.operands,Call.operands,hf])]
   ·rfl
  unfold jhr at h ⊢
  rw [hcal]
  simp only [onL] at h ⊢
  rw [hargs]
  split at h
  ·split at h
   ·exact jb7 h hg
   ·cases h
  ·split at h
   ·exact jax h hg
   ·cases h
  ·split at h
   ·rename_i f args hc
    split at h
    ·rename_i s hs
     exact jiK h hg
    ·cases h
   ·cases h
theorem jgL {τ':Nat→LV} {all:List Oper} {o:Oper} {gd:Option Bool} (h:∀j w t,o.guard=some (j,w)→KX all j=some t→τ' t=τ t):Xs all τ' o gd=Xs all τ o gd:=by
 unfold Xs
 split
 ·rfl
 ·rename_i j want ho
  split
  ·rename_i t ht
   rw [h j want t ho ht]
  ·rfl
theorem jgM {τ':Nat→LV} {g':Nat→Option Blk} {z:Md} {all:List Oper} {r:Rec} (h:J8 P S z all τ g r.nb r.gd r.pd r.o=some (r.d,r.gcs))
  (ht:∀t∈r.rT all,τ' t=τ t) (hg:∀i∈r.d.rd++keys r.d.wr,g' i=g i):J8 P S z all τ' g' r.nb r.gd r.pd r.o=some (r.d,r.gcs):=by
 have hops:∀t∈qw r.o.op.operands.toList,τ' t=τ t:=by
  intro t htm
  refine ht t ?_
  unfold Rec.rT
  split
  ·split
   ·exact List.mem_cons_of_mem _ htm
   ·exact htm
  ·exact htm
 have hw:Xs all τ' r.o r.gd=Xs all τ r.o r.gd:=jgL fun j w t h1 h2=>ht t (by unfold Rec.rT;simp [h1,h2])
 unfold J8 at h ⊢
 rw [hw]
 cases hc:Xs all τ r.o r.gd with
 | none=>rw [hc] at h;cases h
 | some q=>
  obtain ⟨b,cs⟩:=q
  rw [hc] at h
  cases b with
  | false=>exact h
  | true=>
   simp only at h ⊢
   cases hd:opD P S z.z τ g r.nb r.pd r.o.op with
   | none=>rw [hd] at h;cases h
   | some d=>
    rw [hd] at h
    cases h
    rw [jlY hd hops hg]
end
end Go.Lr

/- The local evaluator: a region that draws its order. -/
namespace Go.Lr
open Go.RowKit
structure AS where
 τ:Nat→LV
 g:Nat→Option Blk
def Rec.go (r:Rec) (s:AS):AS:=⟨updτ s.τ r.o.dst r.d.val,nwG (wrG s.g r.d.wr) r.nb r.d.nw⟩
def fin:List Rec→AS→AS
 | [],s=>s
 | r::l,s=>fin l (r.go s)
section
variable {P:Program} {S:FuncId→Option SumK} {z:Md} {all:List Oper}
def Val (P:Program) (S:FuncId→Option SumK) (z:Md) (all:List Oper) (r:Rec) (s:AS):Prop:=
 J8 P S z all s.τ s.g r.nb r.gd r.pd r.o=some (r.d,r.gcs)
def jex (P:Program) (S:FuncId→Option SumK) (z:Md) (all:List Oper):List Rec→AS→Prop
 | [],_=>True
 | r::l,s=>Val P S z all r s∧jex P S z all l (r.go s)
theorem zl:∀{l m:List Nat},jaa l m=false→∀i∈l,i ∉ m
 | [],m,_=>by simp
 | a::l,m,h=>by
  simp only [jaa] at h
  cases hm:yH m a with
  | true=>rw [hm] at h;cases h
  | false=>
   rw [hm] at h
   intro i hi
   rcases List.mem_cons.1 hi with rfl | hi
   ·exact fun hh=>by rw [memB_iff.2 hh] at hm;cases hm
   ·exact zl h i hi
theorem Y8:∀(l:List Blk) (nb i:Nat),i∈news nb l↔nb≤i∧i<nb+l.length
 | [],nb,i=>by simp [news]
 | b::l,nb,i=>by
  simp only [news,List.mem_cons,Y8 l,List.length_cons]
  omega
structure Apart (all:List Oper) (x y:Rec):Prop where
 xy:∀d,x.o.dst=some d→d ∉ y.rT all
 yx:∀d,y.o.dst=some d→d ∉ x.rT all
 dd:∀d,x.o.dst=some d→y.o.dst≠some d
 bxy:∀i∈x.wB,i ∉ y.d.rd++y.wB
 byx:∀i∈y.wB,i ∉ x.d.rd++x.wB
theorem jey {x y:Rec} (h:jlK all x y=false):Apart all x y:=by
 simp only [jlK,Bool.or_eq_false_iff] at h
 obtain ⟨⟨⟨⟨h1,h2⟩,h3⟩,h4⟩,h5⟩:=h
 refine ⟨fun d hd hm=> ?_,fun d hd hm=> ?_,fun d hd he=> ?_,zl h4,zl h5⟩
 ·rw [hd] at h1;simp only [jdc] at h1;rw [memB_iff.2 hm] at h1;cases h1
 ·rw [hd] at h2;simp only [jdc] at h2;rw [memB_iff.2 hm] at h2;cases h2
 ·rw [hd,he] at h3;simp [jpH] at h3
theorem go_τ {r:Rec} {s:AS} {t:Nat} (h:∀d,r.o.dst=some d→d≠t):(r.go s).τ t=s.τ t:=by
 unfold Rec.go updτ
 cases hd:r.o.dst with
 | none=>rfl
 | some d=>simp [Ne.symm (h d hd)]
theorem qC {g:Nat→Option Blk}:∀(l:List Blk) (nb k:Nat),(k<nb∨nb+l.length≤k)→nwG g nb l k=g k
 | [],_,_,_=>rfl
 | b::l,nb,k,h=>by
  simp only [nwG]
  simp only [List.length_cons] at h
  rw [qC l (nb+1) k (by omega),if_neg (by omega)]
theorem jjY {r:Rec} {s:AS} {i:Nat} (h:i ∉ r.wB):(r.go s).g i=s.g i:=by
 unfold Rec.wB at h
 rw [List.mem_append,Y8,jb8] at h
 unfold Rec.go
 simp only
 rw [qC _ _ _ (by omega),qA]
 intro x hx e
 exact h (.inl (by rw [←e];exact List.mem_map_of_mem hx))
theorem Val.loc {r:Rec} {s s':AS} (h:Val P S z all r s) (ht:∀t∈r.rT all,s'.τ t=s.τ t) (hg:∀i∈r.d.rd++keys r.d.wr,s'.g i=s.g i):Val P S z all r s':=
 jgM h ht hg
theorem Apart.back {x y:Rec} (h:Apart all x y) {s:AS} (hv:Val P S z all y (x.go s)):Val P S z all y s:=by
 refine hv.loc (fun t ht=>(go_τ fun d hd e=>h.xy d hd (e ▸ ht)).symm) fun i hi=>(jjY fun hx=>h.bxy i hx ?_).symm
 rw [List.mem_append] at hi ⊢
 rcases hi with hi | hi
 ·exact .inl hi
 ·exact .inr (by unfold Rec.wB;rw [List.mem_append];exact .inl hi)
theorem Apart.fore {x y:Rec} (h:Apart all x y) {s:AS} (hv:Val P S z all x s):Val P S z all x (y.go s):=by
 refine hv.loc (fun t ht=>go_τ fun d hd e=>h.yx d hd (e ▸ ht)) fun i hi=>jjY fun hy=>h.byx i hy ?_
 rw [List.mem_append] at hi ⊢
 rcases hi with hi | hi
 ·exact .inl hi
 ·exact .inr (by unfold Rec.wB;rw [List.mem_append];exact .inl hi)
theorem JS {g g':Nat→Option Blk}:∀(l:List (Nat×Option Blk)) (k:Nat),(k∈l.map (·.1)∨g k=g' k)→wrG g l k=wrG g' l k
 | [],k,h=>by
  rcases h with h | h
  ·simp at h
  ·exact h
 | (i,s)::l,k,h=>by
  simp only [wrG]
  refine JS l k ?_
  simp only [List.map_cons,List.mem_cons] at h
  by_cases hk:k=i
  ·exact .inr (by simp [hk])
  ·rcases h with (h | h) | h
   ·exact absurd h hk
   ·exact .inl h
   ·exact .inr (by simp [hk,h])
theorem Xb {g g':Nat→Option Blk}:∀(l:List Blk) (nb k:Nat),((nb≤k∧k<nb+l.length)∨g k=g' k)→nwG g nb l k=nwG g' nb l k
 | [],nb,k,h=>by
  rcases h with h | h
  ·simp at h;omega
  ·exact h
 | b::l,nb,k,h=>by
  simp only [nwG]
  refine Xb l (nb+1) k ?_
  simp only [List.length_cons] at h
  by_cases hk:k=nb
  ·exact .inr (by simp [hk])
  ·rcases h with h | h
   ·exact .inl (by omega)
   ·exact .inr (by simp [hk,h])
theorem jjZ {r:Rec} {s s':AS} {i:Nat} (h:i∈r.wB):(r.go s).g i=(r.go s').g i:=by
 unfold Rec.wB at h
 rw [List.mem_append,Y8,jb8] at h
 unfold Rec.go
 simp only
 rcases h with h | h
 ·exact Xb _ _ _ (.inr (JS _ _ (.inl h)))
 ·exact Xb _ _ _ (.inl h)
theorem Apart.comm {x y:Rec} (h:Apart all x y) (s:AS):x.go (y.go s)=y.go (x.go s):=by
 have hτ:(x.go (y.go s)).τ=(y.go (x.go s)).τ:=by
  funext t
  unfold Rec.go updτ
  cases hx:x.o.dst with
  | none=>cases hy:y.o.dst <;> rfl
  | some d=>
   cases hy:y.o.dst with
   | none=>rfl
   | some e=>
    have hne:d≠e:=fun he=>h.dd d hx (by rw [hy,he])
    simp only
    by_cases h1:t=d
    ·by_cases h2:t=e
     ·exact absurd (h1.symm.trans h2) hne
     ·simp [h1,hne]
    ·by_cases h2:t=e
     ·simp [h2,Ne.symm hne]
     ·simp [h1,h2]
 have hg:(x.go (y.go s)).g=(y.go (x.go s)).g:=by
  funext i
  by_cases hx:i∈x.wB
  ·have hy:i ∉ y.wB:=fun hy=>h.byx i hy (by rw [List.mem_append];exact .inr hx)
   rw [jjY hy,jjZ (s':=s) hx]
  ·by_cases hy:i∈y.wB
   ·rw [jjY hx,jjZ (s':=x.go s) hy]
   ·rw [jjY hx,jjY hy,jjY hy,jjY hx]
 cases h1:x.go (y.go s)
 cases h2:y.go (x.go s)
 rw [h1,h2] at hτ hg
 simp only at hτ hg
 rw [hτ,hg]
theorem Xc {r:Rec} {B:List Rec}:∀{A:List Rec} {s:AS},jex P S z all (A++r::B) s→(∀x∈A,Apart all x r)→
  Val P S z all r s∧jex P S z all (A++B) (r.go s)∧fin (A++r::B) s=fin (A++B) (r.go s)
 | [],s,h,_=>⟨h.1,h.2,rfl⟩
 | x::A,s,h,ha=>by
  obtain ⟨h1,h2⟩:=h
  obtain ⟨g1,g2,g3⟩:=Xc h2 fun y hy=>ha y (by simp [hy])
  have hx:=ha x (by simp)
  refine ⟨hx.back g1,⟨hx.fore h1, ?_⟩, ?_⟩
  ·show jex P S z all (A++B) (x.go (r.go s))
   rw [hx.comm s]
   exact g2
  ·show fin (A++r::B) (x.go s)=fin (A++B) (x.go (r.go s))
   rw [g3,hx.comm s]
end
end Go.Lr

/- The local evaluator: a region that draws its order, whatever the order. -/
namespace Go.Lr
open Go.RowKit
structure StOK (s:St):Prop where
 okT:∀t,(getT s.tm t).ok (below s.nb)=true
 okM:∀i b,getM s.mem i=some b→i<s.nb∧okL (below s.nb) b.cells=true
 uq:uniq s.mem
theorem StOK.okM' {s:St} (h:StOK s):∀i c,getM s.mem i=some c→below s.nb i=true∧okL (below s.nb) c.cells=true:=
 fun i c hc=>⟨by have:=(h.okM i c hc).1;simpa [below] using this,(h.okM i c hc).2⟩
theorem StOK.free {s:St} (h:StOK s) {i:Nat} (hi:s.nb≤i):getM s.mem i=none:=by
 cases hc:getM s.mem i with
 | none=>rfl
 | some b=>have:=(h.okM i b hc).1;omega
theorem StOK.get {s:St} (h:StOK s) {d:Dl} (hd:OkD (below s.nb) (getM s.mem) s.nb d):getM (qX (qW s.mem d.wr) s.nb d.nw)=nwG (wrG (getM s.mem) d.wr) s.nb d.nw:=by
 funext k
 rw [Jk]
 congr 1
 funext j
 exact xB d.wr s.mem h.uq hd.live hd.nd j
theorem StOK.app {s s1:St} (h:StOK s) {d:Dl} {dst:Option Tmp} (hd:OkD (below s.nb) (getM s.mem) s.nb d) (h1:s1.nb=s.nb+d.nw.length) (h2:s1.mem=qX (qW s.mem d.wr) s.nb d.nw)
  (h3:getT s1.tm=updτ (getT s.tm) dst d.val):StOK s1:=by
 have hmono:∀i,below s.nb i=true→below s1.nb i=true:=fun i hi=>by simp only [below,decide_eq_true_eq] at hi ⊢;omega
 have hpn:∀i,pn (below s.nb) s.nb d.nw.length i=true→below s1.nb i=true:=fun i hi=>by rw [h1];exact Qc hi
 refine ⟨fun t=> ?_,fun i b hb=> ?_, ?_⟩
 ·rw [h3]
  unfold updτ
  cases dst with
  | none=>exact LV.ok_mono hmono (h.okT t)
  | some e=>
   by_cases ht:t=e
   ·simp only [ht,if_true];exact LV.ok_mono hpn hd.val
   ·simp only [ht,if_false];exact LV.ok_mono hmono (h.okT t)
 ·rw [h2,h.get hd] at hb
  rcases Q7 _ _ _ _ hb with hb | ⟨g1,g2,g3⟩
  ·rcases Q6 _ _ _ hb with hb | ⟨x,hx,e1,e2⟩
   ·exact ⟨by have:=(h.okM i b hb).1;omega,jn hmono (h.okM i b hb).2⟩
   ·obtain ⟨c,hc⟩:=Option.isSome_iff_exists.1 (hd.live x hx)
    rw [e1] at hc
    exact ⟨by have:=(h.okM i c hc).1;omega,jn hpn (hd.wr x hx b e2)⟩
  ·exact ⟨by omega,jn hpn (okBs_iff.1 hd.nw b g3)⟩
 ·rw [h2]
  refine Jl _ _ _ (Jj _ _ h.uq) fun i hi=> ?_
  rw [xB d.wr s.mem h.uq hd.live hd.nd i,qA]
  ·exact h.free hi
  ·intro x hx e
   have:=hd.live x hx
   rw [e,h.free hi] at this
   cases this
section
variable {P:Program} {S:FuncId→Option SumK} {z:Md} {all:List Oper}
def St.as (s:St):AS:=⟨getT s.tm,getM s.mem⟩
def JF:Nat→List Rec→Nat→Prop
 | n,[],m=>n≤m
 | n,r::l,m=>n≤r.nb∧JF (r.nb+r.d.nw.length) l m
theorem xG:∀{l:List Oper} {s:St} {acc:List Rec} {s':St} {acc':List Rec},yr P S z all l s acc=some (s',acc')→s.sz≤60000→StOK s→
  ∃recs:List Rec,acc'=recs.reverse++acc∧recs.map (·.o)=l∧jex P S z all recs s.as∧fin recs s.as=s'.as∧JF s.nb recs s'.nb∧
   (∀r∈recs,∀d,r.o.dst=some d→d<s.sz)∧s'.sz=s.sz∧StOK s'∧(Good s'→Good s∧∀r∈recs,(∀c∈r.d.cs,c.1=c.2)∧(∀c∈r.gcs,c.1=c.2))
 | [],s,acc,s',acc',h,_,hs=>by
  simp only [yr] at h
  cases h
  exact ⟨[],by simp,rfl,trivial,rfl,Nat.le_refl _,by simp,rfl,hs,fun hg=>⟨hg,by simp⟩⟩
 | o::l,s,acc,s',acc',h,hsz,hs=>by
  simp only [yr] at h
  generalize jra z o s.dec=q at h
  obtain ⟨gd,pd,dec⟩:=q
  simp only at h
  split at h
  ·rename_i d cs hd
   obtain ⟨s1,h1,h2,h3,h4,h5,h6,h7,_⟩:=jaw (a:={ tmps:=Array.replicate s.sz undef,defers:=[] }) (by simp) hsz h
   have hok:=Y6 (fun t=>hs.okT t) hs.okM' hd
   have hs1:StOK s1:=hs.app hok h5 h6 h7.1
   have has:s1.as=(Rec.mk o gd pd s.nb cs d).go s.as:=by
    unfold St.as Rec.go
    simp only [h6,h7.1,hs.get hok]
   obtain ⟨recs,e1,e2,e3,e4,e5,e6,e7,e8,e9⟩:=xG h1 (by rw [h4];exact hsz) hs1
   refine ⟨⟨o,gd,pd,s.nb,cs,d⟩::recs,by rw [e1];simp,by simp [e2],⟨hd,by rw [←has];exact e3⟩,by rw [←e4,has];rfl,⟨Nat.le_refl _,by rw [←h5];exact e5⟩, ?_,e7.trans h4,e8,fun hg=> ?_⟩
   ·intro r hr d' hd'
    rcases List.mem_cons.1 hr with rfl | hr
    ·exact h7.2 d' hd'
    ·have:=e6 r hr d' hd';rw [h4] at this;exact this
   ·obtain ⟨g1,g2⟩:=e9 hg
    obtain ⟨c1,c2,c3⟩:=h2 g1
    refine ⟨c3,fun r hr=> ?_⟩
    rcases List.mem_cons.1 hr with rfl | hr
    ·exact ⟨c1,c2⟩
    ·exact g2 r hr
  ·cases h
theorem YV:∀(l acc:List Rec),jjS l acc=l.reverse++acc
 | [],_=>rfl
 | r::l,acc=>by simp [jjS,YV l]
theorem z7 {m:List Nat}:∀{l:List Edge} {x:Nat},(xu m l).testBit x=true→∃e∈l,Region.binds .any e=true∧(e.on=x∨(m.getD e.on 0).testBit x=true)
 | [],x,h=>by simp [xu] at h
 | e::l,x,h=>by
  simp only [xu] at h
  split at h
  ·rename_i hb
   simp only [Nat.testBit_or,Bool.or_eq_true,Nat.one_shiftLeft,Nat.testBit_two_pow,decide_eq_true_eq] at h
   rcases h with (h | h) | h
   ·exact ⟨e,by simp,hb,.inl h⟩
   ·exact ⟨e,by simp,hb,.inr h⟩
   ·obtain ⟨e',h1,h2,h3⟩:=z7 h
    exact ⟨e',by simp [h1],h2,h3⟩
  ·obtain ⟨e',h1,h2,h3⟩:=z7 h
   exact ⟨e',by simp [h1],h2,h3⟩
theorem QO:∀(l:List Oper) (acc:List Nat),∃m,kv l acc=acc++m∧m.length=l.length
 | [],acc=>⟨[],by simp [kv],rfl⟩
 | o::l,acc=>by
  obtain ⟨m,h1,h2⟩:=QO l (acc++[xu acc o.after.toList])
  exact ⟨xu acc o.after.toList::m,by simp [kv,h1],by simp [h2]⟩
theorem XW:∀(l:List Oper) (acc:List Nat) (j:Nat) (o:Oper),l[j]? = some o→(kv l acc).getD (acc.length+j) 0=xu ((kv l acc).take (acc.length+j)) o.after.toList
 | [],acc,j,o,h=>by simp at h
 | o'::l,acc,0,o,h=>by
  simp only [List.getElem?_cons_zero,Option.some.injEq] at h
  subst h
  obtain ⟨m,h1,_⟩:=QO l (acc++[xu acc o'.after.toList])
  simp only [kv,h1]
  simp
 | o'::l,acc,j+1,o,h=>by
  have:=XW l (acc++[xu acc o'.after.toList]) j o (by simpa using h)
  simp only [kv]
  simp only [List.length_append,List.length_cons,List.length_nil] at this
  rw [show acc.length+(j+1)=acc.length+(0+1)+j by omega]
  exact this
theorem xS:∀{l:List Edge} {j:Nat},zb j l=true→∀e∈l,Region.binds .any e=true→e.on<j
 | [],j,_=>by simp
 | e::l,j,h=>by
  simp only [zb] at h
  intro e' he' hb
  rcases List.mem_cons.1 he' with rfl | he'
  ·rw [hb] at h
   simp only [zT] at h
   split at h
   ·rename_i hh;simpa using hh
   ·cases h
  ·split at h
   ·split at h
    ·exact xS h e' he' hb
    ·cases h
   ·exact xS h e' he' hb
theorem qm:∀{l:List Oper} {j:Nat},xv j l=true→∀k o,l[k]? = some o→∀e∈o.after.toList,Region.binds .any e=true→e.on<j+k
 | [],j,_,k,o,h=>by simp at h
 | o'::l,j,h,k,o,hk=>by
  simp only [xv] at h
  split at h
  ·rename_i hh
   cases k with
   | zero=>
    simp only [List.getElem?_cons_zero,Option.some.injEq] at hk
    subst hk
    exact xS hh
   | succ k=>
    intro e he hb
    have:=qm h k o (by simpa using hk) e he hb
    omega
  ·cases h
theorem z8 {ops:List Oper} (hd:xv 0 ops=true) (L:Nat→Prop) (hL:∀k o,ops[k]? = some o→L k→∀e∈o.after.toList,Region.binds .any e=true→L e.on):
  ∀(j:Nat) (o:Oper),ops[j]? = some o→(∀e∈o.after.toList,Region.binds .any e=true→L e.on)→∀x,((kv ops []).getD j 0).testBit x=true→L x:=by
 intro j
 induction j using Nat.strongRecOn with
 | _ j ih=>
  intro o ho hready x hx
  have hm:=XW ops [] j o ho
  simp only [List.length_nil,Nat.zero_add] at hm
  rw [hm] at hx
  obtain ⟨e,he,hb,hor⟩:=z7 hx
  have hlt:e.on<j:=by have:=qm hd j o ho e he hb;omega
  rcases hor with h | h
  ·rw [←h];exact hready e he hb
  ·have hget:((kv ops []).take j).getD e.on 0=(kv ops []).getD e.on 0:=by
    simp [List.getD,List.getElem?_take_of_lt hlt]
   rw [hget] at h
   have hjl:j<ops.length:=(List.getElem?_eq_some_iff.1 ho).1
   have he':ops[e.on]? = some ops[e.on]:=List.getElem?_eq_getElem (by omega)
   exact ih e.on hlt _ he' (hL e.on _ he' (hready e he hb)) x h
theorem QP {mask:Nat} {y:Rec}:∀{l:List Rec} {i:Nat},XS all mask y i l=true→∀k x,l[k]? = some x→jlK all x y=true→mask.testBit (i+k)=true
 | [],i,_,k,x,h=>by simp at h
 | x'::l,i,h,k,x,hk=>by
  intro hc
  simp only [XS] at h
  cases k with
  | zero=>
   simp only [List.getElem?_cons_zero,Option.some.injEq] at hk
   subst hk
   split at h
   ·rename_i hh;simpa using hh
   ·rw [hc] at h;cases h
  | succ k=>
   have hrest:XS all mask y (i+1) l=true:=by
    split at h
    ·exact h
    ·split at h
     ·cases h
     ·exact h
   have:=QP hrest k x (by simpa using hk) hc
   rw [show i+(k+1)=i+1+k by omega]
   exact this
theorem xH {masks:List Nat}:∀{l:List Rec} {j:Nat} {done:List Rec},QK all masks j done l=true→done.length=j→
  ∀k y,l[k]? = some y→∀i x,i<j+k→(done++l)[i]? = some x→jlK all x y=true→(masks.getD (j+k) 0).testBit i=true
 | [],j,done,_,_,k,y,h=>by simp at h
 | y'::l,j,done,h,hj,k,y,hk=>by
  intro i x hi hx hc
  simp only [QK] at h
  split at h
  ·rename_i hh
   cases k with
   | zero=>
    simp only [List.getElem?_cons_zero,Option.some.injEq] at hk
    subst hk
    rw [List.getElem?_append_left (by omega)] at hx
    have:=QP hh i x hx hc
    simpa using this
   | succ k=>
    have:=xH h (by simp [hj]) k y (by simpa using hk) i x (by omega) (by simpa using hx) hc
    rw [show j+(k+1)=j+1+k by omega]
    exact this
  ·cases h
end
end Go.Lr

/- The local evaluator: a region that draws its order, against the model. -/
namespace Go.Lr
open Go.RowKit
structure RA (sz:Nat) (E:Env) (p:Nat→Bool) (s:AS) (a:Act) (w:World):Prop where
 size:a.tmps.size=sz
 tm:∀t:Nat,a.tmps.getD t undef=(s.τ t).den E
 defers:a.defers=[]
 okT:∀t,(s.τ t).ok p=true
 rel:Rel E s.g w
 okM:∀i c,s.g i=some c→p i=true∧okL p c.cells=true
structure ExtG (N:Nat) (w:World) (E:Env) (g:Nat→Option Blk) (w':World) (E':Env) (g':Nat→Option Blk):Prop where
 agree:∀i,i<N→E' i=E i
 os:w'.os=w.os
 tape:w'.tape=w.tape
 output:w'.output=w.output
 size:w.heap.size≤w'.heap.size
 frame:∀b,b<w.heap.size→(∀i,(g i).isSome→(E i).1≠b)→w'.heap[b]? = w.heap[b]?
 src:∀i,(g' i).isSome→w.heap.size≤(E' i).1∨∃j,(g j).isSome∧(E' i).1=(E j).1
theorem ExtG.refl (N:Nat) (w:World) (E:Env) (g:Nat→Option Blk):ExtG N w E g w E g:=
 ⟨fun _ _=>rfl,rfl,rfl,rfl,Nat.le_refl _,fun _ _ _=>rfl,fun i hi=> .inr ⟨i,hi,rfl⟩⟩
theorem ExtG.trans {N:Nat} {w w1 w2:World} {E E1 E2:Env} {g g1 g2:Nat→Option Blk} (h:ExtG N w E g w1 E1 g1) (k:ExtG N w1 E1 g1 w2 E2 g2):ExtG N w E g w2 E2 g2:=by
 refine ⟨fun i hi=>(k.agree i hi).trans (h.agree i hi),k.os.trans h.os,k.tape.trans h.tape,k.output.trans h.output,Nat.le_trans h.size k.size,fun b hb hn=> ?_,fun i hi=> ?_⟩
 ·rw [←h.frame b hb hn]
  refine k.frame b (Nat.lt_of_lt_of_le hb h.size) fun i hi he=> ?_
  rcases h.src i hi with h1 | ⟨j,hj,h1⟩
  ·omega
  ·exact hn j hj (h1.symm.trans he)
 ·rcases k.src i hi with h1 | ⟨j,hj,h1⟩
  ·exact .inl (Nat.le_trans h.size h1)
  ·rcases h.src j hj with h2 | ⟨q,hq,h2⟩
   ·exact .inl (by omega)
   ·exact .inr ⟨q,hq,h1.trans h2⟩
section
variable {P:Program} {S:FuncId→Option SumK} {z:Md} {ops:Array Oper}
theorem jlM (hB:Q8 P) (hS:AllOK P S) {N sz i:Nat} {E:Env} {p:Nat→Bool} {s:AS} {a:Act} {w:World} {r:Rec} (hi:ops[i]? = some r.o) (hra:RA sz E p s a w) (hv:Val P S z ops.toList r s)
  (hN:N≤r.nb) (hfree:∀i,r.nb≤i→i<r.nb+r.d.nw.length→p i=false) (hdst:∀d,r.o.dst=some d→d<sz) (hc:∀c∈r.d.cs,c.1=c.2) (hc':∀c∈r.gcs,c.1=c.2)
  {K:Act→World→Prop} {Q:Exit→Act→World→Prop}
  (hk:∀E' a' w',RA sz E' (pn p r.nb r.d.nw.length) (r.go s) a' w'→ExtG N w E s.g w' E' (r.go s).g→K a' w'):wpOp P ops Q i K a w:=by
 have hok:OkD p s.g r.nb r.d:=Y6 hra.okT hra.okM hv
 refine jds hB hS hi hra.tm hra.okT hra.rel hra.okM hfree hv hc hc' fun E' w' hp=> ?_
 have hag:∀i,p i=true→E' i=E i:=by
  intro j hj
  refine hp.agree j ?_
  by_cases h:r.nb≤j∧j<r.nb+r.d.nw.length
  ·rw [hfree j h.1 h.2] at hj;cases hj
  ·omega
 refine hk E' _ w' ⟨?_,fun t=> ?_, ?_,fun t=> ?_,hp.rel,fun j c hj=> ?_⟩ ⟨fun j hj=>hp.agree j (.inl (by omega)),hp.os,hp.tape,hp.output,hp.size,hp.frame,fun j hj=> ?_⟩
 ·cases hd:r.o.dst <;> simp [Act.put,hra.size]
 ·unfold Rec.go updτ
  cases hd:r.o.dst with
  | none=>
   simp only [Act.put]
   rw [hra.tm t,LV.den_congr hag (hra.okT t)]
  | some d=>
   simp only [Act.put]
   rw [JQ a.tmps d t _ (by rw [hra.size];exact hdst d hd)]
   by_cases ht:t=d
   ·simp [ht]
   ·rw [if_neg ht,if_neg ht,hra.tm t,LV.den_congr hag (hra.okT t)]
 ·cases hd:r.o.dst <;> exact hra.defers
 ·unfold Rec.go updτ
  cases hd:r.o.dst with
  | none=>exact LV.ok_mono (fun _ h=>xf h) (hra.okT t)
  | some d=>
   by_cases ht:t=d
   ·simp only [ht,if_true];exact hok.val
   ·simp only [ht,if_false];exact LV.ok_mono (fun _ h=>xf h) (hra.okT t)
 ·have hj':nwG (wrG s.g r.d.wr) r.nb r.d.nw j=some c:=hj
  rcases Q7 _ _ _ _ hj' with h | ⟨g1,g2,g3⟩
  ·rcases Q6 _ _ _ h with h | ⟨x,hx,e1,e2⟩
   ·exact ⟨xf (hra.okM j c h).1,jn (fun _ h=>xf h) (hra.okM j c h).2⟩
   ·obtain ⟨c',hc''⟩:=Option.isSome_iff_exists.1 (hok.live x hx)
    rw [e1] at hc''
    exact ⟨xf (hra.okM j c' hc'').1,hok.wr x hx c e2⟩
  ·exact ⟨by simp [pn,g1,g2],okBs_iff.1 hok.nw c g3⟩
 ·obtain ⟨c,hjc⟩:=Option.isSome_iff_exists.1 hj
  have hj':nwG (wrG s.g r.d.wr) r.nb r.d.nw j=some c:=hjc
  rcases Q7 _ _ _ _ hj' with h | ⟨g1,g2,_⟩
  ·have hlive:(s.g j).isSome:=by
    rcases Q6 _ _ _ h with h | ⟨x,hx,e1,_⟩
    ·simp [h]
    ·rw [←e1];exact hok.live x hx
   obtain ⟨c',hc''⟩:=Option.isSome_iff_exists.1 hlive
   exact .inr ⟨j,hlive,by rw [hag j (hra.okM j c' hc'').1]⟩
  ·exact hp.fresh j g1 g2
structure Todo (recs:List Rec) (listed:Array Bool) (rem:List (Nat×Rec)):Prop where
 mem:∀(i:Nat) (r:Rec),(i,r)∈rem↔recs[i]? = some r∧listed.getD i true=false
 sorted:rem.Pairwise fun x y=>x.1<y.1
theorem kM:∀{l:List Rec} {n m:Nat},JF n l m→n≤m
 | [],n,m,h=>h
 | r::l,n,m,h=>by have:=kM h.2;have:=h.1;omega
theorem xw:∀{l:List Rec} {n m:Nat},JF n l m→∀(i:Nat) (r:Rec),l[i]? = some r→n≤r.nb∧r.nb+r.d.nw.length≤m
 | [],n,m,_,i,r,h=>by simp at h
 | r'::l,n,m,h,i,r,hi=>by
  cases i with
  | zero=>
   simp only [List.getElem?_cons_zero,Option.some.injEq] at hi
   subst hi
   exact ⟨h.1,kM h.2⟩
  | succ i=>
   obtain ⟨h1,h2⟩:=xw h.2 i r (by simpa using hi)
   exact ⟨by have:=h.1;omega,h2⟩
theorem ze:∀{l:List Rec} {n m:Nat},JF n l m→∀(i j:Nat) (x y:Rec),i<j→l[i]? = some x→l[j]? = some y→x.nb+x.d.nw.length≤y.nb
 | [],n,m,_,i,j,x,y,_=>fun h=>by simp at h
 | r'::l,n,m,h,i,j,x,y,hij=>by
  intro hi hj
  cases j with
  | zero=>omega
  | succ j=>
   cases i with
   | zero=>
    simp only [List.getElem?_cons_zero,Option.some.injEq] at hi
    subst hi
    exact (xw h.2 j y (by simpa using hj)).1
   | succ i=>exact ze h.2 i j x y (by omega) (by simpa using hi) (by simpa using hj)
theorem jip {rem:List (Nat×Rec)} {i:Nat} {r:Rec} (h:(i,r)∈rem):∃A B,rem=A++(i,r)::B:=List.append_of_mem h
theorem QQ (hB:Q8 P) (hS:AllOK P S) {N sz M:Nat} {recs:List Rec} (hrec:recs.map (·.o)=ops.toList) (hdown:xv 0 ops.toList=true)
  (hconf:∀(i j:Nat) (x y:Rec),i<j→recs[i]? = some x→recs[j]? = some y→jlK ops.toList x y=true→((kv ops.toList []).getD j 0).testBit i=true)
  (hrng:JF N recs M) (hdst:∀r∈recs,∀d,r.o.dst=some d→d<sz) (hcs:∀r∈recs,(∀c∈r.d.cs,c.1=c.2)∧(∀c∈r.gcs,c.1=c.2)) {Q:Exit→Act→World→Prop}:
  ∀(fuel:Nat) (rem:List (Nat×Rec)) (listed:Array Bool) (s:AS) (E:Env) (p:Nat→Bool) (a:Act) (w:World),rem.length=fuel→listed.size=ops.size→Todo recs listed rem→
   (∀k o,ops[k]? = some o→listed.getD k true=true→∀e∈o.after.toList,Region.binds .any e=true→listed.getD e.on false=true)→
   jex P S z ops.toList (rem.map (·.2)) s→RA sz E p s a w→(∀i,p i=true→i<M)→(∀i,p i=true→∀x∈rem,¬(x.2.nb≤i∧i<x.2.nb+x.2.d.nw.length))→
   (∀E' p' a' w',RA sz E' p' (fin (rem.map (·.2)) s) a' w'→(∀i,p' i=true→i<M)→ExtG N w E s.g w' E' (fin (rem.map (·.2)) s).g→Q .normal a' w')→
   wpAny P .any ops Q fuel listed a w:=by
 have hopsrec:∀(i:Nat) (r:Rec),recs[i]? = some r→ops[i]? = some r.o:=by
  intro i r h
  have:(recs.map (·.o))[i]? = some r.o:=by simp [h]
  rw [hrec] at this
  simpa using this
 have hlen:recs.length=ops.size:=by have:=congrArg List.length hrec;simpa using this
 have hready0:∀(rem:List (Nat×Rec)) (listed:Array Bool),listed.size=ops.size→Todo recs listed rem→Region.ready .any ops listed=[]→rem=[]:=by
  intro rem listed hls ht hr
  cases rem with
  | nil=>rfl
  | cons x rem=>
   exfalso
   obtain ⟨i,r⟩:=x
   obtain ⟨h1,h2⟩:=(ht.mem i r).1 (by simp)
   have hops:=hopsrec i r h1
   have hi:i<ops.size:=(Array.getElem?_eq_some_iff.1 hops).1
   have hmem:i∈Region.ready .any ops listed:=by
    unfold Region.ready
    simp only [List.mem_filter,List.mem_range,hi,true_and,h2,Bool.not_false,hops,Option.map_some,Option.getD_some,Bool.true_and]
    rw [Array.all_eq_true]
    intro k hk
    by_cases hb:Region.binds .any r.o.after[k]=true
    ·have hlt:=qm hdown i r.o (by simpa using hops) r.o.after[k] (by simp) hb
     simp only [Nat.zero_add] at hlt
     have hlst:listed.getD r.o.after[k].on false=true:=by
      have hsz:r.o.after[k].on<listed.size:=by omega
      cases hh:listed.getD r.o.after[k].on true with
      | true=>
       have e1:listed.getD r.o.after[k].on false=listed.getD r.o.after[k].on true:=by simp [hsz]
       rw [e1];exact hh
      | false=>
       exfalso
       have hql:r.o.after[k].on<recs.length:=by omega
       obtain ⟨q,hq⟩:∃q,recs[r.o.after[k].on]? = some q:=⟨_,List.getElem?_eq_getElem hql⟩
       have:=(ht.mem _ q).2 ⟨hq,hh⟩
       rcases List.mem_cons.1 this with he | he
       ·injection he with e1 _;omega
       ·have:=List.rel_of_pairwise_cons ht.sorted he
        simp only at this
        omega
     simp [hlst]
    ·simp [hb]
   rw [hr] at hmem
   cases hmem
 intro fuel
 induction fuel with
 | zero=>
  intro rem listed s E p a w hf hls ht hcl hch hra hpM hpf hQ
  have hrem:rem=[]:=List.length_eq_zero_iff.1 hf
  subst hrem
  refine ⟨?_,hQ E p a w hra hpM (.refl _ _ _ _)⟩
  cases hr:Region.ready .any ops listed with
  | nil=>rfl
  | cons i l=>
   exfalso
   have hi:i∈Region.ready .any ops listed:=by rw [hr];simp
   unfold Region.ready at hi
   simp only [List.mem_filter,List.mem_range,Bool.and_eq_true,Bool.not_eq_true'] at hi
   have hql:i<recs.length:=by omega
   obtain ⟨q,hq⟩:∃q,recs[i]? = some q:=⟨_,List.getElem?_eq_getElem hql⟩
   have:=(ht.mem i q).2 ⟨hq,hi.2.1⟩
   cases this
 | succ fuel ih=>
  intro rem listed s E p a w hf hls ht hcl hch hra hpM hpf hQ
  refine ⟨fun hr=> ?_,fun i hi=> ?_⟩
  ·have:=hready0 rem listed hls ht hr
   rw [this] at hf
   simp at hf
  ·unfold Region.ready at hi
   simp only [List.mem_filter,List.mem_range,Bool.and_eq_true,Bool.not_eq_true'] at hi
   obtain ⟨hilt,hnl,haft⟩:=hi
   have hql:i<recs.length:=by omega
   obtain ⟨r,hr⟩:∃q,recs[i]? = some q:=⟨_,List.getElem?_eq_getElem hql⟩
   have hops:=hopsrec i r hr
   have hin:(i,r)∈rem:=(ht.mem i r).2 ⟨hr,hnl⟩
   have hedges:∀e∈r.o.after.toList,Region.binds .any e=true→listed.getD e.on false=true:=by
    intro e he hb
    rw [hops] at haft
    simp only [Option.map_some,Option.getD_some] at haft
    rw [Array.all_eq_true'] at haft
    have:=haft e (by simpa using he)
    simpa [hb] using this
   obtain ⟨A,B,rfl⟩:=jip hin
   have hsorted:=ht.sorted
   rw [List.pairwise_append] at hsorted
   obtain ⟨_,hsB,hAB⟩:=hsorted
   have hapart:∀x∈A.map (·.2),Apart ops.toList x r:=by
    intro x hx
    obtain ⟨⟨k,x'⟩,hk,rfl⟩:=List.mem_map.1 hx
    obtain ⟨g1,g2⟩:=(ht.mem k x').1 (by simp [hk])
    have hki:k<i:=hAB (k,x') hk (i,r) (by simp)
    refine jey ?_
    cases hc:jlK ops.toList x' r with
    | false=>rfl
    | true=>
     exfalso
     have hbit:=hconf k i x' r hki g1 hr hc
     have:=z8 hdown (fun q=>listed.getD q true=true) (fun q o hq hl e he hb=>by
      have hx:=hcl q o (by simpa using hq) hl e he hb
      have hsz:e.on<listed.size:=by
       by_cases hh:e.on<listed.size
       ·exact hh
       ·simp [Array.getD,hh] at hx
      simpa [hsz] using hx) i r.o (by simpa using hops) (fun e he hb=>by
      have hx:=hedges e he hb
      have hsz:e.on<listed.size:=by
       by_cases hh:e.on<listed.size
       ·exact hh
       ·simp [Array.getD,hh] at hx
      simpa [hsz] using hx) k hbit
     rw [g2] at this
     cases this
   rw [List.map_append,List.map_cons] at hch hQ
   obtain ⟨c1,c2,c3⟩:=Xc hch hapart
   have hrin:r∈recs:=List.mem_of_getElem? hr
   refine jlM hB hS (N:=N) hops hra c1 (xw hrng i r hr).1 (fun j h1 h2=> ?_) (hdst r hrin) (hcs r hrin).1 (hcs r hrin).2 fun E' a' w' hra' hext=> ?_
   ·cases hpj:p j with
    | false=>rfl
    | true=>exact absurd ⟨h1,h2⟩ (hpf j hpj (i,r) (by simp))
   ·have hsz':(listed.setIfInBounds i true).size=ops.size:=by simp [hls]
    have hget:∀q d,(listed.setIfInBounds i true).getD q d=if q=i then true else listed.getD q d:=by
     intro q d
     by_cases hq:q=i
     ·subst hq
      have:q<listed.size:=by omega
      simp [this]
     ·rw [if_neg hq]
      simp [Array.getElem?_setIfInBounds_ne (Ne.symm hq)]
    refine ih (A++B) (listed.setIfInBounds i true) (r.go s) E' _ a' w' (by simp at hf ⊢;omega) hsz' ⟨fun j x=> ?_, ?_⟩ (fun k o hk hl e he hb=> ?_) (by rw [List.map_append];exact c2) hra' (fun j hj=> ?_) (fun j hj x hx=> ?_) ?_
    ·rw [hget j true]
     have hm:=ht.mem j x
     by_cases hji:j=i
     ·subst hji
      rw [if_pos rfl]
      refine ⟨fun h=> ?_,fun h=>absurd h.2 (by simp)⟩
      exfalso
      rcases List.mem_append.1 h with h | h
      ·have:=hAB (j,x) h (j,r) (by simp)
       simp at this
      ·have:=List.rel_of_pairwise_cons hsB h
       simp at this
     ·rw [if_neg hji,←hm]
      constructor
      ·intro h
       rcases List.mem_append.1 h with h | h
       ·simp [h]
       ·simp [h]
      ·intro h
       rcases List.mem_append.1 h with h | h
       ·simp [h]
       ·rcases List.mem_cons.1 h with h | h
        ·injection h with e1 _;exact absurd e1 hji
        ·simp [h]
    ·refine ht.sorted.sublist ?_
     exact List.Sublist.append_left (List.sublist_cons_self _ _) A
    ·rw [hget] at hl ⊢
     by_cases hki:k=i
     ·subst hki
      rw [hops] at hk
      cases hk
      have:=hedges e he hb
      by_cases he':e.on=k <;> simp [he',this]
     ·rw [if_neg hki] at hl
      have:=hcl k o hk hl e he hb
      by_cases he':e.on=i <;> simp [he',this]
    ·simp only [pn,Bool.or_eq_true,Bool.and_eq_true,decide_eq_true_eq] at hj
     rcases hj with hj | hj
     ·exact hpM j hj
     ·have:=(xw hrng i r hr).2;omega
    ·simp only [pn,Bool.or_eq_true,Bool.and_eq_true,decide_eq_true_eq] at hj
     have hxin:x∈A++(i,r)::B:=by
      rcases List.mem_append.1 hx with h | h
      ·simp [h]
      ·simp [h]
     rcases hj with hj | hj
     ·exact hpf j hj x hxin
     ·intro hcon
      obtain ⟨k,y⟩:=x
      obtain ⟨g1,_⟩:=(ht.mem k y).1 hxin
      have hne:k≠i:=by
       rintro rfl
       rcases List.mem_append.1 hx with h | h
       ·have:=hAB (k,y) h (k,r) (by simp);simp at this
       ·have:=List.rel_of_pairwise_cons hsB h;simp at this
      rcases Nat.lt_or_gt_of_ne hne with hlt | hlt
      ·have:=ze hrng k i y r hlt g1 hr;simp only at hcon;omega
      ·have:=ze hrng i k r y hlt hr g1;simp only at hcon;omega
    ·intro E'' p'' a'' w'' h1 h2 h3
     rw [List.map_append] at h1 h3
     rw [←c3] at h1 h3
     exact hQ E'' p'' a'' w'' h1 h2 (hext.trans h3)
end
end Go.Lr

/- The local evaluator: whole bodies, loops, calls walked into, against the model. -/
namespace Go.Lr
open Go.RowKit
def Ex.to:Ex→Exit
 | .normal=> .normal
 | .exit id=> .exit id
 | .ret=> .ret
section
variable {P:Program} {S:FuncId→Option SumK} {z:Md}
theorem R.st {E:Env} {s:St} {a:Act} {w:World} (h:R E s a w):StOK s:=⟨h.okT,h.m.okM,h.m.uq⟩
theorem jdX (hB:Q8 P) (hS:AllOK P S) (hmix:P.follows .mixedOrders=true) {ops:Array Oper} {s s':St} (h:xQ P S z ops.toList s=some s') (hsz:s.sz≤60000) (hs:StOK s):
  (Good s'→Good s)∧StOK s'∧s'.sz=s.sz∧s.nb≤s'.nb∧(Good s'→∀(id:Nat) (E:Env) (a:Act) (w:World),R E s a w→∀Q:Exit→Act→World→Prop,(∀E' a' w',R E' s' a' w'→Ext w E s w' E' s'→Q .normal a' w')→
   (Code.region id ops true).wp P Q a w):=by
 unfold xQ at h
 split at h
 ·rename_i s1 acc hd
  split at h
  ·rename_i hfree hdown
   cases h
   obtain ⟨recs,e1,e2,e3,e4,e5,e6,e7,e8,e9⟩:=xG hd hsz hs
   refine ⟨fun hg=>(e9 hg).1,e8,e7,kM e5,fun hg id E a w hr Q hQ=> ?_⟩
   obtain ⟨g1,g2⟩:=e9 hg
   refine wp_region_any hmix ?_
   have hrev:jjS acc []=recs:=by rw [YV,e1];simp
   rw [hrev] at hfree
   have hlen:recs.length=ops.size:=by have:=congrArg List.length e2;simpa using this
   have hrem:((List.range recs.length).zip recs).map (·.2)=recs:=by
    rw [List.map_snd_zip];simp
   refine QQ (z:=z) (N:=s.nb) (sz:=s.sz) (M:=s'.nb) hB hS e2 hdown (fun i j x y hij hx hy hc=> ?_) e5 e6 g2 ops.size ((List.range recs.length).zip recs) (Array.replicate ops.size false) s.as E (below s.nb) a { w with drawn:=w.drawn+1 } ?_ ?_ ⟨fun i r=> ?_, ?_⟩ ?_ ?_ ?_ ?_ ?_ ?_
   ·have:=xH hfree rfl j y hy i x (by omega) (by simpa using hx) hc
    simpa using this
   ·simp [hlen]
   ·simp
   ·constructor
    ·intro h
     obtain ⟨k,hk⟩:=List.mem_iff_getElem?.1 h
     rw [List.getElem?_zip_eq_some] at hk
     obtain ⟨k1,k2⟩:=hk
     have hkl:k<recs.length:=(List.getElem?_eq_some_iff.1 k2).1
     rw [List.getElem?_range hkl] at k1
     cases k1
     refine ⟨k2, ?_⟩
     have:i<ops.size:=by omega
     simp [this]
    ·intro h
     obtain ⟨h1,_⟩:=h
     have hkl:i<recs.length:=(List.getElem?_eq_some_iff.1 h1).1
     refine List.mem_iff_getElem?.2 ⟨i, ?_⟩
     rw [List.getElem?_zip_eq_some]
     exact ⟨List.getElem?_range hkl,h1⟩
   ·have hp:(((List.range recs.length).zip recs).map (·.1)).Pairwise (· < ·):=by
     rw [List.map_fst_zip (by simp)]
     exact List.pairwise_lt_range
    exact (List.pairwise_map.1 hp)
   ·intro k o hk hl
    exfalso
    have:k<ops.size:=(Array.getElem?_eq_some_iff.1 hk).1
    simp [this] at hl
   ·rw [hrem];exact e3
   ·exact ⟨hr.size,hr.tm,hr.defers,hr.okT,⟨fun i b hb=>hr.m.rel.blk i b hb,hr.m.rel.inj⟩,hs.okM'⟩
   ·intro i hi
    have:=kM e5
    simp only [below,decide_eq_true_eq] at hi
    omega
   ·intro i hi x hx
    obtain ⟨k,r⟩:=x
    have hr':r∈recs:=(List.of_mem_zip hx).2
    obtain ⟨q,hq⟩:=List.mem_iff_getElem?.1 hr'
    have:=(xw e5 q r hq).1
    simp only [below,decide_eq_true_eq] at hi
    simp only
    omega
   ·intro E' p' a' w' h1 h2 h3
    rw [hrem,e4] at h1 h3
    have hmono:∀i,p' i=true→below s'.nb i=true:=fun i hi=>by simpa [below] using h2 i hi
    refine hQ E' a' w' ⟨h1.size.trans e7.symm,by rw [e7];exact hsz,h1.tm,h1.defers,e8.okT,⟨h1.rel,e8.okM,e8.uq⟩⟩ ?_
    exact ⟨kM e5,h3.agree,h3.os,h3.tape,h3.output,h3.size,h3.frame,h3.src⟩
  ·cases h
 ·cases h
def XX (tmps:Array Value):ResultVar→Sem Value
 | .tmp t=>pure (tmps.getD t undef)
 | .cell a t=>do loadVar t (←asAddr (tmps.getD a undef))
theorem jdY (fn:Func) (tmps:Array Value):results fn tmps=(do let vs ←fn.results.mapM (XX tmps);pure (if h:vs.size=1 then vs[0] else .tuple vs)):=by
 have:XX tmps=(fun r=>match r with
   | .tmp t=>pure (tmps.getD t undef)
   | .cell a t=>do loadVar t (←asAddr (tmps.getD a undef))):=by
  funext r
  cases r <;> rfl
 rw [this]
 rfl
theorem Ky {E:Env} {s:St} {w:World} {tmps:Array Value} (hm:Rel E (getM s.mem) w) (hτ:∀t:Nat,tmps.getD t undef=(getT s.tm t).den E):∀{rs:List ResultVar} {vs:List LV},yq P (getT s.tm) s.mem rs=some vs→
  (rs.mapM (XX tmps)).run P w = .ok (vs.map (LV.den E)) w
 | [],vs,h=>by simp only [yq] at h;cases h;simp
 | r::rs,vs,h=>by
  simp only [yq] at h
  split at h
  ·rename_i v vs' hv hvs
   cases h
   have h1:(XX tmps r).run P w = .ok (v.den E) w:=by
    cases r with
    | tmp t=>
     simp only [Z9,Option.some.injEq] at hv
     subst hv
     simp only [XX,Sem.run_pure,hτ t]
    | cell a t=>
     simp only [Z9] at hv
     split at hv
     ·rename_i d hd
      cases hv
      unfold Qj at hd
      split at hd
      ·rename_i b o hb
       split at hd
       ·rename_i k hk
        split at hd
        ·rename_i x hx
         cases hd
         have:=zh (P:=P) (hm.blk b k hk) hx
         simp only [XX,Sem.run_bind,hτ a,hb,jbN,asAddr,Sem.run_pure,Result.andThen_ok,this]
         rfl
        ·cases hd
       ·cases hd
      ·cases hd
     ·cases hv
   simp only [List.mapM_cons,Sem.run_bind,h1,Result.andThen_ok,Ky hm hτ hvs,Sem.run_pure,List.map_cons]
  ·cases h
theorem XY {E:Env}:∀{vs:List LV} {l:List V1},Xt vs=some l→vs.map (LV.den E)=l.map (V1.den E)
 | [],l,h=>by simp only [Xt] at h;cases h;rfl
 | .v x::vs,l,h=>by
  simp only [Xt] at h
  split at h
  ·rename_i r hr;cases h;simp [XY hr,LV.den]
  ·cases h
 | .tup _::vs,l,h=>by simp [Xt] at h
theorem qx {E:Env} {s:St} {w:World} {tmps:Array Value} {fn:Func} {v:LV} (hm:Rel E (getM s.mem) w) (hτ:∀t:Nat,tmps.getD t undef=(getT s.tm t).den E)
  (h:km P fn.results.toList (getT s.tm) s.mem=some v):(results fn tmps).run P w = .ok (v.den E) w:=by
 have key:∀vs,yq P (getT s.tm) s.mem fn.results.toList=some vs→(results fn tmps).run P w = .ok (if h:(vs.map (LV.den E)).toArray.size=1 then (vs.map (LV.den E)).toArray[0] else .tuple (vs.map (LV.den E)).toArray) w:=by
  intro vs hvs
  have:=Ky (P:=P) hm hτ hvs
  rw [jdY,Array.mapM_eq_mapM_toList]
  simp only [Sem.run_bind,Sem.run_map]
  rw [this]
  simp only [Result.andThen_ok,Sem.run_pure]
 unfold km at h
 split at h
 ·rename_i u hu
  cases h
  rw [key _ hu]
  simp
 ·rename_i vs hne hvs
  split at h
  ·rename_i l hl
   cases h
   rw [key _ hvs]
   rw [dif_neg]
   ·simp only [LV.den]
    rw [XY hl]
   ·intro h1
    have:vs.length=1:=by simpa using h1
    match vs,this with
    | [x],_=>exact hne x rfl
  ·cases h
 ·cases h
theorem J9 {p:Nat→Bool} {τ:Nat→LV} {m:Mem} (hτ:∀t,(τ t).ok p=true) (hg:∀i c,getM m i=some c→p i=true∧okL p c.cells=true):∀{rs:List ResultVar} {vs:List LV},yq P τ m rs=some vs→∀v∈vs,v.ok p=true
 | [],vs,h=>by simp only [yq] at h;cases h;simp
 | r::rs,vs,h=>by
  simp only [yq] at h
  split at h
  ·rename_i v vs' hv hvs
   cases h
   simp only [List.mem_cons,forall_eq_or_imp]
   refine ⟨?_,J9 hτ hg hvs⟩
   cases r with
   | tmp t=>simp only [Z9,Option.some.injEq] at hv;subst hv;exact hτ t
   | cell a t=>
    simp only [Z9] at hv
    split at hv
    ·rename_i d hd
     cases hv
     unfold Qj at hd
     split at hd
     ·split at hd
      ·rename_i k hk
       split at hd
       ·rename_i x hx
        cases hd
        exact KZ hx (hg _ _ hk).2
       ·cases hd
      ·cases hd
     ·cases hd
    ·cases hv
  ·cases h
theorem jdf {p:Nat→Bool}:∀{vs:List LV} {l:List V1},Xt vs=some l→(∀v∈vs,v.ok p=true)→jmz p l=true
 | [],l,h,_=>by simp only [Xt] at h;cases h;rfl
 | .v x::vs,l,h,hv=>by
  simp only [Xt] at h
  split at h
  ·rename_i r hr
   cases h
   rw [okVs_iff]
   simp only [List.mem_cons,forall_eq_or_imp]
   exact ⟨hv (.v x) (by simp),okVs_iff.1 (jdf hr fun v hm=>hv v (by simp [hm]))⟩
  ·cases h
 | .tup _::vs,l,h,_=>by simp [Xt] at h
theorem jbD {p:Nat→Bool} {τ:Nat→LV} {m:Mem} {rs:List ResultVar} {v:LV} (hτ:∀t,(τ t).ok p=true) (hg:∀i c,getM m i=some c→p i=true∧okL p c.cells=true) (h:km P rs τ m=some v):v.ok p=true:=by
 unfold km at h
 split at h
 ·rename_i u hu
  cases h
  exact J9 hτ hg hu _ (by simp)
 ·rename_i vs _ hvs
  split at h
  ·rename_i l hl
   cases h
   exact jdf hl (J9 hτ hg hvs)
  ·cases h
 ·cases h
theorem JG {β:Type}:∀(t:Tr) (i:Nat) (l:List LV) (k:Tr→β),jdd t i l k=k (KL t i l)
 | _,_,[],_=>rfl
 | t,i,v::l,k=>by simp only [jdd,KL,JC,JG]
theorem XZ:∀(l:List LV) (t:Tr) (i:Nat) (j:Nat),i+l.length<65535→getT (KL t i l) j=if i≤j∧j<i+l.length then l.getD (j - i) qr else getT t j
 | [],t,i,j,_=>by
  simp only [KL,List.length_nil]
  rw [if_neg (by omega)]
 | v::l,t,i,j,h=>by
  simp only [List.length_cons] at h ⊢
  simp only [KL]
  rw [XZ l _ (i+1) j (by omega),xY 16 t i v j (by omega)]
  by_cases h1:j=i
  ·subst h1
   rw [if_neg (by omega),if_pos rfl,if_pos (by omega)]
   simp
  ·by_cases h2:i≤j∧j<i+(l.length+1)
   ·rw [if_pos (by omega),if_pos h2]
    rw [show j - i=(j - (i+1))+1 by omega]
    simp
   ·rw [if_neg (by omega),if_neg h1,if_neg h2]
end
end Go.Lr

/- The local evaluator is sound: what it tells of a body holds of the model's. -/
namespace Go.Lr
open Go.RowKit
theorem xZ (nb:Nat):∀(m:Mem) (i:Nat),getM (Z8 nb m) i=if i<nb then getM m i else none
 | [],i=>by simp [Z8,getM]
 | (j,b)::m,i=>by
  simp only [Z8,zT]
  by_cases hj:j<nb
  ·simp only [hj,decide_true]
   rw [jm,jm,xZ nb m i]
   by_cases hi:i=j
   ·subst hi;simp [hj]
   ·simp [hi]
  ·simp only [hj,decide_false]
   rw [jm,xZ nb m i]
   by_cases hi:i<nb
   ·rw [if_pos hi,if_pos hi,if_neg (by omega)]
   ·rw [if_neg hi,if_neg hi]
theorem Ka (nb:Nat):∀(m:Mem),uniq m→uniq (Z8 nb m)
 | [],_=>trivial
 | (j,b)::m,h=>by
  simp only [Z8]
  split
  ·refine ⟨?_,Ka nb m h.2⟩
   rw [xZ,h.1]
   simp
  ·exact Ka nb m h.2
theorem jdZ {β:Type} {y:Bool} {nb:Nat} {v:LV} {m:Mem} {k:Mem→β} {r:β} (h:jf4 y nb v m k=r):∃m',k m'=r∧(uniq m→uniq m')∧∀i b,getM m' i=some b→getM m i=some b:=by
 have hm:k m=r→∃m',k m'=r∧(uniq m→uniq m')∧∀i b,getM m' i=some b→getM m i=some b:=fun h=>⟨m,h,id,fun _ _ h=>h⟩
 unfold jf4 at h
 split at h
 ·exact hm h
 ·split at h
  ·rw [QL] at h
   refine ⟨_,h,Ka nb m,fun i b hb=> ?_⟩
   rw [xZ] at hb
   split at hb
   ·exact hb
   ·cases hb
  ·exact hm h
theorem Rel.sub {E:Env} {g g':Nat→Option Blk} {w:World} (h:Rel E g w) (hs:∀i b,g' i=some b→g i=some b):Rel E g' w:=by
 have hsome:∀i,(g' i).isSome→(g i).isSome:=by
  intro i hi
  obtain ⟨b,hb⟩:=Option.isSome_iff_exists.1 hi
  simp [hs i b hb]
 exact ⟨fun i b hb=>h.blk i b (hs i b hb),fun i j hi hj he=>h.inj i j (hsome i hi) (hsome j hj) he⟩
section
variable {P:Program} {S:FuncId→Option SumK} {z:Md}
def SC (P:Program) (S:FuncId→Option SumK) (z:Md) (n:Nat):Prop:=
 ∀(c:Code) (s:St) (out:Out) (s':St),exec P S z n (.code c) s=some (out,s')→s.sz≤60000→StOK s→
  ∃e,out = .ex e∧(Good s'→Good s)∧StOK s'∧s'.sz=s.sz∧s.nb≤s'.nb∧
   (Good s'→∀(E:Env) (a:Act) (w:World),R E s a w→∀Q:Exit→Act→World→Prop,(∀E' a' w',R E' s' a' w'→Ext w E s w' E' s'→Q e.to a' w')→c.wp P Q a w)
def SL (P:Program) (S:FuncId→Option SumK) (z:Md) (n:Nat):Prop:=
 ∀(c:Code) (s:St) (out:Out) (s':St),exec P S z n (.code (.loop c)) s=some (out,s')→s.sz≤60000→StOK s→
  ∃e m,out = .ex e∧(Good s'→Good s)∧StOK s'∧s'.sz=s.sz∧s.nb≤s'.nb∧
   (Good s'→∀(E:Env) (a:Act) (w:World),R E s a w→∀Q:Exit→Act→World→Prop,(∀E' a' w',R E' s' a' w'→Ext w E s w' E' s'→Q e.to a' w')→Code.rounds P c Q m a w)
def SO (P:Program) (S:FuncId→Option SumK) (z:Md) (n:Nat):Prop:=
 ∀(all l:List Oper) (s:St) (out:Out) (s':St),exec P S z n (.ops all l) s=some (out,s')→s.sz≤60000→StOK s→
  out = .ex .normal∧(Good s'→Good s)∧StOK s'∧s'.sz=s.sz∧s.nb≤s'.nb∧
   (Good s'→∀(ops:Array Oper) (k:Nat),ops.toList=all→all.drop k=l→∀(E:Env) (a:Act) (w:World),R E s a w→∀Q:Exit→Act→World→Prop,
    (∀E' a' w',R E' s' a' w'→Ext w E s w' E' s'→Q .normal a' w')→wpOps P ops Q (List.range' k l.length) a w)
def SB (P:Program) (S:FuncId→Option SumK) (z:Md) (n:Nat):Prop:=
 ∀(f:FuncId) (args:List LV) (s:St) (out:Out) (s':St),exec P S z n (.body f args) s=some (out,s')→(∀i b,getM s.mem i=some b→i<s.nb∧okL (below s.nb) b.cells=true)→uniq s.mem→
  (∀v∈args,v.ok (below s.nb)=true)→
  ∃v,out = .val v∧(Good s'→Good s)∧s.nb≤s'.nb∧(∀i b,getM s'.mem i=some b→i<s'.nb∧okL (below s'.nb) b.cells=true)∧uniq s'.mem∧v.ok (below s'.nb)=true∧
   (∃fn,P.funcs[f]? = some fn∧fn.body.isSome)∧
   (Good s'→∀(E:Env) (w:World),MRel E s w→Calls P f (args.map (LV.den E)).toArray w fun e w'=>∃E',e = .returned (v.den E')∧MRel E' s' w'∧Ext w E s w' E' s')
theorem X0 {n m:Nat} (h:n≤m):∀i,below n i=true→below m i=true:=fun i hi=>by
 simp only [below,decide_eq_true_eq] at hi ⊢
 omega
theorem jga {n:Nat} {f:FuncId} {args:List LV} {s s2:St} {out:Out} (h:exec P S z n (.body f args) s=some (out,s2)):s2.sz=s.sz∧s2.tm=s.tm:=by
 cases n with
 | zero=>simp [exec] at h
 | succ n=>
  simp only [exec,jby,KY] at h
  split at h
  ·split at h
   ·split at h
    ·rw [JG] at h
     unfold YU at h
     split at h
     ·split at h
      ·cases h;exact ⟨rfl,rfl⟩
      ·cases h
     ·split at h
      ·cases h;exact ⟨rfl,rfl⟩
      ·cases h
     ·cases h
    ·cases h
   ·cases h
  ·cases h
theorem jiq (hB:Q8 P) (hS:AllOK P S) {all:List Oper} {s:St} {o:Oper} {gd pd:Option Bool} {d:Dl} {cs:List (Bool×Bool)} {dec:List (Option Bool)} {β:Type} {k:St→Option β} {r:β}
  (hd:J8 P S z all (getT s.tm) (getM s.mem) s.nb gd pd o=some (d,cs)) (h:jio z s o.dst d dec cs k=some r) (hsz:s.sz≤60000) (hs:StOK s):
  ∃s1,k s1=some r∧s1.sz=s.sz∧s.nb≤s1.nb∧StOK s1∧(Good s1→Good s)∧
   (Good s1→∀(ops:Array Oper) (i:Nat),ops.toList=all→ops[i]? = some o→∀(E:Env) (a:Act) (w:World),R E s a w→∀(K:Act→World→Prop) (Q:Exit→Act→World→Prop),
    (∀E' a' w',R E' s1 a' w'→Ext w E s w' E' s1→K a' w')→wpOp P ops Q i K a w):=by
 obtain ⟨s1,h1,h2,h3,h4,h5,h6,h7,_⟩:=jaw (a:={ tmps:=Array.replicate s.sz undef,defers:=[] }) (by simp) hsz h
 have hok:=Y6 (fun t=>hs.okT t) hs.okM' hd
 have hs1:StOK s1:=hs.app hok h5 h6 h7.1
 refine ⟨s1,h1,h4,by omega,hs1,fun hg=>(h2 hg).2.2,fun hg ops i hall hi E a w hr K Q hk=> ?_⟩
 subst hall
 obtain ⟨c1,c2,_⟩:=h2 hg
 refine jds hB hS hi hr.tm (fun t=>hs.okT t) hr.m.rel hs.okM' (fun j h1 _=>by simp [below,h1]) hd c1 c2 fun E' w' hp=> ?_
 have hag:∀i,below s.nb i=true→E' i=E i:=fun j hj=>hp.agree j (.inl (by simpa [below] using hj))
 obtain ⟨tm1,sz1,mem1,nb1,dec1,cs1⟩:=s1
 simp only at h4 h5 h6
 subst h5 h6
 obtain ⟨m1,m2⟩:=MRel.post (tm:=tm1) (sz:=sz1) (dec:=dec1) (cs:=cs1) hr.m hok hp
 refine hk E' _ w' ⟨?_,by rw [h4];exact hsz,fun t=> ?_, ?_,hs1.okT,m1⟩ m2
 ·rw [h4,←hr.size]
  cases hd:o.dst <;> simp [Act.put]
 ·have ht:∀t:Nat,a.tmps.getD t undef=(getT s.tm t).den E':=fun t=>by rw [hr.tm t,LV.den_congr hag (hs.okT t)]
  have h8:getT tm1 t=updτ (getT s.tm) o.dst d.val t:=congrFun h7.1 t
  show _=(getT tm1 t).den E'
  rw [h8]
  unfold updτ
  cases hd:o.dst with
  | none=>exact ht t
  | some e=>
   simp only [Act.put]
   rw [JQ a.tmps e t _ (by rw [hr.size];exact h7.2 e hd)]
   by_cases hte:t=e
   ·simp [hte]
   ·rw [if_neg hte,if_neg hte];exact ht t
 ·cases hd:o.dst <;> exact hr.defers
theorem jlN (hB:Q8 P) (hS:AllOK P S) (hNG:∀(f:FuncId) (fn:Func),P.funcs[f]? = some fn→fn.name≠ "runtime.NumGoroutine") {n:Nat} (ihO:SO P S z n) (ihB:SB P S z n):SO P S z (n+1):=by
 intro all l s out s' h hsz hs
 simp only [exec,jby] at h
 cases l with
 | nil=>
  simp only [YT] at h
  cases h
  exact ⟨rfl,id,hs,rfl,Nat.le_refl _,fun _ ops k _ _ E a w hr Q hQ=>by simpa [wpOps] using hQ E a w hr (.refl _ _ _)⟩
 | cons o rest=>
  simp only [YT] at h
  generalize hdec:jra z o s.dec=q at h
  obtain ⟨gd,pd,dec⟩:=q
  simp only at h
  have hnext:∀(ops:Array Oper) (k:Nat),ops.toList=all→all.drop k=o::rest→ops[k]? = some o∧all.drop (k+1)=rest:=by
   intro ops k hall hdrop
   constructor
   ·have:(all.drop k)[0]? = some o:=by rw [hdrop];rfl
    rw [List.getElem?_drop] at this
    rw [←hall] at this
    simpa using this
   ·have:=congrArg List.tail hdrop
    simpa [List.tail_drop] using this
  have plain:∀(d:Dl) (cs:List (Bool×Bool)),J8 P S z all (getT s.tm) (getM s.mem) s.nb gd pd o=some (d,cs)→(jio z s o.dst d dec cs fun s'=>exec P S z n (.ops all rest) s')=some (out,s')→
    out = .ex .normal∧(Good s'→Good s)∧StOK s'∧s'.sz=s.sz∧s.nb≤s'.nb∧
     (Good s'→∀(ops:Array Oper) (k:Nat),ops.toList=all→all.drop k=o::rest→∀(E:Env) (a:Act) (w:World),R E s a w→∀Q:Exit→Act→World→Prop,
      (∀E' a' w',R E' s' a' w'→Ext w E s w' E' s'→Q .normal a' w')→wpOps P ops Q (List.range' k (o::rest).length) a w):=by
   intro d cs hd hk
   obtain ⟨s1,h1,h2,h3,h4,h5,h6⟩:=jiq (z:=z) hB hS hd hk hsz hs
   obtain ⟨e1,e2,e3,e4,e5,e6⟩:=ihO all rest s1 out s' h1 (by omega) h4
   refine ⟨e1,fun hg=>h5 (e2 hg),e3,e4.trans h2,Nat.le_trans h3 e5,fun hg ops k hall hdrop E a w hr Q hQ=> ?_⟩
   rw [List.length_cons,List.range'_succ,wpOps_cons]
   obtain ⟨hk',hdrop'⟩:=hnext ops k hall hdrop
   refine h6 (e2 hg) ops k hall hk' E a w hr _ Q fun E' a' w' hr' hx=> ?_
   exact e6 hg ops (k+1) hall hdrop' E' a' w' hr' Q fun E'' a'' w'' hr'' hx'=>hQ E'' a'' w'' hr'' (hx.trans hx')
  split at h
  ·rename_i cs hw
   exact plain jdV cs (by unfold J8;rw [hw]) h
  ·rename_i cs hw
   unfold jf6 at h
   split at h
   ·rename_i f args hinl
    have hc:∃c,o.op = .call c∧callee (getT s.tm) c=some (f,args):=by
     unfold jf5 at hinl
     split at hinl
     ·rename_i c ho
      refine ⟨c,ho, ?_⟩
      split at hinl
      ·rename_i f' args' hcal
       split at hinl
       ·cases hinl
       ·cases hinl;exact hcal
      ·cases hinl
     ·cases hinl
    obtain ⟨c,ho,hcal⟩:=hc
    obtain ⟨c1,h1,h2⟩:=kS h
    unfold jbx at h1
    split at h1
    ·rename_i v s2 hbody
     rw [JE] at h1
     have hargs:∀u∈args,u.ok (below s.nb)=true:=x6 (fun t=>hs.okT t) hcal
     obtain ⟨hsz2,htm2⟩:=jga hbody
     simp only at hsz2 htm2
     obtain ⟨tm,h3,⟨htm,hdst⟩,_⟩:=jjX (a:={ tmps:=Array.replicate s2.sz undef,defers:=[] }) (by simp) (by omega) h1
     obtain ⟨m',h4,hum,hsub⟩:=jdZ h3
     obtain ⟨v',b1,b2,b3,b4,b5,b6,⟨fn,b7,b8⟩,b9⟩:=ihB f args _ _ s2 hbody hs.okM hs.uq hargs
     cases b1
     simp only at b3
     have hs3:StOK ⟨tm,s2.sz,m',s2.nb,s2.dec,s2.cs,s2.lg⟩:=by
      refine ⟨fun t=> ?_,fun i b hb=>b4 i b (hsub i b hb),hum b5⟩
      show (getT tm t).ok (below s2.nb)=true
      rw [htm]
      unfold updτ
      rw [htm2]
      cases hd:o.dst with
      | none=>exact LV.ok_mono (X0 b3) (hs.okT t)
      | some e=>
       by_cases hte:t=e
       ·simp only [hte,if_true];exact b6
       ·simp only [hte,if_false];exact LV.ok_mono (X0 b3) (hs.okT t)
     obtain ⟨e1,e2,e3,e4,e5,e6⟩:=ihO all rest _ out s' h4 (by show s2.sz≤60000;omega) hs3
     simp only at e4 e5
     refine ⟨e1,fun hg=> ?_,e3,e4.trans hsz2,Nat.le_trans b3 e5,fun hg ops k hall hdrop E a w hr Q hQ=> ?_⟩
     ·exact (h2 (b2 (e2 hg))).2
     ·rw [List.length_cons,List.range'_succ,wpOps_cons]
      obtain ⟨hk',hdrop'⟩:=hnext ops k hall hdrop
      have hg2:Good s2:=e2 hg
      have hcs:=(h2 (b2 hg2)).1
      unfold wpOp
      simp only [hk']
      subst hall
      rw [Kj (a:=a) (E:=E) hr.tm hw hcs]
      simp only [if_true]
      refine .inl (CallOK.wp (R:=fun v'' w'=>∃E',v''=v.den E'∧MRel E' s2 w'∧Ext w E ⟨s.tm,s.sz,s.mem,s.nb,dec,c1,s.lg⟩ w' E' s2) ho (JR hr.tm) hcal (.inl ⟨fn,b7,hNG f fn b7,b8, ?_⟩) ?_)
      ·refine (b9 hg2 E w ⟨hr.m.rel,hr.m.okM,hr.m.uq⟩).mono fun e w' he=> ?_
       obtain ⟨E',h5,h6,h7⟩:=he
       exact ⟨_,h5,E',rfl,h6,h7⟩
      ·rintro v'' w' ⟨E',rfl,h6,h7⟩
       have hag:∀i,below s.nb i=true→E' i=E i:=fun j hj=>h7.agree j (by simpa [below] using hj)
       have ht:∀t:Nat,a.tmps.getD t undef=(getT s.tm t).den E':=fun t=>by rw [hr.tm t,LV.den_congr hag (hs.okT t)]
       have hr3:R E' ⟨tm,s2.sz,m',s2.nb,s2.dec,s2.cs,s2.lg⟩ (a.put o.dst (v.den E')) w':=by
        refine ⟨?_,by show s2.sz≤60000;omega,fun t=> ?_, ?_,hs3.okT,⟨h6.rel.sub hsub,hs3.okM,hs3.uq⟩⟩
        ·show _=s2.sz
         rw [hsz2,←hr.size]
         cases hd:o.dst <;> simp [Act.put]
        ·show _=(getT tm t).den E'
         rw [htm]
         unfold updτ
         rw [htm2]
         cases hd:o.dst with
         | none=>exact ht t
         | some e=>
          simp only [Act.put]
          rw [JQ a.tmps e t _ (by rw [hr.size,←hsz2];exact hdst e hd)]
          by_cases hte:t=e
          ·simp [hte]
          ·rw [if_neg hte,if_neg hte];exact ht t
        ·cases hd:o.dst <;> exact hr.defers
       refine e6 hg ops (k+1) rfl hdrop' E' _ w' hr3 Q fun E'' a'' w'' hr'' hx'=> ?_
       refine hQ E'' a'' w'' hr'' (Ext.trans (s1:=⟨tm,s2.sz,m',s2.nb,s2.dec,s2.cs,s2.lg⟩) ⟨h7.nb,h7.agree,h7.os,h7.tape,h7.output,h7.size,h7.frame,fun i hi=>h7.src i ?_⟩ hx')
       obtain ⟨b,hb⟩:=Option.isSome_iff_exists.1 hi
       simp [hsub i b hb]
    ·cases h1
   ·rename_i hinl
    split at h
    ·rename_i d hd
     exact plain d cs (by unfold J8;rw [hw];simp only [hd]) h
    ·cases h
  ·cases h
theorem jlO {n:Nat} (ihC:SC P S z n):SB P S z (n+1):=by
 intro f args s out s' h hokM huq hargs
 simp only [exec,jby,KY] at h
 split at h
 ·rename_i fn hf
  split at h
  ·rename_i c hc
   split at h
   ·rename_i hl1 hl2
    rw [Kx,jbI] at hl1
    rw [Kx] at hl2
    have hl1':args.length≤fn.ntmps:=by simpa using hl1
    have hl2':fn.ntmps≤60000:=by simpa using hl2
    rw [JG] at h
    have hget:∀j,getT (KL .nil 0 args) j=args.getD j qr:=by
     intro j
     rw [XZ args .nil 0 j (by omega)]
     by_cases hj:j<args.length
     ·rw [if_pos (by omega)];simp
     ·rw [if_neg (by omega),zH]
      simp [List.getD,List.getElem?_eq_none (Nat.le_of_not_lt hj)]
    have hs0:StOK ⟨KL .nil 0 args,fn.ntmps,s.mem,s.nb,s.dec,s.cs,s.lg⟩:=by
     refine ⟨fun t=> ?_,hokM,huq⟩
     show (getT (KL .nil 0 args) t).ok (below s.nb)=true
     rw [hget]
     by_cases ht:t<args.length
     ·simp only [List.getD,List.getElem?_eq_getElem ht,Option.getD_some]
      exact hargs _ (List.getElem_mem ht)
     ·simp only [List.getD,List.getElem?_eq_none (Nat.le_of_not_lt ht),Option.getD_none]
      rfl
    have key:∀(e:Ex) (s1:St) (v:LV),(e = .normal∨e = .ret)→exec P S z n (.code c) ⟨KL .nil 0 args,fn.ntmps,s.mem,s.nb,s.dec,s.cs,s.lg⟩=some (.ex e,s1)→
      km P fn.results.toList (getT s1.tm) s1.mem=some v→out = .val v→s'=⟨s.tm,s.sz,s1.mem,s1.nb,s1.dec,s1.cs,s1.lg⟩→
      ∃v,out = .val v∧(Good s'→Good s)∧s.nb≤s'.nb∧(∀i b,getM s'.mem i=some b→i<s'.nb∧okL (below s'.nb) b.cells=true)∧uniq s'.mem∧v.ok (below s'.nb)=true∧
       (∃fn,P.funcs[f]? = some fn∧fn.body.isSome)∧
       (Good s'→∀(E:Env) (w:World),MRel E s w→Calls P f (args.map (LV.den E)).toArray w fun e w'=>∃E',e = .returned (v.den E')∧MRel E' s' w'∧Ext w E s w' E' s'):=by
     intro e s1 v he hex hres hout hs'
     obtain ⟨e',q1,q2,q3,q4,q5,q6⟩:=ihC c _ _ s1 hex hl2' hs0
     cases q1
     subst hs'
     simp only at q5
     refine ⟨v,hout,fun hg=>q2 hg,q5,q3.okM,q3.uq,jbD (fun t=>q3.okT t) q3.okM' hres,⟨fn,hf,by simp [hc]⟩,fun hg E w hm=> ?_⟩
     refine calls_of_wp hf hc (q6 hg E _ w ⟨?_,hl2',fun t=> ?_,rfl,hs0.okT,⟨hm.rel,hm.okM,hm.uq⟩⟩ _ fun E' a' w' hr' hx'=> ?_)
     ·simp;omega
     ·show _=(getT (KL .nil 0 args) t).den E
      rw [hget]
      simp only [Array.getD_eq_getD_getElem?,Array.getElem?_append,List.size_toArray,List.length_map]
      by_cases ht:t<args.length
      ·rw [if_pos ht]
       simp [List.getD,List.getElem?_eq_getElem ht]
      ·rw [if_neg ht]
       simp only [List.getD,List.getElem?_eq_none (Nat.le_of_not_lt ht),Option.getD_none]
       by_cases ht2:t - args.length<fn.ntmps - args.length
       ·simp [ht2];rfl
       ·simp [ht2];rfl
     ·have hpost:bodyPost P fn (fun e w'=>∃E',e = .returned (v.den E')∧MRel E' ⟨s.tm,s.sz,s1.mem,s1.nb,s1.dec,s1.cs,s1.lg⟩ w'∧Ext w E s w' E' ⟨s.tm,s.sz,s1.mem,s1.nb,s1.dec,s1.cs,s1.lg⟩) .ret a' w':=
       ⟨hr'.defers,v.den E',qx hr'.m.rel hr'.tm hres,E',rfl,⟨hr'.m.rel,hr'.m.okM,hr'.m.uq⟩,⟨hx'.nb,hx'.agree,hx'.os,hx'.tape,hx'.output,hx'.size,hx'.frame,hx'.src⟩⟩
      rcases he with rfl | rfl
      ·exact hpost
      ·exact hpost
    unfold YU at h
    split at h
    ·rename_i s1 hex
     split at h
     ·rename_i v hres
      cases h
      exact key .normal s1 v (.inl rfl) hex hres rfl rfl
     ·cases h
    ·rename_i s1 hex
     split at h
     ·rename_i v hres
      cases h
      exact key .ret s1 v (.inr rfl) hex hres rfl rfl
     ·cases h
    ·cases h
   ·cases h
  ·cases h
 ·cases h
theorem jlP (hB:Q8 P) (hS:AllOK P S) (hmix:P.follows .mixedOrders=true) {n:Nat} (ihC:SC P S z n) (ihO:SO P S z n) (ihL:SL P S z (n+1)):SC P S z (n+1):=by
 intro c s out s' h hsz hs
 have h0:=h
 simp only [exec,jby] at h
 cases c <;> simp only [kP,reduceCtorEq] at h
 case skip=>
  cases h
  exact ⟨.normal,rfl,id,hs,rfl,Nat.le_refl _,fun _ E a w hr Q hQ=>wp_skip (hQ E a w hr (.refl _ _ _))⟩
 case region id ops draw=>
  cases draw with
  | false=>
   simp only at h
   obtain ⟨e1,e2,e3,e4,e5,e6⟩:=ihO _ _ s out s' h hsz hs
   refine ⟨.normal,e1,e2,e3,e4,e5,fun hg E a w hr Q hQ=>wp_region ?_⟩
   have:=e6 hg ops 0 rfl rfl E a w hr Q hQ
   rw [List.range_eq_range']
   simpa using this
  | true=>
   simp only at h
   unfold qe at h
   split at h
   ·rename_i s1 hd
    cases h
    obtain ⟨e2,e3,e4,e5,e6⟩:=jdX hB hS hmix hd hsz hs
    exact ⟨.normal,rfl,e2,e3,e4,e5,fun hg E a w hr Q hQ=>e6 hg id E a w hr Q hQ⟩
   ·cases h
 case seq x y=>
  cases hx:exec P S z n (.code x) s with
  | none=>rw [hx] at h;simp [xR] at h
  | some q=>
   obtain ⟨o1,s1⟩:=q
   rw [hx] at h
   obtain ⟨e,e1,e2,e3,e4,e5,e6⟩:=ihC x s o1 s1 hx hsz hs
   subst e1
   have other:e≠ .normal→xR (exec P S z n) y (some (Out.ex e,s1))=some (Out.ex e,s1):=by
    intro hne
    cases e <;> first | exact absurd rfl hne | rfl
   by_cases hne:e = .normal
   ·subst hne
    simp only [xR] at h
    obtain ⟨e',f1,f2,f3,f4,f5,f6⟩:=ihC y s1 out s' h (by omega) e3
    refine ⟨e',f1,fun hg=>e2 (f2 hg),f3,f4.trans e4,Nat.le_trans e5 f5,fun hg E a w hr Q hQ=>wp_seq ?_⟩
    refine e6 (f2 hg) E a w hr _ fun E' a' w' hr' hx'=> ?_
    exact f6 hg E' a' w' hr' Q fun E'' a'' w'' hr'' hx''=>hQ E'' a'' w'' hr'' (hx'.trans hx'')
   ·rw [other hne] at h
    cases h
    refine ⟨e,rfl,e2,e3,e4,e5,fun hg E a w hr Q hQ=>wp_seq ?_⟩
    refine e6 hg E a w hr _ fun E' a' w' hr' hx'=> ?_
    have:=hQ E' a' w' hr' hx'
    cases e <;> first | exact absurd rfl hne | exact this
 case cond c x y=>
  unfold YS at h
  split at h
  ·rename_i t ht
   generalize hq:jf2 s.dec=q at h
   obtain ⟨d,dec⟩:=q
   simp only at h
   split at h
   ·rename_i cs hb
    obtain ⟨c1,h1,h2⟩:=kS h
    have hs1:StOK ⟨s.tm,s.sz,s.mem,s.nb,dec,c1,s.lg⟩:=⟨hs.okT,hs.okM,hs.uq⟩
    obtain ⟨e,e1,e2,e3,e4,e5,e6⟩:=ihC x _ out s' h1 hsz hs1
    refine ⟨e,e1,fun hg=>(h2 (e2 hg)).2,e3,e4,e5,fun hg E a w hr Q hQ=> ?_⟩
    have htt:=xA hb (h2 (e2 hg)).1
    subst htt
    refine wp_cond_true (by rw [jW (JR hr.tm) ht];rfl) ?_
    exact e6 hg E a w ⟨hr.size,hr.le,hr.tm,hr.defers,hr.okT,⟨hr.m.rel,hr.m.okM,hr.m.uq⟩⟩ Q fun E' a' w' hr' hx'=>hQ E' a' w' hr' ⟨hx'.nb,hx'.agree,hx'.os,hx'.tape,hx'.output,hx'.size,hx'.frame,hx'.src⟩
   ·rename_i cs hb
    obtain ⟨c1,h1,h2⟩:=kS h
    have hs1:StOK ⟨s.tm,s.sz,s.mem,s.nb,dec,c1,s.lg⟩:=⟨hs.okT,hs.okM,hs.uq⟩
    obtain ⟨e,e1,e2,e3,e4,e5,e6⟩:=ihC y _ out s' h1 hsz hs1
    refine ⟨e,e1,fun hg=>(h2 (e2 hg)).2,e3,e4,e5,fun hg E a w hr Q hQ=> ?_⟩
    have htt:=xA hb (h2 (e2 hg)).1
    subst htt
    refine wp_cond_false (by rw [jW (JR hr.tm) ht];rfl) ?_
    exact e6 hg E a w ⟨hr.size,hr.le,hr.tm,hr.defers,hr.okT,⟨hr.m.rel,hr.m.okM,hr.m.uq⟩⟩ Q fun E' a' w' hr' hx'=>hQ E' a' w' hr' ⟨hx'.nb,hx'.agree,hx'.os,hx'.tape,hx'.output,hx'.size,hx'.frame,hx'.src⟩
   ·cases h
  ·cases h
 case block id x=>
  cases hx:exec P S z n (.code x) s with
  | none=>rw [hx] at h;simp [xX] at h
  | some q=>
   obtain ⟨o1,s1⟩:=q
   rw [hx] at h
   obtain ⟨e,e1,e2,e3,e4,e5,e6⟩:=ihC x s o1 s1 hx hsz hs
   subst e1
   cases e with
   | normal=>
    simp only [xX] at h
    cases h
    exact ⟨.normal,rfl,e2,e3,e4,e5,fun hg E a w hr Q hQ=>wp_block (e6 hg E a w hr _ fun E' a' w' hr' hx'=>hQ E' a' w' hr' hx')⟩
   | ret=>
    simp only [xX] at h
    cases h
    exact ⟨.ret,rfl,e2,e3,e4,e5,fun hg E a w hr Q hQ=>wp_block (e6 hg E a w hr _ fun E' a' w' hr' hx'=>hQ E' a' w' hr' hx')⟩
   | exit i=>
    simp only [xX,kX] at h
    by_cases hid:i=id
    ·simp only [hid,decide_true] at h
     cases h
     refine ⟨.normal,rfl,e2,e3,e4,e5,fun hg E a w hr Q hQ=>wp_block (e6 hg E a w hr _ fun E' a' w' hr' hx'=> ?_)⟩
     simp only [Ex.to,Exit.inBlock,hid,if_true]
     exact hQ E' a' w' hr' hx'
    ·simp only [hid,decide_false] at h
     cases h
     refine ⟨.exit i,rfl,e2,e3,e4,e5,fun hg E a w hr Q hQ=>wp_block (e6 hg E a w hr _ fun E' a' w' hr' hx'=> ?_)⟩
     simp only [Ex.to,Exit.inBlock,hid,if_false]
     exact hQ E' a' w' hr' hx'
 case loop x=>
  obtain ⟨e,m,e1,e2,e3,e4,e5,e6⟩:=ihL x s out s' h0 hsz hs
  exact ⟨e,e1,e2,e3,e4,e5,fun hg E a w hr Q hQ=>wp_loop_rounds m (e6 hg E a w hr Q hQ)⟩
 case exit id=>
  cases h
  exact ⟨.exit id,rfl,fun hg=>hg,hs,rfl,Nat.le_refl _,fun _ E a w hr Q hQ=>wp_exit (hQ E a w hr (.refl _ _ _))⟩
 case ret=>
  cases h
  exact ⟨.ret,rfl,id,hs,rfl,Nat.le_refl _,fun _ E a w hr Q hQ=>wp_ret (hQ E a w hr (.refl _ _ _))⟩
theorem jlQ {n:Nat} (ihC:SC P S z n) (ihL:SL P S z n):SL P S z (n+1):=by
 intro x s out s' h hsz hs
 simp only [exec,jby,kP] at h
 cases hx:exec P S z n (.code x) s with
 | none=>rw [hx] at h;simp [xR] at h
 | some q=>
  obtain ⟨o1,s1⟩:=q
  rw [hx] at h
  obtain ⟨e,e1,e2,e3,e4,e5,e6⟩:=ihC x s o1 s1 hx hsz hs
  subst e1
  by_cases hne:e = .normal
  ·subst hne
   simp only [xR] at h
   obtain ⟨e',m,f1,f2,f3,f4,f5,f6⟩:=ihL x s1 out s' h (by omega) e3
   refine ⟨e',m+1,f1,fun hg=>e2 (f2 hg),f3,f4.trans e4,Nat.le_trans e5 f5,fun hg E a w hr Q hQ=> ?_⟩
   rw [rounds_succ]
   refine e6 (f2 hg) E a w hr _ fun E' a' w' hr' hx'=> ?_
   exact f6 hg E' a' w' hr' Q fun E'' a'' w'' hr'' hx''=>hQ E'' a'' w'' hr'' (hx'.trans hx'')
  ·have other:xR (exec P S z n) (.loop x) (some (Out.ex e,s1))=some (Out.ex e,s1):=by
    cases e <;> first | exact absurd rfl hne | rfl
   rw [other] at h
   cases h
   refine ⟨e,1,rfl,e2,e3,e4,e5,fun hg E a w hr Q hQ=> ?_⟩
   rw [rounds_succ]
   refine e6 hg E a w hr _ fun E' a' w' hr' hx'=> ?_
   have:=hQ E' a' w' hr' hx'
   cases e <;> first | exact absurd rfl hne | exact this
theorem ki (hB:Q8 P) (hS:AllOK P S) (hmix:P.follows .mixedOrders=true) (hNG:∀(f:FuncId) (fn:Func),P.funcs[f]? = some fn→fn.name≠ "runtime.NumGoroutine"):
  ∀n,SC P S z n∧SL P S z n∧SO P S z n∧SB P S z n
 | 0=>⟨fun c s out s' h=>by simp [exec] at h,fun c s out s' h=>by simp [exec] at h,fun all l s out s' h=>by simp [exec] at h,fun f args s out s' h=>by simp [exec] at h⟩
 | n+1=>by
  obtain ⟨h1,h2,h3,h4⟩:=ki hB hS hmix hNG n
  have hL:=jlQ h1 h2
  exact ⟨jlP hB hS hmix h1 h3 hL,hL,jlN hB hS hNG h3 h4,jlO h1⟩
end
end Go.Lr

/- The local evaluator: the comparing of structs and arrays. -/
namespace Go.Lr
open Go.RowKit
section
variable {P:Program} {E:Env}
theorem QR {α:Type} (f:α→Option Bool×Unit→Sem (ForInStep (Option Bool×Unit))) (b:α→Bool) (w:World):∀(l:List α),
  (∀x∈l,(f x (none,())).run P w = .ok (if b x then .yield (none,()) else .done (some false,())) w)→
  (forIn l (none,()) f).run P w = .ok (if l.all b then (none,()) else (some false,())) w
 | [],_=>by simp
 | x::l,h=>by
  simp only [List.forIn_cons,Sem.run_bind,h x (by simp),Result.andThen_ok]
  cases hb:b x with
  | false=>simp [hb]
  | true=>
   simp only [if_true,List.all_cons,hb,Bool.true_and]
   exact QR f b w l fun y hy=>h y (by simp [hy])
def eqF (P:Program) (d:Nat) (xs ys:List At) (f:Field):Bool:=
 match xp P f.type xs f.offset,xp P f.type ys f.offset with
 | some a,some b=>(eqV P d f.type a b).getD false
 | _,_=>false
theorem JH {d:Nat} {xs ys:List At}:∀{fs:List Field} {r:Bool},Js P (eqV P d) fs xs ys=some r→
  r=fs.all (eqF P d xs ys)∧∀f∈fs,f.name≠ "_"∧∃a b,xp P f.type xs f.offset=some a∧xp P f.type ys f.offset=some b∧eqV P d f.type a b=some (eqF P d xs ys f)
 | [],r,h=>by simp only [Js] at h;cases h;simp
 | f::fs,r,h=>by
  simp only [Js] at h
  split at h
  ·cases h
  ·rename_i hn
   split at h
   ·rename_i a b ha hb
    split at h
    ·rename_i r1 rs h1 h2
     cases h
     obtain ⟨g1,g2⟩:=JH h2
     have he:eqF P d xs ys f=r1:=by simp [eqF,ha,hb,h1]
     refine ⟨by simp [he,g1],fun f' hf'=> ?_⟩
     rcases List.mem_cons.1 hf' with rfl | hf'
     ·exact ⟨by simpa using hn,a,b,ha,hb,by rw [he];exact h1⟩
     ·exact g2 f' hf'
    ·cases h
   ·cases h
def eqE (P:Program) (d:Nat) (e:TypeId) (s:Nat) (xs ys:List At) (i:Nat):Bool:=
 match xp P e xs (i*s),xp P e ys (i*s) with
 | some a,some b=>(eqV P d e a b).getD false
 | _,_=>false
theorem Kz {d s:Nat} {e:TypeId} {xs ys:List At}:∀{n i:Nat} {r:Bool},Qi P (eqV P d) e s n i xs ys=some r→
  r=(List.range' i n).all (eqE P d e s xs ys)∧∀j∈List.range' i n,∃a b,xp P e xs (j*s)=some a∧xp P e ys (j*s)=some b∧eqV P d e a b=some (eqE P d e s xs ys j)
 | 0,i,r,h=>by simp only [Qi] at h;cases h;simp
 | n+1,i,r,h=>by
  simp only [Qi] at h
  split at h
  ·rename_i a b ha hb
   split at h
   ·rename_i r1 rs h1 h2
    cases h
    obtain ⟨g1,g2⟩:=Kz h2
    have he:eqE P d e s xs ys i=r1:=by simp [eqE,ha,hb,h1]
    rw [List.range'_succ]
    refine ⟨by simp [he,g1],fun j hj=> ?_⟩
    rcases List.mem_cons.1 hj with rfl | hj
    ·exact ⟨a,b,ha,hb,by rw [he];exact h1⟩
    ·exact g2 j hj
   ·cases h
  ·cases h
theorem YW (w:World):∀{d:Nat} {t:TypeId} {x y:V1} {b:Bool},eqV P d t x y=some b→(Op.equalIn d t (x.den E) (y.den E)).run P w = .ok b w
 | 0,t,x,y,b,h=>by simp [eqV] at h
 | d+1,t,x,y,b,h=>by
  unfold eqV at h
  unfold Op.equalIn
  split at h
  ·rename_i p q hu
   cases h
   simp [run_underlying hu,V1.den,At.den]
  ·rename_i k' k p k'' q hu
   split at h
   ·rename_i hk
    cases h
    have:=X3 hk
    subst this
    simp [run_underlying hu,V1.den,At.den]
   ·cases h
  ·rename_i fs xs ys hu
   split at h
   ·cases h
   ·rename_i hst
    obtain ⟨g1,g2⟩:=JH h
    simp only [Sem.run_bind,run_underlying hu,Result.andThen_ok,V1.den]
    have hprog:(program:Sem Program).run P w = .ok P w:=rfl
    simp only [hprog,Result.andThen_ok,hst,Bool.false_eq_true,if_false,Sem.run_bind]
    rw [←Array.forIn_toList,QR _ (eqF P d xs ys) w fs.toList (fun f hf=>by
     obtain ⟨hn,a,b',ha,hb,hab⟩:=g2 f hf
     have h1:=xk (E:=E) ha w
     have h2:=xk (E:=E) hb w
     have h3:=YW w hab
     simp only [ne_eq,hn,not_false_eq_true,if_true,Sem.run_bind,h1,Result.andThen_ok,h2,h3]
     cases eqF P d xs ys f <;> simp)]
    rw [g1]
    cases fs.toList.all (eqF P d xs ys) <;> simp
  ·rename_i n e xs ys hu
   split at h
   ·rename_i s hs
    obtain ⟨g1,g2⟩:=Kz h
    simp only [Sem.run_bind,run_underlying hu,Result.andThen_ok,V1.den,jD hs]
    rw [Std.Legacy.Range.forIn_eq_forIn_range',QR _ (eqE P d e s xs ys) w _ (fun j hj=>by
     obtain ⟨a,b',ha,hb,hab⟩:=g2 j (by simpa [Std.Legacy.Range.size] using hj)
     have h1:=xk (E:=E) ha w
     have h2:=xk (E:=E) hb w
     have h3:=YW w hab
     simp only [Sem.run_bind,h1,Result.andThen_ok,h2,h3]
     cases eqE P d e s xs ys j <;> simp)]
    rw [g1]
    simp only [Std.Legacy.Range.size,Nat.sub_zero,Nat.add_one_sub_one,Nat.div_one,Result.andThen_ok]
    cases (List.range' 0 n).all (eqE P d e s xs ys) <;> simp
   ·cases h
  ·rename_i hu
   cases h
   simp [run_underlying hu,V1.den,At.den]
  ·rename_i hu
   cases h
   simp [run_underlying hu,V1.den,At.den]
  ·rename_i hu
   cases h
   simp [run_underlying hu,V1.den,At.den]
  ·rename_i hu
   cases h
   simp [run_underlying hu,V1.den,At.den]
  ·rename_i hu
   cases h
   simp [run_underlying hu,V1.den,At.den]
  ·rename_i hu
   cases h
   simp [run_underlying hu,V1.den,At.den]
  ·rename_i hu
   cases h
   simp [run_underlying hu,V1.den,At.den]
  ·rename_i hu
   cases h
   simp [run_underlying hu,V1.den,At.den]
  ·cases h
theorem intOf?_spec {x:LV} {k:IntKind} {n:Int} (h:intOf? x=some (k,n)):x = .v (.one (.int k n)):=by
 unfold intOf? at h
 split at h
 ·cases h;rfl
 ·cases h
theorem QS {d:Nat} {t:TypeId} {x y:V1} {b:Bool} (h:eqV P d t x y=some b):
  (∃p q,x = .one (.bool p)∧y = .one (.bool q))∨(∃k p l q,x = .one (.int k p)∧y = .one (.int l q))∨(∃p q,x = .agg p∧y = .agg q)∨(∀E,(∃p q,x.den E = .pointer p∧y.den E = .pointer q)∨∃p n c q m d,x.den E = .slice p n c∧y.den E = .slice q m d):=by
 cases d with
 | zero=>simp [eqV] at h
 | succ d=>
  unfold eqV at h
  split at h
  ·exact .inl ⟨_,_,rfl,rfl⟩
  ·exact .inr (.inl ⟨_,_,_,_,rfl,rfl⟩)
  ·exact .inr (.inr (.inl ⟨_,_,rfl,rfl⟩))
  ·exact .inr (.inr (.inl ⟨_,_,rfl,rfl⟩))
  ·exact .inr (.inr (.inr fun E=> .inl ⟨_,_,rfl,rfl⟩))
  ·exact .inr (.inr (.inr fun E=> .inl ⟨_,_,rfl,rfl⟩))
  ·exact .inr (.inr (.inr fun E=> .inl ⟨_,_,rfl,rfl⟩))
  ·exact .inr (.inr (.inr fun E=> .inr ⟨_,_,_,_,_,_,rfl,rfl⟩))
  ·exact .inr (.inr (.inr fun E=> .inr ⟨_,_,_,_,_,_,rfl,rfl⟩))
  ·exact .inr (.inr (.inr fun E=> .inr ⟨_,_,_,_,_,_,rfl,rfl⟩))
  ·exact .inr (.inr (.inr fun E=> .inr ⟨_,_,_,_,_,_,rfl,rfl⟩))
  ·exact .inr (.inr (.inr fun E=> .inr ⟨_,_,_,_,_,_,rfl,rfl⟩))
  ·cases h
theorem z9 (P:Program):Q8 P:=by
 intro E w a op t x y xo yo kn d hx hy h
 unfold jnk at h
 split at h
 ·rename_i k p hp
  have hxe:=intOf?_spec hp
  split at h
  ·rename_i l q hq
   have hye:=intOf?_spec hq
   subst hxe hye
   have hpur:=jd3 (P:=P) (E:=E) (w:=w) t h
   refine ⟨hpur.wr,hpur.nw,fun hc=> ?_⟩
   have:=hpur.run hc
   simp only [LV.den,V1.den,At.den,Sem.run_bind]
   have hg:(eqGuard op t xo yo (.int k p) (.int l q)).run P w = .ok () w:=by
    unfold eqGuard
    cases op <;> simp
   rw [hg]
   exact this
  ·cases h
 ·rename_i hni
  split at h
  ·rename_i u hu
   split at h
   ·rename_i v hv
    have hxe:x = .v u:=by
     unfold v1Of? at hu
     split at hu
     ·cases hu;rfl
     ·cases hu
    have hye:y = .v v:=by
     unfold v1Of? at hv
     split at hv
     ·cases hv;rfl
     ·cases hv
    subst hxe hye
    have key:∀(r:Bool),P.eqGuardType P.depth t=false→eqV P 10000 t u v=some r→(op = .eql∨op = .neq)→
      (eqGuard op t xo yo (u.den E) (v.den E)).run P w = .ok () w∧(Op.equal t (u.den E) (v.den E)).run P w = .ok r w:=by
     intro r hg hr hop
     refine ⟨?_,YW w hr⟩
     unfold eqGuard
     rcases QS hr with ⟨p,q,rfl,rfl⟩ | ⟨k,p,l,q,rfl,rfl⟩ | ⟨p,q,rfl,rfl⟩ | hptr
     ·rcases hop with rfl | rfl <;> simp [V1.den,At.den]
     ·rcases hop with rfl | rfl <;> simp [V1.den,At.den]
     ·have hprog:(program:Sem Program).run P w = .ok P w:=rfl
      rcases hop with rfl | rfl <;> simp [V1.den,hprog,hg]
     ·rcases hptr E with ⟨p,q,e1,e2⟩ | ⟨p,n,c,q,m,d,e1,e2⟩
      ·rw [e1,e2]
       rcases hop with rfl | rfl <;> simp
      ·rw [e1,e2]
       rcases hop with rfl | rfl <;> simp
    unfold jko at h
    split at h
    ·split at h
     ·rename_i r hg hr
      refine jK h ?_
      obtain ⟨h1,h2⟩:=key r hg hr (.inl rfl)
      simp only [LV.den,Sem.run_bind,h1,Result.andThen_ok]
      rcases QS hr with ⟨p,q,rfl,rfl⟩ | ⟨k,p,l,q,rfl,rfl⟩ | ⟨p,q,rfl,rfl⟩ | hptr
      ·simp only [V1.den,At.den] at h2 ⊢
       simp only [binOp,Sem.run_bind,h2,Result.andThen_ok,Sem.run_pure]
      ·simp [intOf?] at hni
      ·simp only [V1.den] at h2 ⊢
       simp only [binOp,Sem.run_bind,h2,Result.andThen_ok,Sem.run_pure]
       rfl
      ·rcases hptr E with ⟨p,q,e1,e2⟩ | ⟨p,n,c,q,m,d,e1,e2⟩
       ·simp only [e1,e2] at h2 ⊢
        simp only [binOp,Sem.run_bind,h2,Result.andThen_ok,Sem.run_pure]
        rfl
       ·simp only [e1,e2] at h2 ⊢
        simp only [binOp,Sem.run_bind,h2,Result.andThen_ok,Sem.run_pure]
        rfl
     ·cases h
    ·split at h
     ·rename_i r hg hr
      refine jK h ?_
      obtain ⟨h1,h2⟩:=key r hg hr (.inr rfl)
      simp only [LV.den,Sem.run_bind,h1,Result.andThen_ok]
      rcases QS hr with ⟨p,q,rfl,rfl⟩ | ⟨k,p,l,q,rfl,rfl⟩ | ⟨p,q,rfl,rfl⟩ | hptr
      ·simp only [V1.den,At.den] at h2 ⊢
       simp only [binOp,Sem.run_bind,h2,Result.andThen_ok,Sem.run_pure]
      ·simp [intOf?] at hni
      ·simp only [V1.den] at h2 ⊢
       simp only [binOp,Sem.run_bind,h2,Result.andThen_ok,Sem.run_pure]
       rfl
      ·rcases hptr E with ⟨p,q,e1,e2⟩ | ⟨p,n,c,q,m,d,e1,e2⟩
       ·simp only [e1,e2] at h2 ⊢
        simp only [binOp,Sem.run_bind,h2,Result.andThen_ok,Sem.run_pure]
        rfl
       ·simp only [e1,e2] at h2 ⊢
        simp only [binOp,Sem.run_bind,h2,Result.andThen_ok,Sem.run_pure]
        rfl
     ·cases h
    ·cases h
   ·cases h
  ·cases h
end
end Go.Lr

/- The local evaluator: from a run to what a call does; summaries. -/
namespace Go.Lr
open Go.RowKit
def E0:Env:=fun _=>Loc.at 0 0
def noP:Nat→Bool:=fun _=>false
theorem kg {E:Env} {v:LV} (h:v.ok noP=true):v.den E=v.den E0:=LV.den_congr (p:=noP) (fun i hi=>by cases hi) h
theorem jQ {E:Env} {l:List LV} (h:∀v∈l,v.ok noP=true):l.map (LV.den E)=l.map (LV.den E0):=List.map_congr_left fun v hv=>kg (h v hv)
theorem qU {E:Env} {l:List At} (h:okL noP l=true):l.map (At.den E)=l.map (At.den E0):=jX (p:=noP) (fun i hi=>by cases hi) h
theorem jo {n:Nat}:∀i,noP i=true→below n i=true:=fun i hi=>by cases hi
structure Sound (P:Program) (S:FuncId→Option SumK):Prop where
 sums:AllOK P S
 mix:P.follows .mixedOrders=true
 ng:∀(f:FuncId) (fn:Func),P.funcs[f]? = some fn→fn.name≠ "runtime.NumGoroutine"
def jR (l:List LV):Bool:=
 match l with
 | []=>true
 | v::l=>match v.ok noP with
  | true=>jR l
  | false=>false
theorem plainVs_iff:∀{l:List LV},jR l=true↔∀v∈l,v.ok noP=true
 | []=>by simp [jR]
 | v::l=>by
  simp only [jR,List.mem_cons,forall_eq_or_imp]
  cases h:v.ok noP <;> simp [plainVs_iff (l:=l)]
section
variable {P:Program} {S:FuncId→Option SumK} {z:Md}
theorem zf {n:Nat} {f:FuncId} {args:List LV} {m:Mem} {nb:Nat} {dec:List (Option Bool)} {v:LV} {m':Mem} {nb':Nat} {cs:List (Bool×Bool)} (h:jG P S z n f args m nb dec=some (v,m',nb',cs)):
  ∃s',exec P S z n (.body f args) ⟨.nil,0,m,nb,dec,[],[]⟩=some (.val v,s')∧s'.mem=m'∧s'.nb=nb'∧s'.cs=cs:=by
 unfold jG at h
 split at h
 ·rename_i u s hs
  cases h
  exact ⟨s,hs,rfl,rfl,rfl⟩
 ·cases h
theorem KA (hs:Sound P S) {n:Nat} {f:FuncId} {args:List LV} {dec:List (Option Bool)} {v:LV} {m':Mem} {nb':Nat} {cs:List (Bool×Bool)} (h:jG P S z n f args [] 0 dec=some (v,m',nb',cs))
  (hc:∀c∈cs,c.1=c.2) (ha:jR args=true) (hv:v.ok noP=true) (w:World):
  Calls P f (args.map (LV.den E0)).toArray w fun e w'=>e = .returned (v.den E0)∧Below w.heap.size w w':=by
 obtain ⟨s',h1,h2,h3,h4⟩:=zf h
 have ha':=plainVs_iff.1 ha
 obtain ⟨v',b1,b2,b3,b4,b5,b6,b7,b8⟩:=(ki (z9 P) hs.sums hs.mix hs.ng n).2.2.2 f args _ _ s' h1 (fun i b hb=>by simp [getM] at hb) trivial (fun u hu=>LV.ok_mono jo (ha' u hu))
 cases b1
 have:=b8 (by rw [Good,h4];exact hc) E0 w ⟨⟨fun i b hb=>by simp [getM] at hb,fun i j hi=>by simp [getM] at hi⟩,fun i b hb=>by simp [getM] at hb,trivial⟩
 refine this.mono fun e w' he=> ?_
 obtain ⟨E',rfl,_,hx⟩:=he
 refine ⟨by rw [kg hv],hx.os,hx.tape,hx.output,hx.size,fun k hk=>hx.frame k hk fun i hi=>by simp [getM] at hi⟩
def Own (P:Program) (f:FuncId):Prop:=∃fn,P.funcs[f]? = some fn∧fn.name≠ "runtime.NumGoroutine"∧fn.body.isSome
theorem jl (hs:Sound P S) {f:FuncId} {fn:Func} (h:P.funcs[f]? = some fn) (hb:fn.body.isSome=true):Own P f:=⟨fn,h,hs.ng f fn h,hb⟩
theorem X1 {w w':World} {E:Env} {g:Nat→Option Blk} {nb:Nat} {v:LV} {cs:List (Bool×Bool)} (hr:Rel E g w) (hb:Below w.heap.size w w'):Post w E g nb ⟨v,[],[],[],cs⟩ E w':=by
 refine ⟨fun _ _=>rfl,⟨fun i b h=> ?_,hr.inj⟩,hb.os,hb.tape,hb.output,hb.size,fun k hk _=>hb.block k hk,fun i h1 h2=>by simp at h2;omega⟩
 obtain ⟨r,h1,h2,h3⟩:=hr.blk i b h
 exact ⟨r,by rw [hb.block _ (Array.getElem?_eq_some_iff.1 h1).1];exact h1,h2,h3⟩
def jq (F:List LV→Option (LV×List (Bool×Bool))):Sum:=fun args=>
 match jR args with
 | true=>match F args with
  | some (v,cs)=>match v.ok noP with
   | true=>some ⟨[],[],fun _ _ _=>some ⟨v,[],[],cs⟩⟩
   | false=>none
  | none=>none
 | false=>none
theorem xi {f:FuncId} {F:List LV→Option (LV×List (Bool×Bool))}
  (h:∀args v cs,F args=some (v,cs)→(∀c∈cs,c.1=c.2)→∀w,CallOK P f (args.map (LV.den E0)).toArray w fun u w'=>u=v.den E0∧Below w.heap.size w w'):SumOK P f (jq F):=by
 intro args t g nb p rdB wrB ans ws E w hs hr hw _ hgo hz hc hrel hg hargs hn
 unfold jq at hs
 split at hs
 ·rename_i hp
  split at hs
  ·rename_i v cs hF
   split at hs
   ·rename_i hv
    cases hs
    simp only [Option.some.injEq] at hgo
    subst hgo
    simp only [Xi] at hz
    cases hz
    rw [jQ (plainVs_iff.1 hp)]
    refine (h args v cs hF hc w).imp (fun ⟨fn,h1,h2,h3,h4⟩=>⟨fn,h1,h2,h3,h4.mono ?_⟩) (fun ⟨u,w',h1,h2⟩=>⟨u,w',h1,E, ?_,X1 hrel h2.2⟩)
    ·rintro e w' ⟨u,rfl,rfl,hb⟩
     exact ⟨_,rfl,E,(kg hv).symm,X1 hrel hb⟩
    ·rw [h2.1];exact (kg hv).symm
   ·cases hs
  ·cases hs
 ·cases hs
theorem kN {f:FuncId} {args:Array Value} {w:World} {v:Value} {B:World→World→Prop} (ho:Own P f) (h:Calls P f args w fun e w'=>e = .returned v∧B w w'):CallOK P f args w fun u w'=>u=v∧B w w':=by
 obtain ⟨fn,h1,h2,h3⟩:=ho
 exact .inl ⟨fn,h1,h2,h3,h.mono fun e w' he=>⟨v,he.1,rfl,he.2⟩⟩
structure Turned (b:Nat) (o:Obj) (w w':World):Prop where
 os:w'.os=w.os
 tape:w'.tape=w.tape
 output:w'.output=w.output
 size:w.heap.size≤w'.heap.size
 this:w'.heap[b]? = some o
 block:∀k,k<w.heap.size→k≠b→w'.heap[k]? = w.heap[k]?
def flag (ty:TypeId) (h:Bool):Blk:=⟨ty,(0,0),0,[.bool h]⟩
def JI (L:Loc) (ty:TypeId) (h:Bool):Obj:= .cells (L.pre++[Value.bool h]++[]++L.suf).toArray (L.ty.getD ty) (0,0)
abbrev Loc.ptr (L:Loc):Value:= .pointer (some ⟨L.blk,L.pre.length,none⟩)
theorem X2 (hs:Sound P S) {n:Nat} {f:FuncId} {args:List LV} {dec:List (Option Bool)} {v:LV} {m':Mem} {nb':Nat} {cs:List (Bool×Bool)} {ty:TypeId} {h h':Bool}
  (hrun:jG P S z n f (.v (.one (.ptr 0 0))::args) [(0,flag ty h)] 1 dec=some (v,m',nb',cs)) (hm:getM m' 0=some (flag ty h')) (hc:∀c∈cs,c.1=c.2) (ha:jR args=true) (hv:v.ok noP=true)
  (w:World) (L:Loc) (hb:w.heap[L.blk]? = some (JI L ty h)):
  Calls P f (L.ptr::args.map (LV.den E0)).toArray w fun e w'=>e = .returned (v.den E0)∧Turned L.blk (JI L ty h') w w':=by
 obtain ⟨s',h1,h2,h3,h4⟩:=zf hrun
 have ha':=plainVs_iff.1 ha
 have hget:∀i c,getM [(0,flag ty h)] i=some c→i=0∧c=flag ty h:=by
  intro i c hc
  rw [jm] at hc
  by_cases hi:i=0
  ·rw [if_pos hi] at hc;cases hc;exact ⟨hi,rfl⟩
  ·rw [if_neg hi] at hc;simp [getM] at hc
 obtain ⟨v',b1,b2,b3,b4,b5,b6,b7,b8⟩:=(ki (z9 P) hs.sums hs.mix hs.ng n).2.2.2 f (.v (.one (.ptr 0 0))::args) _ _ s' h1 (fun i c hc=>by
  obtain ⟨rfl,rfl⟩:=hget i c hc
  exact ⟨Nat.zero_lt_one,rfl⟩) ⟨rfl,trivial⟩ (fun u hu=>by
  rcases List.mem_cons.1 hu with rfl | hu
  ·rfl
  ·exact LV.ok_mono jo (ha' u hu))
 cases b1
 have hmr:MRel (fun _=>L) ⟨.nil,0,[(0,flag ty h)],1,dec,[],[]⟩ w:=by
  refine ⟨⟨fun i c hc=> ?_,fun i j hi hj _=> ?_⟩,fun i c hc=> ?_,⟨rfl,trivial⟩⟩
  ·obtain ⟨rfl,rfl⟩:=hget i c hc
   exact ⟨[],hb,fun _=>rfl,fun hne=>absurd rfl hne⟩
  ·obtain ⟨c,hc⟩:=Option.isSome_iff_exists.1 hi
   obtain ⟨d,hd⟩:=Option.isSome_iff_exists.1 hj
   rw [(hget i c hc).1,(hget j d hd).1]
  ·obtain ⟨rfl,rfl⟩:=hget i c hc
   exact ⟨Nat.zero_lt_one,rfl⟩
 have:=b8 (by rw [Good,h4];exact hc) (fun _=>L) w hmr
 have hargs:((LV.v (V1.one (At.ptr 0 0)))::args).map (LV.den fun _=>L)=L.ptr::args.map (LV.den E0):=by
  rw [List.map_cons,jQ ha']
  simp [LV.den,V1.den,At.den]
 rw [hargs] at this
 refine this.mono fun e w' he=> ?_
 obtain ⟨E',rfl,hmr',hx⟩:=he
 refine ⟨by rw [kg hv],hx.os,hx.tape,hx.output,hx.size, ?_,fun k hk hne=>hx.frame k hk fun i hi he=> ?_⟩
 ·obtain ⟨r,g1,g2,_⟩:=hmr'.rel.blk 0 (flag ty h') (by rw [h2];exact hm)
  rw [hx.agree 0 (by show 0<1;omega)] at g1
  rw [g1,g2 rfl]
  rfl
 ·exact hne he.symm
def qf (L:Loc) (E:Env) (t:TypeId) (l:List At) (r:List Value) (o:Nat):Loc:=⟨L.blk,0,L.pre++(l.take o).map (At.den E),(l.drop (o+1)).map (At.den E)++r++L.suf,some (L.ty.getD t)⟩
theorem xj {L:Loc} {E:Env} {t:TypeId} {l:List At} {r:List Value} {o:Nat} (ty:TypeId) {h:Bool} (hl:o<l.length):
  JI (qf L E t l r o) ty h = .cells (L.pre++(l.set o (.bool h)).map (At.den E)++r++L.suf).toArray (L.ty.getD t) (0,0):=by
 unfold JI qf
 have e:l.set o (.bool h)=l.take o++ .bool h::l.drop (o+1):=by rw [List.set_eq_take_append_cons_drop,if_pos hl]
 rw [e]
 simp [At.den]
theorem YX {l:List At} {o:Nat} {x:At} (h:atL l o=some x):l.set o x=l:=by
 rw [zJ] at h
 obtain ⟨hl,he⟩:=List.getElem?_eq_some_iff.1 h
 rw [←he];exact List.set_getElem_self hl
theorem QT {w w':World} {E:Env} {g:Nat→Option Blk} {nb c o:Nat} {v:LV} {t ty:TypeId} {es:Nat} {l:List At} {r:List Value} {h':Bool} (hr:Rel E g w) (hc:g c=some ⟨t,(0,0),es,l⟩) (ho:o<l.length)
  (hr1:es=0→r=[]) (hr2:es≠0→l.length+r.length=(E c).2*es) (ht:Turned (E c).1 (JI (qf (E c) E t l r o) ty h') w w'):
  Post w E g nb ⟨v,[(c,some ⟨t,(0,0),es,l.set o (.bool h')⟩)],[],[],[]⟩ E w':=by
 refine ⟨fun _ _=>rfl,⟨fun i b hb=> ?_,fun i j hi hj he=> ?_⟩,ht.os,ht.tape,ht.output,ht.size,fun k hk hne=>ht.block k hk (fun e=>hne c (by simp [hc]) e.symm),fun i h1 h2=>by simp at h2;omega⟩
 ·simp only [nwG,wrG] at hb
  by_cases hi:i=c
  ·subst hi
   rw [if_pos rfl] at hb
   cases hb
   refine ⟨r, ?_,hr1,fun hne=> ?_⟩
   ·rw [ht.this,xj ty ho]
   ·show (l.set o _).length+_=_
    rw [List.length_set];exact hr2 hne
  ·rw [if_neg hi] at hb
   obtain ⟨r,h1,h2,h3⟩:=hr.blk i b hb
   refine ⟨r, ?_,h2,h3⟩
   rw [ht.block _ (Array.getElem?_eq_some_iff.1 h1).1 (fun e=>hi (hr.inj i c (by simp [hb]) (by simp [hc]) e))]
   exact h1
 ·simp only [nwG,wrG] at hi hj
  refine hr.inj i j ?_ ?_ he
  ·by_cases h1:i=c
   ·rw [h1];simp [hc]
   ·simpa [if_neg h1] using hi
  ·by_cases h1:j=c
   ·rw [h1];simp [hc]
   ·simpa [if_neg h1] using hj
def js (ty:TypeId) (F:List LV→Bool→Option (LV×Bool×List (Bool×Bool))):Sum:=fun args=>
 match args with
 | .v (.one (.ptr c o))::rest=>match jR rest with
  | true=>some ⟨[],[c],fun _ wB _=>match wB with
   | [⟨t,(0,0),es,l⟩]=>match atL l o with
    | some (.bool h)=>match F rest h with
     | some (v,h',cs)=>match v.ok noP with
      | true=>some ⟨v,[⟨t,(0,0),es,l.set o (.bool h')⟩],[],cs⟩
      | false=>none
     | none=>none
    | _=>none
   | _=>none⟩
  | false=>none
 | _=>none
theorem JJ {f:FuncId} {ty:TypeId} {F:List LV→Bool→Option (LV×Bool×List (Bool×Bool))}
  (h:∀args hb v h' cs,F args hb=some (v,h',cs)→(∀c∈cs,c.1=c.2)→jR args=true→∀(w:World) (L:Loc),w.heap[L.blk]? = some (JI L ty hb)→
   CallOK P f (L.ptr::args.map (LV.den E0)).toArray w fun u w'=>u=v.den E0∧Turned L.blk (JI L ty h') w w'):SumOK P f (js ty F):=by
 intro args t g nb p rdB wrB ans ws E w hs hr hw _ hgo hz hc hrel hg hargs hn
 unfold js at hs
 split at hs
 ·rename_i c o rest
  split at hs
  ·rename_i hp
   cases hs
   simp only at hgo hw
   split at hgo
   ·rename_i t' es l
    split at hgo
    ·rename_i hb hat
     split at hgo
     ·rename_i v h' cs hF
      split at hgo
      ·rename_i hv
       cases hgo
       simp only [jz] at hw
       split at hw
       ·rename_i k r hk hr'
        cases hr'
        cases hw
        simp only [Xi] at hz
        cases hz
        obtain ⟨r',g1,g2,g3⟩:=hrel.blk c _ hk
        have hlt:o<l.length:=jal hat
        have hcell:w.heap[(qf (E c) E t' l r' o).blk]? = some (JI (qf (E c) E t' l r' o) ty hb):=by
         rw [xj ty hlt,YX hat];exact g1
        have hargs':((LV.v (V1.one (At.ptr c o)))::rest).map (LV.den E)=(qf (E c) E t' l r' o).ptr::rest.map (LV.den E0):=by
         rw [List.map_cons,jQ (plainVs_iff.1 hp)]
         have e:(qf (E c) E t' l r' o).pre.length=o+(E c).pre.length:=by
          unfold qf;simp;omega
         show _=Value.pointer (some ⟨(E c).blk,(qf (E c) E t' l r' o).pre.length,none⟩)::_
         rw [e];rfl
        rw [hargs']
        refine (h rest hb v h' cs hF hc hp w (qf (E c) E t' l r' o) hcell).imp (fun ⟨fn,h1,h2,h3,h4⟩=>⟨fn,h1,h2,h3,h4.mono ?_⟩) (fun ⟨u,w',h1,h2⟩=>⟨u,w',h1,E, ?_,QT hrel hk hlt g2 g3 h2.2⟩)
        ·rintro e w' ⟨u,rfl,rfl,ht⟩
         exact ⟨_,rfl,E,(kg hv).symm,QT hrel hk hlt g2 g3 ht⟩
        ·rw [h2.1];exact (kg hv).symm
       ·cases hw
      ·cases hgo
     ·cases hgo
    ·cases hgo
   ·cases hgo
  ·cases hs
 ·cases hs
def jrb:List LV→Option (LV×List (Bool×Bool))
 | [.v (.one (.int .u64 x)),.v (.one (.int .u64 y)),.v (.one (.int .u64 c))]=>
  some (.tup [.one (.int .u64 (u64 (x+y+c))),.one (.int .u64 ((x+y+c)/18446744073709551616))],[(decide (0≤x)&&(decide (0≤y)&&(decide (0≤c)&&decide (c≤1))),true)])
 | _=>none
def JK (x y c:Int):Int:=if x<y+c then 1 else 0
def jrc:List LV→Option (LV×List (Bool×Bool))
 | [.v (.one (.int .u64 x)),.v (.one (.int .u64 y)),.v (.one (.int .u64 c))]=>
  some (.tup [.one (.int .u64 (u64 (x - y - c))),.one (.int .u64 (JK x y c))],[(decide (0≤x)&&(decide (0≤y)&&(decide (y<18446744073709551616)&&(decide (0≤c)&&decide (c≤1)))),true)])
 | _=>none
theorem jir {f:FuncId} {fn:Func} (hf:P.funcs[f]? = some fn) (hname:(fn.name == "runtime.NumGoroutine")=false) (hb:fn.body.isNone=true) (hn:Extern.findNext fn=none) (he:Extern.find fn=some add64Entry):SumOK P f (jq jrb):=by
 refine xi fun args v cs hF hc w=> .inr ?_
 unfold jrb at hF
 split at hF
 ·rename_i x y c
  cases hF
  have hx:=hc _ (List.mem_singleton.2 rfl)
  simp only [Bool.and_eq_true,decide_eq_true_eq] at hx
  obtain ⟨h1,h2,h3,h4⟩:=hx
  refine ⟨_,w, ?_,rfl,.refl _ _⟩
  have:([LV.v (V1.one (At.int .u64 x)),.v (.one (.int .u64 y)),.v (.one (.int .u64 c))].map (LV.den E0)).toArray = #[.int .u64 x,.int .u64 y,.int .u64 c]:=rfl
  rw [this,run_callFunc_extern hf hname hb hn he,run_add64 x y c h1 h2 h3 h4]
  rfl
 ·cases hF
def jjT:Array Value→Sem Value:=fun args=>do
 let (x,y,b) ←Extern.MathBitsCarry.three "Sub64" args
 pure (Extern.MathBitsCarry.pair ((x+Extern.MathBitsCarry.m64 - y - b)%Extern.MathBitsCarry.m64) (if x<y+b then 1 else 0))
theorem jd0 (x y b:Nat) (hb:b≤1) (w:World):
  (jjT #[.int .u64 x,.int .u64 y,.int .u64 b]).run P w =
   .ok (.tuple #[.int .u64 (((x+18446744073709551616 - y - b)%18446744073709551616:Nat):Int),.int .u64 ((if x<y+b then 1 else 0:Nat):Int)]) w:=by
 have:b=0∨b=1:=by omega
 rcases this with rfl | rfl <;> rfl
theorem jis {f:FuncId} {fn:Func} (hf:P.funcs[f]? = some fn) (hname:(fn.name == "runtime.NumGoroutine")=false) (hb:fn.body.isNone=true) (hn:Extern.findNext fn=none) (he:Extern.find fn=some jjT):SumOK P f (jq jrc):=by
 refine xi fun args v cs hF hc w=> .inr ?_
 unfold jrc at hF
 split at hF
 ·rename_i x y c
  cases hF
  have hx:=hc _ (List.mem_singleton.2 rfl)
  simp only [Bool.and_eq_true,decide_eq_true_eq] at hx
  obtain ⟨h1,h2,h2',h3,h4⟩:=hx
  obtain ⟨X,rfl⟩:=Int.eq_ofNat_of_zero_le h1
  obtain ⟨Y,rfl⟩:=Int.eq_ofNat_of_zero_le h2
  obtain ⟨C,rfl⟩:=Int.eq_ofNat_of_zero_le h3
  refine ⟨_,w, ?_,rfl,.refl _ _⟩
  have:([LV.v (V1.one (At.int .u64 (X:Int))),.v (.one (.int .u64 (Y:Int))),.v (.one (.int .u64 (C:Int)))].map (LV.den E0)).toArray = #[.int .u64 (X:Int),.int .u64 (Y:Int),.int .u64 (C:Int)]:=rfl
  rw [this,run_callFunc_extern hf hname hb hn he,jd0 X Y C (by omega)]
  have e1:(((X+18446744073709551616 - Y - C)%18446744073709551616:Nat):Int)=u64 ((X:Int) - Y - C):=by unfold u64;omega
  have e2:((if X<Y+C then 1 else 0:Nat):Int)=if (X:Int)<(Y:Int)+(C:Int) then 1 else 0:=by
   by_cases h:X<Y+C
   ·rw [if_pos h,if_pos (by omega)];rfl
   ·rw [if_neg h,if_neg (by omega)];rfl
  rw [e1,e2]
  rfl
 ·cases hF
end
end Go.Lr

/- The local evaluator: summaries that the evaluator makes itself. -/
namespace Go.Lr
open Go.RowKit
section
variable {P:Program} {S:FuncId→Option SumK} {z:Md}
def Ja (P:Program) (S:FuncId→Option SumK) (z:Md) (n:Nat) (f:FuncId):Sum:=jq fun args=>
 match jG P S z n f args [] 0 [] with
 | some (v,_,_,cs)=>some (v,cs)
 | none=>none
theorem xx {f:FuncId} {F:List LV→Option (LV×List (Bool×Bool))}
  (h:∀args v cs,F args=some (v,cs)→(∀c∈cs,c.1=c.2)→jR args=true→v.ok noP=true→∀w,CallOK P f (args.map (LV.den E0)).toArray w fun u w'=>u=v.den E0∧Below w.heap.size w w'):SumOK P f (jq F):=by
 intro args t g nb p rdB wrB ans ws E w hs hr hw hnd hgo hz hc hrel hg hargs hn
 refine xi (F:=fun a=>if jR a=true then (match F a with | some (v,cs)=>if v.ok noP=true then some (v,cs) else none | none=>none) else none) (fun args v cs hF hc w=> ?_) args t g nb p rdB wrB ans ws E w ?_ hr hw hnd hgo hz hc hrel hg hargs hn
 ·split at hF
  ·rename_i hp
   split at hF
   ·rename_i v' cs' hF'
    split at hF
    ·rename_i hv
     cases hF
     exact h args v cs hF' hc hp hv w
    ·cases hF
   ·cases hF
  ·cases hF
 ·unfold jq at hs ⊢
  cases hp:jR args with
  | false=>rw [hp] at hs;cases hs
  | true=>
   rw [hp] at hs
   simp only [hp,if_true] at hs ⊢
   cases hF:F args with
   | none=>rw [hF] at hs;cases hs
   | some q=>
    obtain ⟨v,cs⟩:=q
    rw [hF] at hs
    simp only at hs ⊢
    cases hv:v.ok noP with
    | false=>rw [hv] at hs;cases hs
    | true=>
     rw [hv] at hs
     simp only [if_true,hv]
     exact hs
theorem kI (hs:Sound P S) {n:Nat} {f:FuncId} (ho:Own P f):SumOK P f (Ja P S z n f):=by
 refine xx fun args v cs hF hc hp hv w=> ?_
 split at hF
 ·rename_i v' m' nb' cs' hrun
  cases hF
  exact kN ho (KA hs hrun hc hp hv w)
 ·cases hF
def jlR:LV→Option (Nat×LV)
 | .v (.one (.ptr b o))=>some (b,.v (.one (.ptr 0 o)))
 | .v (.one (.sl b o n c))=>some (b,.v (.one (.sl 0 o n c)))
 | _=>none
theorem jd1 {x y:LV} {b:Nat} (h:jlR x=some (b,y)) (E:Env):x.den E=y.den (fun _=>E b)∧y.ok (below 1)=true∧∀E',y.den E'=y.den fun _=>E' 0:=by
 unfold jlR at h
 split at h <;> first | (cases h;exact ⟨rfl,rfl,fun _=>rfl⟩) | cases h
def qY (P:Program) (S:FuncId→Option SumK) (z:Md) (n:Nat) (f:FuncId):Sum:=fun args=>
 match args with
 | x::rest=>match jlR x,jR rest with
  | some (b,y),true=>some ⟨[],[b],fun _ wB _=>match wB with
   | [k]=>match okL noP k.cells with
    | true=>match jG P S z n f (y::rest) [(0,k)] 1 [] with
     | some (v,m',_,cs)=>match getM m' 0 with
      | some k'=>match Nat.beq k'.es k.es,okL noP k'.cells,v.ok noP with
       | true,true,true=>some ⟨v,[k'],[],cs⟩
       | _,_,_=>none
      | none=>none
     | none=>none
    | false=>none
   | _=>none⟩
  | _,_=>none
 | []=>none
theorem jU (hs:Sound P S) {n:Nat} {f:FuncId} (ho:Own P f):SumOK P f (qY P S z n f):=by
 intro args t g nb p rdB wrB ans ws E w hs' hr hw _ hgo hz hc hrel hg hargs hn
 unfold qY at hs'
 split at hs'
 ·rename_i x rest
  split at hs'
  ·rename_i b y href hp
   cases hs'
   simp only at hgo hw
   split at hgo
   ·rename_i k
    split at hgo
    ·rename_i hk
     split at hgo
     ·rename_i v m' nb' cs hrun
      split at hgo
      ·rename_i k' hk'
       split at hgo
       ·rename_i hes hok' hv
        cases hgo
        simp only [jz] at hw
        split at hw
        ·rename_i q r hq hr'
         cases hr'
         cases hw
         simp only [Xi] at hz
         cases hz
         rw [kX] at hes
         have hes':k'.es=k.es:=by simpa using hes
         obtain ⟨r1,r2,r3⟩:=jd1 href E
         have hp':=plainVs_iff.1 hp
         obtain ⟨s',h1,h2,h3,h4⟩:=zf hrun
         have hget:∀i c,getM [(0,k)] i=some c→i=0∧c=k:=by
          intro i c hc
          rw [jm] at hc
          by_cases hi:i=0
          ·rw [if_pos hi] at hc;cases hc;exact ⟨hi,rfl⟩
          ·rw [if_neg hi] at hc;simp [getM] at hc
         obtain ⟨v',b1,b2,b3,b4,b5,b6,b7,b8⟩:=(ki (z9 P) hs.sums hs.mix hs.ng n).2.2.2 f (y::rest) _ _ s' h1 (fun i c hc=>by
          obtain ⟨rfl,rfl⟩:=hget i c hc
          exact ⟨Nat.zero_lt_one,jn jo hk⟩) ⟨rfl,trivial⟩ (fun u hu=>by
          rcases List.mem_cons.1 hu with rfl | hu
          ·exact r2
          ·exact LV.ok_mono jo (hp' u hu))
         cases b1
         obtain ⟨r0,g1,g2,g3⟩:=hrel.blk b k hq
         have hmr:MRel (fun _=>E b) ⟨.nil,0,[(0,k)],1,[],[],[]⟩ w:=by
          refine ⟨⟨fun i c hc=> ?_,fun i j hi hj _=> ?_⟩,fun i c hc=> ?_,⟨rfl,trivial⟩⟩
          ·obtain ⟨rfl,rfl⟩:=hget i c hc
           exact ⟨r0,by rw [qU hk] at g1 ⊢;exact g1,g2,g3⟩
          ·obtain ⟨c,hc⟩:=Option.isSome_iff_exists.1 hi
           obtain ⟨d,hd⟩:=Option.isSome_iff_exists.1 hj
           rw [(hget i c hc).1,(hget j d hd).1]
          ·obtain ⟨rfl,rfl⟩:=hget i c hc
           exact ⟨Nat.zero_lt_one,jn jo hk⟩
         have hcall:=b8 (by rw [Good,h4];exact hc) (fun _=>E b) w hmr
         have hargs':((y::rest).map (LV.den fun _=>E b))=(x::rest).map (LV.den E):=by
          rw [List.map_cons,List.map_cons,←r1,jQ hp',jQ (E:=E) hp']
         rw [hargs'] at hcall
         obtain ⟨fn,f1,f2,f3⟩:=ho
         refine .inl ⟨fn,f1,f2,f3,hcall.mono ?_⟩
         rintro e w' ⟨E',rfl,hmr',hx⟩
         refine ⟨_,rfl,E,by rw [kg hv,kg (E:=E) hv], ?_⟩
         obtain ⟨r',q1,q2,q3⟩:=hmr'.rel.blk 0 k' (by rw [h2];exact hk')
         rw [hx.agree 0 (by show 0<1;omega)] at q1 q3
         have hframe:∀j,j<w.heap.size→j≠(E b).1→w'.heap[j]? = w.heap[j]? :=fun j hj hne=>hx.frame j hj fun i hi he=>hne he.symm
         refine ⟨fun _ _=>rfl,⟨fun i c hic=> ?_,fun i j hi hj he=> ?_⟩,hx.os,hx.tape,hx.output,hx.size,fun j hj hne=>hframe j hj fun e=>hne b (by simp [hq]) e.symm,fun i h1 h2=>by simp at h2;omega⟩
         ·simp only [nwG,wrG] at hic
          by_cases hi:i=b
          ·subst hi
           rw [if_pos rfl] at hic
           cases hic
           exact ⟨r',by rw [qU hok'] at q1 ⊢;exact q1,q2,q3⟩
          ·rw [if_neg hi] at hic
           obtain ⟨r,u1,u2,u3⟩:=hrel.blk i c hic
           refine ⟨r, ?_,u2,u3⟩
           rw [hframe _ (Array.getElem?_eq_some_iff.1 u1).1 (fun e=>hi (hrel.inj i b (by simp [hic]) (by simp [hq]) e))]
           exact u1
         ·simp only [nwG,wrG] at hi hj
          refine hrel.inj i j ?_ ?_ he
          ·by_cases h1:i=b
           ·rw [h1];simp [hq]
           ·simpa [if_neg h1] using hi
          ·by_cases h1:j=b
           ·rw [h1];simp [hq]
           ·simpa [if_neg h1] using hj
        ·cases hw
       ·cases hgo
      ·cases hgo
     ·cases hgo
    ·cases hgo
   ·cases hgo
  ·cases hs'
 ·cases hs'
def more (S:FuncId→Option SumK) (f:FuncId) (s:Sum):FuncId→Option SumK:=fun g=>
 match Nat.beq g f with
 | true=>some (.old s)
 | false=>S g
def moreP (S:FuncId→Option SumK) (f:FuncId) (s:List LV→List (Nat×LV)→Option Tch):FuncId→Option SumK:=fun g=>
 match Nat.beq g f with
 | true=>some (.peek s)
 | false=>S g
theorem Sound.moreP (h:Sound P S) {f:FuncId} {s:List LV→List (Nat×LV)→Option Tch} (hs:KD P f s):Sound P (Go.Lr.moreP S f s):=by
 refine ⟨fun g t hg=> ?_,h.mix,h.ng⟩
 unfold Go.Lr.moreP at hg
 split at hg
 ·rename_i he
  cases hg
  rw [kX] at he
  have:g=f:=by simpa using he
  subst this
  exact hs
 ·exact h.sums g t hg
theorem Sound.more (h:Sound P S) {f:FuncId} {s:Sum} (hs:SumOK P f s):Sound P (Go.Lr.more S f s):=by
 refine ⟨fun g t hg=> ?_,h.mix,h.ng⟩
 unfold Go.Lr.more at hg
 split at hg
 ·rename_i he
  cases hg
  rw [kX] at he
  have:g=f:=by simpa using he
  subst this
  exact hs
 ·exact h.sums g t hg
theorem Sound.none (hmix:P.follows .mixedOrders=true) (hng:∀(f:FuncId) (fn:Func),P.funcs[f]? = some fn→fn.name≠ "runtime.NumGoroutine"):Sound P (fun _=>Option.none):=
 ⟨(fun f s h=>by cases h),hmix,hng⟩
theorem jd2 (hs:Sound P S) {n:Nat} {f:FuncId} {args:List LV} {dec:List (Option Bool)} {v:LV} {cs:List (Bool×Bool)} (h:(jG P S z n f args [] 0 dec).map (fun r=>(r.1,r.2.2.2))=some (v,cs))
  (hc:∀c∈cs,c.1=c.2) (ha:jR args=true) (hv:v.ok noP=true) (w:World):
  Calls P f (args.map (LV.den E0)).toArray w fun e w'=>e = .returned (v.den E0)∧Below w.heap.size w w':=by
 cases hr:jG P S z n f args [] 0 dec with
 | none=>rw [hr] at h;cases h
 | some q=>
  obtain ⟨v',m',nb',cs'⟩:=q
  rw [hr] at h
  cases h
  exact KA hs hr hc ha hv w
end
end Go.Lr

/- The local evaluator: contracts of methods on a flag, off their runs. -/
namespace Go.Lr
open Go.RowKit
def A0:LV:= .v (.one (.ptr 0 0))
section
variable {P:Program} {S:FuncId→Option SumK} {z:Md}
theorem jbE (hs:Sound P S) {n:Nat} {f:FuncId} {args:List LV} {dec:List (Option Bool)} {v:LV} {cs:List (Bool×Bool)} {ty:TypeId} {h h':Bool}
  (hrun:(jG P S z n f (A0::args) [(0,flag ty h)] 1 dec).map (fun r=>(r.1,getM r.2.1 0,r.2.2.2))=some (v,some (flag ty h'),cs)) (hc:∀c∈cs,c.1=c.2) (ha:jR args=true) (hv:v.ok noP=true)
  (w:World) (b:Loc) (hb:w.heap[b.blk]? = some (JI b ty h)):
  Calls P f (b.ptr::args.map (LV.den E0)).toArray w fun e w'=>e = .returned (v.den E0)∧Turned b.blk (JI b ty h') w w':=by
 cases hr:jG P S z n f (A0::args) [(0,flag ty h)] 1 dec with
 | none=>rw [hr] at hrun;cases hrun
 | some q=>
  obtain ⟨v',m',nb',cs'⟩:=q
  rw [hr] at hrun
  simp only [Option.map_some,Option.some.injEq,Prod.mk.injEq] at hrun
  obtain ⟨rfl,hm,rfl⟩:=hrun
  exact X2 hs hr hm hc ha hv w b hb
theorem jF (hs:Sound P S) {f:FuncId} (ho:Own P f) {ty:TypeId} {F:List LV→Bool→Option (LV×Bool×List (Bool×Bool))}
  (h:∀args hb v h' cs,F args hb=some (v,h',cs)→(∀c∈cs,c.1=c.2)→v.ok noP=true∧∃(n:Nat) (dec:List (Option Bool)) (cs':List (Bool×Bool)),
   (jG P S z n f (A0::args) [(0,flag ty hb)] 1 dec).map (fun r=>(r.1,getM r.2.1 0,r.2.2.2))=some (v,some (flag ty h'),cs')∧∀c∈cs',c.1=c.2):SumOK P f (js ty F):=by
 refine JJ fun args hb v h' cs hF hc hp w b hbk=> ?_
 obtain ⟨hv,n,dec,cs',hrun,hc'⟩:=h args hb v h' cs hF hc
 exact kN ho (jbE hs hrun hc' hp hv w b hbk)
theorem jC (hs:Sound P S) {f:FuncId} (ho:Own P f) {F:List LV→Option (LV×List (Bool×Bool))}
  (h:∀args v cs,F args=some (v,cs)→(∀c∈cs,c.1=c.2)→∃(n:Nat) (dec:List (Option Bool)) (cs':List (Bool×Bool)),
   (jG P S z n f args [] 0 dec).map (fun r=>(r.1,r.2.2.2))=some (v,cs')∧∀c∈cs',c.1=c.2):SumOK P f (jq F):=by
 refine xx fun args v cs hF hc hp hv w=> ?_
 obtain ⟨n,dec,cs',hrun,hc'⟩:=h args v cs hF hc
 exact kN ho (jd2 hs hrun hc' hp hv w)
end
end Go.Lr

/- Small laws for the printed proofs. -/
namespace Go.Lr
theorem jd:∀c∈([]:List (Bool×Bool)),c.1=c.2:=fun _ h=>nomatch h
theorem ja {a b:Bool} {l:List (Bool×Bool)} (h:a=b) (hl:∀c∈l,c.1=c.2):∀d∈(a,b)::l,d.1=d.2:=fun d hd=>by
 cases hd with
 | head=>exact h
 | tail _ h=>exact hl d h
theorem jt {a b:Bool} {l:List (Bool×Bool)} (h:∀c∈(a,b)::l,c.1=c.2):a=b:=h (a,b) (.head _)
theorem jg {c:Bool×Bool} {l:List (Bool×Bool)} (h:∀d∈c::l,d.1=d.2):∀d∈l,d.1=d.2:=fun d hd=>h d (.tail _ hd)
theorem ji (b:Bool):b=true∨b=false:=by cases b <;> simp
theorem jy {α:Type} {c:Bool} {a b:α} (h:c=true):(bif c then a else b)=a:=by subst h;rfl
theorem jv {α:Type} {c:Bool} {a b:α} (h:c=false):(bif c then a else b)=b:=by subst h;rfl
end Go.Lr

/- The local evaluator: a summary told in other words. -/
namespace Go.Lr
open Go.RowKit
def ju5 (F:List LV→Bool→Option (LV×Bool×List (Bool×Bool))) (c o:Nat) (rest:List LV):Tch:=⟨[],[c],fun _ wB _=>match wB with
 | [⟨t,(0,0),es,l⟩]=>match atL l o with
  | some (.bool h)=>match F rest h with
   | some (v,h',cs)=>match v.ok noP with
    | true=>some ⟨v,[⟨t,(0,0),es,l.set o (.bool h')⟩],[],cs⟩
    | false=>none
   | none=>none
  | _=>none
 | _=>none⟩
section
variable {P:Program} {S:FuncId→Option SumK}
theorem SumOK.pure_re {f:FuncId} {F F':List LV→Option (LV×List (Bool×Bool))} (h:SumOK P f (jq F))
  (hi:∀args v cs,F' args=some (v,cs)→(∀c∈cs,c.1=c.2)→∃cs',F args=some (v,cs')∧∀c∈cs',c.1=c.2):SumOK P f (jq F'):=by
 intro args t g nb p rdB wrB ans ws E w hs hr hw hnd hgo hz hc hrel hg hargs hn
 unfold jq at hs
 split at hs
 ·rename_i hp
  split at hs
  ·rename_i v cs hF
   split at hs
   ·rename_i hv
    cases hs
    simp only [Option.some.injEq] at hgo
    subst hgo
    obtain ⟨cs',h1,h2⟩:=hi args v cs hF hc
    refine h args ⟨[],[],fun _ _ _=>some ⟨v,[],[],cs'⟩⟩ g nb p rdB wrB ⟨v,[],[],cs'⟩ ws E w ?_ hr hw hnd rfl hz h2 hrel hg hargs hn
    unfold jq
    rw [hp,h1]
    simp only [hv]
   ·cases hs
  ·cases hs
 ·cases hs
theorem SumOK.acc_re {f:FuncId} {ty:TypeId} {F F':List LV→Bool→Option (LV×Bool×List (Bool×Bool))} (h:SumOK P f (js ty F))
  (hi:∀args hb v h' cs,F' args hb=some (v,h',cs)→(∀c∈cs,c.1=c.2)→∃cs',F args hb=some (v,h',cs')∧∀c∈cs',c.1=c.2):SumOK P f (js ty F'):=by
 intro args t g nb p rdB wrB ans ws E w hs hr hw hnd hgo hz hc hrel hg hargs hn
 unfold js at hs
 split at hs
 ·rename_i c o rest
  split at hs
  ·rename_i hp
   cases hs
   simp only at hgo hw hr hz
   split at hgo
   ·rename_i t' es l
    split at hgo
    ·rename_i hb hat
     split at hgo
     ·rename_i v h' cs hF
      split at hgo
      ·rename_i hv
       cases hgo
       obtain ⟨cs',h1,h2⟩:=hi rest hb v h' cs hF hc
       refine h (.v (.one (.ptr c o))::rest) (ju5 F c o rest) g nb p rdB _ ⟨v,[⟨t',(0,0),es,l.set o (.bool h')⟩],[],cs'⟩ ws E w (by unfold js;simp only [hp];rfl) hr hw hnd ?_ hz h2 hrel hg hargs hn
       simp only [ju5,hat,h1,hv]
      ·cases hgo
     ·cases hgo
    ·cases hgo
   ·cases hgo
  ·cases hs
 ·cases hs
end
theorem jM {b:Bool} {l:List (Bool×Bool)}:(∀c∈(b,true)::l,c.1=c.2)↔b=true∧∀c∈l,c.1=c.2:=by simp
theorem kT {b:Bool} {l:List (Bool×Bool)}:(∀c∈(b,false)::l,c.1=c.2)↔b=false∧∀c∈l,c.1=c.2:=by simp
end Go.Lr

/- The local evaluator, piece by piece: from one known state to the next; loops by induction. -/
namespace Go.Lr
open Go.RowKit
def jcc:Nat→(Nat→LV)→Tr
 | 0,_=> .nil
 | d+1,f=> .nd (f 0) (jcc d fun j=>f (2*j+1)) (jcc d fun j=>f (2*j+2))
theorem Kl:∀(d:Nat) (f:Nat→LV) (t:Nat),getT (jcc d f) t=if t+1<2 ^ d then f t else qr
 | 0,f,t=>by simp [jcc,zH]
 | d+1,f,0=>by
  have:0<2 ^ d:=Nat.two_pow_pos d
  rw [if_pos (by rw [Nat.pow_succ];omega)];rfl
 | d+1,f,t+1=>by
  simp only [jcc]
  rw [ko]
  have hp:2 ^ (d+1)=2*2 ^ d:=by rw [Nat.pow_succ];omega
  by_cases h:t%2=0
  ·rw [if_pos h,Kl d]
   by_cases k:t/2+1<2 ^ d
   ·rw [if_pos k,if_pos (by omega)];congr 1;omega
   ·rw [if_neg k,if_neg (by omega)]
  ·rw [if_neg h,Kl d]
   by_cases k:t/2+1<2 ^ d
   ·rw [if_pos k,if_pos (by omega)];congr 1;omega
   ·rw [if_neg k,if_neg (by omega)]
def jl6:List (Nat×LV)→Tr→Tr
 | [],T=>T
 | (i,v)::l,T=>jl6 l (KG 16 T i v)
theorem jaG:∀(l:List (Nat×LV)) (T:Tr) (t:Nat),(∀q∈l,q.1<60000)→(l.map (·.1)).Nodup→
  (∀q∈l,q.1=t→getT (jl6 l T) t=q.2)∧((∀q∈l,q.1≠t)→getT (jl6 l T) t=getT T t)
 | [],T,t,_,_=>⟨fun q hq=>(by cases hq),fun _=>rfl⟩
 | (i,v)::l,T,t,hlt,hnd=>by
  simp only [List.map_cons,List.nodup_cons] at hnd
  obtain ⟨h1,h2⟩:=jaG l (KG 16 T i v) t (fun q hq=>hlt q (List.mem_cons_of_mem _ hq)) hnd.2
  have hi:i<60000:=hlt (i,v) (List.mem_cons_self ..)
  have hs:=xY 16 T i v t (by omega)
  refine ⟨fun q hq he=> ?_,fun hne=> ?_⟩
  ·rcases List.mem_cons.1 hq with rfl | hq
   ·have he':i=t:=he
    show getT (jl6 l (KG 16 T i v)) t=v
    rw [h2 fun q' hq' e=>hnd.1 (by rw [he',←e];exact List.mem_map_of_mem hq'),hs,if_pos he'.symm]
   ·exact h1 q hq he
  ·show getT (jl6 l (KG 16 T i v)) t=_
   rw [h2 fun q hq=>hne q (List.mem_cons_of_mem _ hq),hs,if_neg (fun e=>hne (i,v) (List.mem_cons_self ..) e.symm)]
structure Kst where
 live:List (Nat×LV)
 mem:Mem
 nb:Nat
def Kst.tm (A:Kst) (dead:Nat→Value):Tr:=jl6 A.live (jcc 16 fun t=> .v (.one (.opq (dead t))))
def Kst.st (A:Kst) (sz:Nat) (dead:Nat→Value) (dec:List (Option Bool)):St:=⟨A.tm dead,sz,A.mem,A.nb,dec,[],[]⟩
def Kst.ms (A:Kst):St:=⟨.nil,0,A.mem,A.nb,[],[],[]⟩
structure KstOK (A:Kst):Prop where
 lt:∀q∈A.live,q.1<60000
 nd:(A.live.map (·.1)).Nodup
 okT:∀q∈A.live,q.2.ok (below A.nb)=true
 okM:∀i b,getM A.mem i=some b→i<A.nb∧okL (below A.nb) b.cells=true
 uq:uniq A.mem
def jY (nb:Nat):Mem→Bool
 | []=>true
 | (i,b)::m=>match Nat.blt i nb with
  | true=>match okL (below nb) b.cells with
   | true=>match getM m i with
    | none=>jY nb m
    | some _=>false
   | false=>false
  | false=>false
def kE (nb:Nat):List (Nat×LV)→Bool
 | []=>true
 | (i,v)::l=>match Nat.blt i 60000 with
  | true=>match v.ok (below nb) with
   | true=>match yH (l.map (·.1)) i with
    | true=>false
    | false=>kE nb l
   | false=>false
  | false=>false
def jre (A:Kst):Bool:=
 match kE A.nb A.live with
 | true=>jY A.nb A.mem
 | false=>false
theorem xl:∀{l:List Nat} {a:Nat},yH l a=false→a ∉ l
 | [],a,_=>by simp
 | b::l,a,h=>by
  simp only [yH,kX] at h
  by_cases hab:b=a
  ·simp [hab] at h
  ·simp only [hab,decide_false] at h
   simp only [List.mem_cons,not_or]
   exact ⟨fun e=>hab e.symm,xl h⟩
theorem xC:∀{nb:Nat} {m:Mem},jY nb m=true→(∀i b,getM m i=some b→i<nb∧okL (below nb) b.cells=true)∧uniq m
 | nb,[],_=>⟨fun i b h=>by simp [getM] at h,trivial⟩
 | nb,(j,c)::m,h=>by
  simp only [jY] at h
  split at h
  ·rename_i h1
   split at h
   ·rename_i h2
    split at h
    ·rename_i h3
     obtain ⟨g1,g2⟩:=xC h
     refine ⟨fun i b hb=> ?_,h3,g2⟩
     rw [jm] at hb
     by_cases hij:i=j
     ·rw [if_pos hij] at hb;cases hb
      rw [zT] at h1
      exact ⟨by rw [hij];simpa using h1,h2⟩
     ·rw [if_neg hij] at hb;exact g1 i b hb
    ·cases h
   ·cases h
  ·cases h
theorem yb:∀{nb:Nat} {l:List (Nat×LV)},kE nb l=true→(∀q∈l,q.1<60000)∧(l.map (·.1)).Nodup∧(∀q∈l,q.2.ok (below nb)=true)
 | nb,[],_=>⟨by simp,by simp,by simp⟩
 | nb,(i,v)::l,h=>by
  simp only [kE] at h
  split at h
  ·rename_i h1
   split at h
   ·rename_i h2
    split at h
    ·cases h
    ·rename_i h3
     obtain ⟨g1,g2,g3⟩:=yb h
     rw [zT] at h1
     have h1':i<60000:=by simpa using h1
     refine ⟨fun q hq=> ?_, ?_,fun q hq=> ?_⟩
     ·rcases List.mem_cons.1 hq with rfl | hq
      ·exact h1'
      ·exact g1 q hq
     ·simp only [List.map_cons,List.nodup_cons]
      exact ⟨xl h3,g2⟩
     ·rcases List.mem_cons.1 hq with rfl | hq
      ·exact h2
      ·exact g3 q hq
   ·cases h
  ·cases h
theorem jI {A:Kst} (h:jre A=true):KstOK A:=by
 unfold jre at h
 split at h
 ·rename_i h1
  obtain ⟨a,b,c⟩:=yb h1
  obtain ⟨d,e⟩:=xC h
  exact ⟨a,b,c,d,e⟩
 ·cases h
structure KR (E:Env) (sz:Nat) (A:Kst) (a:Act) (w:World):Prop where
 ok:KstOK A
 size:a.tmps.size=sz
 le:sz≤60000
 defers:a.defers=[]
 tm:∀q∈A.live,a.tmps.getD q.1 undef=q.2.den E
 rel:Rel E (getM A.mem) w
theorem KR.toR {E:Env} {sz:Nat} {A:Kst} {a:Act} {w:World} (h:KR E sz A a w) (dec:List (Option Bool)):R E (A.st sz (fun t=>a.tmps.getD t undef) dec) a w:=by
 have hget:∀t:Nat,(∃q∈A.live,q.1=t∧getT (A.tm fun t=>a.tmps.getD t undef) t=q.2)∨getT (A.tm fun t=>a.tmps.getD t undef) t=(if t+1<2 ^ 16 then .v (.one (.opq (a.tmps.getD t undef))) else qr):=by
  intro t
  obtain ⟨h1,h2⟩:=jaG A.live (jcc 16 fun t=> .v (.one (.opq (a.tmps.getD t undef)))) t h.ok.lt h.ok.nd
  by_cases hm:∃q∈A.live,q.1=t
  ·obtain ⟨q,hq,he⟩:=hm
   exact .inl ⟨q,hq,he,h1 q hq he⟩
  ·refine .inr ?_
   show getT (jl6 A.live _) t=_
   rw [h2 fun q hq e=>hm ⟨q,hq,e⟩,Kl]
 refine ⟨h.size,h.le,fun t=> ?_,h.defers,fun t=> ?_,⟨h.rel,h.ok.okM,h.ok.uq⟩⟩
 ·show _=(getT (A.tm _) t).den E
  rcases hget t with ⟨q,hq,he,hg⟩ | hg
  ·rw [hg,←he,h.tm q hq]
  ·rw [hg]
   split
   ·rfl
   ·rename_i hlt
    have:¬t<a.tmps.size:=by have:=h.size;have:=h.le;omega
    simp [Array.getD,this]
    rfl
 ·show (getT (A.tm _) t).ok (below A.nb)=true
  rcases hget t with ⟨q,hq,he,hg⟩ | hg
  ·rw [hg];exact h.ok.okT q hq
  ·rw [hg];split <;> rfl
def To (P:Program) (sz:Nat) (c:Code) (A:Kst) (e:Ex) (B:Kst):Prop:=
 ∀E a w,KR E sz A a w→∀Q:Exit→Act→World→Prop,(∀E' a' w',KR E' sz B a' w'→Ext w E A.ms w' E' B.ms→Q e.to a' w')→c.wp P Q a w
def ju (slots blks:List Nat) (r:Option (Out×St)):Option (Ex×List LV×List (Option Blk)×List (Bool×Bool)):=
 match r with
 | some (.ex e,s)=>some (e,slots.map (getT s.tm),blks.map (getM s.mem),s.cs)
 | _=>none
section
variable {P:Program} {S:FuncId→Option SumK} {z:Md} {sz:Nat}
theorem xJ:∀(blks:List Nat) (bs:List Blk) (f:Nat→Option Blk),blks.map f=bs.map some→∀i b,getM (blks.zip bs) i=some b→f i=some b
 | [],_,_,_,i,b,h=>by simp [getM] at h
 | j::l,[],_,he,i,b,h=>by simp [getM] at h
 | j::l,c::bs,f,he,i,b,h=>by
  simp only [List.map_cons,List.cons.injEq] at he
  rw [List.zip_cons_cons,jm] at h
  by_cases hij:i=j
  ·rw [if_pos hij] at h;rw [hij,he.1,h]
  ·rw [if_neg hij] at h;exact xJ l bs f he.2 i b h
theorem xK:∀(slots:List Nat) (vs:List LV) (f:Nat→LV),slots.map f=vs→∀q∈slots.zip vs,q.2=f q.1
 | [],_,_,_,q,h=>by simp at h
 | t::l,[],_,he,q,h=>by simp at he
 | t::l,v::vs,f,he,q,h=>by
  simp only [List.map_cons,List.cons.injEq] at he
  rw [List.zip_cons_cons] at h
  rcases List.mem_cons.1 h with rfl | h
  ·exact he.1.symm
  ·exact xK l vs f he.2 q h
theorem To.exec (hs:Sound P S) {c:Code} {A:Kst} {e:Ex} {slots blks:List Nat} {vs:List LV} {bs:List Blk} {nbB n:Nat} {dec:List (Option Bool)} {cs:List (Bool×Bool)}
  (hrun:∀dead,ju slots blks (exec P S z n (.code c) (A.st sz dead dec))=some (e,vs,bs.map some,cs)) (hcs:∀c∈cs,c.1=c.2)
  (hB:KstOK ⟨slots.zip vs,blks.zip bs,nbB⟩) (hnb:A.nb≤nbB):To P sz c A e ⟨slots.zip vs,blks.zip bs,nbB⟩:=by
 intro E a w hk Q hQ
 have hr:=hk.toR dec
 have h:=hrun fun t=>a.tmps.getD t undef
 unfold ju at h
 split at h
 ·rename_i e' s' hex
  simp only [Option.some.injEq,Prod.mk.injEq] at h
  obtain ⟨rfl,hv,hb,rfl⟩:=h
  obtain ⟨e2,q1,q2,q3,q4,q5,q6⟩:=(ki (z9 P) hs.sums hs.mix hs.ng n).1 c _ _ s' hex hk.le hr.st
  cases q1
  refine q6 hcs E a w hr Q fun E' a' w' hr' hx=> ?_
  have hsub:=xJ blks bs (getM s'.mem) hb
  refine hQ E' a' w' ⟨hB,hr'.size.trans q4,hk.le,hr'.defers,fun q hq=> ?_,⟨fun i b hib=>hr'.m.rel.blk i b (hsub i b hib),fun i j hi hj he=>hr'.m.rel.inj i j ?_ ?_ he⟩⟩
   ⟨hnb,hx.agree,hx.os,hx.tape,hx.output,hx.size,hx.frame,fun i hi=>hx.src i ?_⟩
  ·rw [hr'.tm q.1,xK slots vs (getT s'.tm) hv q hq]
  ·obtain ⟨b,hib⟩:=Option.isSome_iff_exists.1 hi;simp [hsub i b hib]
  ·obtain ⟨b,hjb⟩:=Option.isSome_iff_exists.1 hj;simp [hsub j b hjb]
  ·obtain ⟨b,hib⟩:=Option.isSome_iff_exists.1 hi;simp [hsub i b hib]
 ·cases h
theorem To.run (hs:Sound P S) {c:Code} {A:Kst} {e e0:Ex} {slots blks:List Nat} {vs vs0:List LV} {bs:List Blk} {bs0:List (Option Blk)} {nbB n:Nat} {dec:List (Option Bool)} {cs:List (Bool×Bool)}
  (hrun:∀dead,ju slots blks (Go.Lr.exec P S z n (.code c) (A.st sz dead dec))=some (e0,vs0,bs0,cs)) (he:e0=e) (hv:vs0=vs) (hb:bs0=bs.map some) (hcs:∀c∈cs,c.1=c.2)
  (hB:KstOK ⟨slots.zip vs,blks.zip bs,nbB⟩) (hnb:A.nb≤nbB):To P sz c A e ⟨slots.zip vs,blks.zip bs,nbB⟩:=by
 subst he
 subst hv
 subst hb
 exact To.exec hs hrun hcs hB hnb
def c1:Code→Code
 | .seq a _=>a
 | .block _ a=>a
 | .loop a=>a
 | .cond _ a _=>a
 | c=>c
def c2:Code→Code
 | .seq _ b=>b
 | .cond _ _ b=>b
 | c=>c
def JW:Code→Bool
 | .seq _ _=>true
 | _=>false
def KE:Code→Bool
 | .loop _=>true
 | _=>false
def jaH:Code→Option Nat
 | .block id _=>some id
 | _=>none
theorem To.seq {c:Code} {A B C:Kst} {e:Ex} (hc:JW c=true) (h:To P sz (c1 c) A .normal B) (k:To P sz (c2 c) B e C):To P sz c A e C:=by
 cases c <;> simp only [JW,Bool.false_eq_true] at hc
 intro E a w hr Q hQ
 refine wp_seq (h E a w hr _ fun E' a' w' hr' hx'=> ?_)
 exact k E' a' w' hr' Q fun E'' a'' w'' hr'' hx''=>hQ E'' a'' w'' hr'' (hx'.trans hx'')
theorem To.seq_out {c:Code} {A B:Kst} {e:Ex} (hc:JW c=true) (he:e≠ .normal) (h:To P sz (c1 c) A e B):To P sz c A e B:=by
 cases c <;> simp only [JW,Bool.false_eq_true] at hc
 intro E a w hr Q hQ
 refine wp_seq (h E a w hr _ fun E' a' w' hr' hx'=> ?_)
 have:=hQ E' a' w' hr' hx'
 cases e <;> first | exact absurd rfl he | exact this
theorem To.block {c:Code} {id:Nat} {A B:Kst} {e:Ex} (hc:jaH c=some id) (h:To P sz (c1 c) A e B) (he:e = .exit id∨e = .normal):To P sz c A .normal B:=by
 cases c <;> simp only [jaH,reduceCtorEq] at hc
 cases hc
 intro E a w hr Q hQ
 refine wp_block (h E a w hr _ fun E' a' w' hr' hx'=> ?_)
 have:=hQ E' a' w' hr' hx'
 rcases he with rfl | rfl
 ·simpa only [Ex.to,Exit.inBlock,if_true] using this
 ·exact this
def kJ:Nat→Code→List Code
 | 0,_=>[]
 | k+1,c=>c1 c::kJ k (c2 c)
def qg:Nat→Code→Code
 | 0,c=>c
 | k+1,c=>qg k (c2 c)
def Xf:Nat→Code→Bool
 | 0,_=>true
 | k+1,c=>match JW c with
  | true=>Xf k (c2 c)
  | false=>false
def xg (P:Program) (S:FuncId→Option SumK) (z:Md) (n:Nat):List Code→St→Option (Out×St)
 | [],s=>some (.ex .normal,s)
 | c::l,s=>match Go.Lr.exec P S z n (.code c) s with
  | some (.ex .normal,s1)=>xg P S z n l s1
  | _=>none
theorem jdv (hs:Sound P S) {n:Nat}:∀(k:Nat) (c:Code) (s s':St),Xf k c=true→xg P S z n (kJ k c) s=some (.ex .normal,s')→s.sz≤60000→StOK s→
  (Good s'→Good s)∧StOK s'∧s'.sz=s.sz∧s.nb≤s'.nb∧
   (Good s'→∀E a w,R E s a w→∀Q:Exit→Act→World→Prop,(∀E' a' w',R E' s' a' w'→Ext w E s w' E' s'→(qg k c).wp P Q a' w')→c.wp P Q a w)
 | 0,c,s,s',_,h,_,hok=>by
  simp only [kJ,xg,Option.some.injEq,Prod.mk.injEq,true_and] at h
  subst h
  exact ⟨id,hok,rfl,Nat.le_refl _,fun _ E a w hr Q hQ=>hQ E a w hr (.refl _ _ _)⟩
 | k+1,c,s,s',hsp,h,hsz,hok=>by
  simp only [Xf] at hsp
  split at hsp
  ·rename_i hc
   simp only [kJ,xg] at h
   split at h
   ·rename_i s1 hex
    obtain ⟨e,q1,q2,q3,q4,q5,q6⟩:=(ki (z9 P) hs.sums hs.mix hs.ng n).1 (c1 c) s _ s1 hex hsz hok
    cases q1
    obtain ⟨r2,r3,r4,r5,r6⟩:=jdv hs k (c2 c) s1 s' hsp h (by omega) q3
    refine ⟨fun hg=>q2 (r2 hg),r3,r4.trans q4,Nat.le_trans q5 r5,fun hg E a w hr Q hQ=> ?_⟩
    have hw:=q6 (r2 hg) E a w hr (Exit.then ((c2 c).wp P Q) Q) fun E' a' w' hr' hx'=>r6 hg E' a' w' hr' Q fun E'' a'' w'' hr'' hx''=>hQ E'' a'' w'' hr'' (hx'.trans hx'')
    cases c <;> simp only [JW,Bool.false_eq_true] at hc
    exact wp_seq hw
   ·cases h
  ·cases hsp
theorem To.spine (hs:Sound P S) {c:Code} {A C:Kst} {e:Ex} {k:Nat} {slots blks:List Nat} {vs:List LV} {bs:List Blk} {nbB n:Nat} {dec:List (Option Bool)} {cs:List (Bool×Bool)}
  (hsp:Xf k c=true) (hrun:∀dead,ju slots blks (xg P S z n (kJ k c) (A.st sz dead dec))=some (.normal,vs,bs.map some,cs)) (hcs:∀c∈cs,c.1=c.2)
  (hB:KstOK ⟨slots.zip vs,blks.zip bs,nbB⟩) (hnb:A.nb≤nbB) (h:To P sz (qg k c) ⟨slots.zip vs,blks.zip bs,nbB⟩ e C):To P sz c A e C:=by
 intro E a w hk Q hQ
 have hr:=hk.toR dec
 have hh:=hrun fun t=>a.tmps.getD t undef
 unfold ju at hh
 split at hh
 ·rename_i e' s' hex
  simp only [Option.some.injEq,Prod.mk.injEq] at hh
  obtain ⟨rfl,hv,hb,rfl⟩:=hh
  obtain ⟨q2,q3,q4,q5,q6⟩:=jdv (z:=z) hs k c _ s' hsp hex hk.le hr.st
  refine q6 hcs E a w hr Q fun E' a' w' hr' hx=> ?_
  have hsub:=xJ blks bs (getM s'.mem) hb
  refine h E' a' w' ⟨hB,hr'.size.trans q4,hk.le,hr'.defers,fun q hq=> ?_,⟨fun i b hib=>hr'.m.rel.blk i b (hsub i b hib),fun i j hi hj he=>hr'.m.rel.inj i j ?_ ?_ he⟩⟩ Q
   fun E'' a'' w'' hr'' hx''=>hQ E'' a'' w'' hr'' (Ext.trans (s1:=Kst.ms ⟨slots.zip vs,blks.zip bs,nbB⟩) ⟨hnb,hx.agree,hx.os,hx.tape,hx.output,hx.size,hx.frame,fun i hi=>hx.src i ?_⟩ hx'')
  ·rw [hr'.tm q.1,xK slots vs (getT s'.tm) hv q hq]
  ·obtain ⟨b,hib⟩:=Option.isSome_iff_exists.1 hi;simp [hsub i b hib]
  ·obtain ⟨b,hjb⟩:=Option.isSome_iff_exists.1 hj;simp [hsub j b hjb]
  ·obtain ⟨b,hib⟩:=Option.isSome_iff_exists.1 hi;simp [hsub i b hib]
 ·cases hh
theorem To.spineR (hs:Sound P S) {c:Code} {A C:Kst} {e e0:Ex} {k:Nat} {slots blks:List Nat} {vs vs0:List LV} {bs:List Blk} {bs0:List (Option Blk)} {nbB n:Nat} {dec:List (Option Bool)} {cs:List (Bool×Bool)}
  (hsp:Xf k c=true) (hrun:∀dead,ju slots blks (xg P S z n (kJ k c) (A.st sz dead dec))=some (e0,vs0,bs0,cs)) (he:e0 = .normal) (hv:vs0=vs) (hb:bs0=bs.map some) (hcs:∀c∈cs,c.1=c.2)
  (hB:KstOK ⟨slots.zip vs,blks.zip bs,nbB⟩) (hnb:A.nb≤nbB) (h:To P sz (qg k c) ⟨slots.zip vs,blks.zip bs,nbB⟩ e C):To P sz c A e C:=by
 subst he
 subst hv
 subst hb
 exact To.spine hs hsp hrun hcs hB hnb h
def Rd (P:Program) (sz:Nat) (c:Code) (m:Nat) (A:Kst) (e:Ex) (B:Kst):Prop:=
 ∀E a w,KR E sz A a w→∀Q:Exit→Act→World→Prop,(∀E' a' w',KR E' sz B a' w'→Ext w E A.ms w' E' B.ms→Q e.to a' w')→Code.rounds P c Q m a w
theorem Rd.last {c:Code} {A B:Kst} {e:Ex} (he:e≠ .normal) (h:To P sz c A e B):Rd P sz c 1 A e B:=by
 intro E a w hr Q hQ
 rw [rounds_succ]
 refine h E a w hr _ fun E' a' w' hr' hx'=> ?_
 have:=hQ E' a' w' hr' hx'
 cases e <;> first | exact absurd rfl he | exact this
theorem Rd.next {c:Code} {A B C:Kst} {e:Ex} {m:Nat} (h:To P sz c A .normal B) (k:Rd P sz c m B e C):Rd P sz c (m+1) A e C:=by
 intro E a w hr Q hQ
 rw [rounds_succ]
 refine h E a w hr _ fun E' a' w' hr' hx'=> ?_
 exact k E' a' w' hr' Q fun E'' a'' w'' hr'' hx''=>hQ E'' a'' w'' hr'' (hx'.trans hx'')
theorem To.loop {c:Code} {A B:Kst} {e:Ex} {m:Nat} (hc:KE c=true) (h:Rd P sz (c1 c) m A e B):To P sz c A e B:=by
 cases c <;> simp only [KE,Bool.false_eq_true] at hc
 exact fun E a w hr Q hQ=>wp_loop_rounds m (h E a w hr Q hQ)
theorem To.weak {c:Code} {A B C:Kst} {e:Ex} (h:To P sz c A e B) (hl:∀q∈C.live,q∈B.live) (hm:C.mem=B.mem) (hn:C.nb=B.nb) (hC:KstOK C):To P sz c A e C:=by
 intro E a w hr Q hQ
 refine h E a w hr Q fun E' a' w' hr' hx'=>hQ E' a' w' ⟨hC,hr'.size,hr'.le,hr'.defers,fun q hq=>hr'.tm q (hl q hq),by rw [hm];exact hr'.rel⟩ ?_
 have e1:C.ms=B.ms:=by unfold Kst.ms;rw [hm,hn]
 rw [e1];exact hx'
def jj (P:Program) (f:FuncId):Code:=
 match P.funcs[f]? with
 | some fn=>match fn.body with
  | some c=>c
  | none=> .skip
 | none=> .skip
def jS:Nat→List LV→List (Nat×LV)
 | _,[]=>[]
 | i,v::l=>(i,v)::jS (i+1) l
theorem ky:∀(l:List LV) (i:Nat) (q:Nat×LV),q∈jS i l↔i≤q.1∧l[q.1 - i]? = some q.2
 | [],i,q=>by simp [jS]
 | v::l,i,q=>by
  simp only [jS,List.mem_cons]
  rw [ky l (i+1) q]
  constructor
  ·rintro (rfl | ⟨h1,h2⟩)
   ·simp
   ·refine ⟨by omega, ?_⟩
    rw [show q.1 - i=(q.1 - (i+1))+1 by omega]
    simpa using h2
  ·rintro ⟨h1,h2⟩
   by_cases h:q.1=i
   ·left
    rw [h] at h2
    simp at h2
    rw [h2,←h]
   ·right
    refine ⟨by omega, ?_⟩
    rw [show q.1 - i=(q.1 - (i+1))+1 by omega] at h2
    simpa using h2
theorem zn:∀(l:List LV) (i:Nat),((jS i l).map (·.1)).Nodup∧∀t∈(jS i l).map (·.1),i≤t
 | [],i=>by simp [jS]
 | v::l,i=>by
  obtain ⟨h1,h2⟩:=zn l (i+1)
  refine ⟨?_,fun t ht=> ?_⟩
  ·simp only [jS,List.map_cons,List.nodup_cons]
   exact ⟨fun h=>by have:=h2 i h;omega,h1⟩
  ·simp only [jS,List.map_cons,List.mem_cons] at ht
   rcases ht with rfl | ht
   ·exact Nat.le_refl _
   ·have:=h2 t ht;omega
theorem yA {f:FuncId} {fn:Func} {c:Code} {args:List LV} {m:Mem} {nb:Nat} {B:Kst} {e:Ex} {v:LV} (hf:P.funcs[f]? = some fn) (hb:fn.body=some c)
  (hle:fn.ntmps≤60000) (hargs:args.length≤fn.ntmps) (hA:∀u∈args,u.ok (below nb)=true) (hm:∀i b,getM m i=some b→i<nb∧okL (below nb) b.cells=true) (hu:uniq m)
  (h:To P fn.ntmps c ⟨jS 0 args,m,nb⟩ e B) (he:e = .normal∨e = .ret)
  (hres:∀dead,km P fn.results.toList (getT (B.tm dead)) B.mem=some v) (E:Env) (w:World) (hrel:Rel E (getM m) w):
  Calls P f (args.map (LV.den E)).toArray w fun e w'=>∃E',e = .returned (v.den E')∧MRel E' B.ms w'∧Ext w E (Kst.ms ⟨jS 0 args,m,nb⟩) w' E' B.ms:=by
 refine calls_of_wp hf hb (h E _ w ⟨⟨fun q hq=> ?_,(zn args 0).1,fun q hq=> ?_,hm,hu⟩,by simp;omega,hle,rfl,fun q hq=> ?_,hrel⟩ _ fun E' a' w' hr' hx'=> ?_)
 ·have:=(ky args 0 q).1 hq
  have:=(List.getElem?_eq_some_iff.1 this.2).1
  omega
 ·exact hA q.2 (List.mem_of_getElem? ((ky args 0 q).1 hq).2)
 ·have:=((ky args 0 q).1 hq).2
  simp only [Nat.sub_zero] at this
  have hlt:=(List.getElem?_eq_some_iff.1 this).1
  simp only [Array.getD_eq_getD_getElem?,Array.getElem?_append,List.size_toArray,List.length_map]
  rw [if_pos hlt]
  simp [this]
 ·have hR:=hr'.toR []
  have hpost:bodyPost P fn (fun e w'=>∃E',e = .returned (v.den E')∧MRel E' B.ms w'∧Ext w E (Kst.ms ⟨jS 0 args,m,nb⟩) w' E' B.ms) .ret a' w':=
   ⟨hr'.defers,v.den E',qx hR.m.rel hR.tm (hres _),E',rfl,⟨hr'.rel,hr'.ok.okM,hr'.ok.uq⟩,hx'⟩
  rcases he with rfl | rfl
  ·exact hpost
  ·exact hpost
end
theorem ye {P:Program} {f:FuncId} {fn:Func} {c:Code} {args:List LV} {B:Kst} {e:Ex} {v:LV} (hf:P.funcs[f]? = some fn) (hb:fn.body=some c)
  (hle:fn.ntmps≤60000) (hargs:args.length≤fn.ntmps) (ha:jR args=true) (h:To P fn.ntmps c ⟨jS 0 args,[],0⟩ e B) (he:e = .normal∨e = .ret)
  (hres:∀dead,km P fn.results.toList (getT (B.tm dead)) B.mem=some v) (hv:v.ok noP=true) (w:World):
  Calls P f (args.map (LV.den E0)).toArray w fun e w'=>e = .returned (v.den E0)∧Below w.heap.size w w':=by
 have ha':=plainVs_iff.1 ha
 refine (yA (m:=[]) (nb:=0) hf hb hle hargs (fun u hu=>LV.ok_mono jo (ha' u hu)) (fun i b h=>by simp [getM] at h) trivial h he hres E0 w ⟨fun i b h=>by simp [getM] at h,fun i j h=>by simp [getM] at h⟩).mono ?_
 rintro e w' ⟨E',rfl,_,hx⟩
 exact ⟨by rw [kg hv],hx.os,hx.tape,hx.output,hx.size,fun k hk=>hx.frame k hk fun i hi=>by simp [getM,Kst.ms] at hi⟩
end Go.Lr

/- The local evaluator: summaries of functions that are handed slices of numbers. -/
namespace Go.Lr
open Go.RowKit
structure Lcl (E:Env) (m m':Mem) (w w':World):Prop where
 os:w'.os=w.os
 tape:w'.tape=w.tape
 output:w'.output=w.output
 size:w.heap.size≤w'.heap.size
 frame:∀b,b<w.heap.size→(∀i,(getM m i).isSome→(E i).1≠b)→w'.heap[b]? = w.heap[b]?
 blk:∀i b,getM m' i=some b→blkAt E i b w'
section
variable {P:Program} {S:FuncId→Option SumK} {z:Md}
theorem jj0 {E E':Env} {A B:St} {m m':Mem} {w w':World} (hA:A.mem=m) (hr:MRel E' B w') (hx:Ext w E A w' E' B)
  (hg:∀i b,getM m' i=some b→getM B.mem i=some b∧i<A.nb∧okL (below A.nb) b.cells=true):Lcl E m m' w w':=by
 subst hA
 refine ⟨hx.os,hx.tape,hx.output,hx.size,hx.frame,fun i b hib=> ?_⟩
 obtain ⟨h1,h2,h3⟩:=hg i b hib
 obtain ⟨r,g1,g2,g3⟩:=hr.rel.blk i b h1
 rw [hx.agree i h2] at g1 g3
 refine ⟨r, ?_,g2,g3⟩
 rw [g1,jX (E:=E) (E':=E') (p:=below A.nb) (fun j hj=>hx.agree j (by simpa [below,zT] using hj)) h3]
theorem x8 (hs:Sound P S) {n:Nat} {f:FuncId} {args:List LV} {m m' m2:Mem} {nb nb':Nat} {dec:List (Option Bool)} {v:LV} {cs:List (Bool×Bool)} (hrun:jG P S z n f args m nb dec=some (v,m2,nb',cs))
  (hg:∀i b,getM m' i=some b→getM m2 i=some b∧i<nb∧okL (below nb) b.cells=true) (hc:∀c∈cs,c.1=c.2) (hm:jY nb m=true) (ha:∀u∈args,u.ok (below nb)=true) (hv:v.ok noP=true)
  (E:Env) (w:World) (hrel:Rel E (getM m) w):Calls P f (args.map (LV.den E)).toArray w fun e w'=>e = .returned (v.den E0)∧Lcl E m m' w w':=by
 obtain ⟨s',h1,h2,h3,h4⟩:=zf hrun
 obtain ⟨k1,k2⟩:=xC hm
 obtain ⟨v',b1,b2,b3,b4,b5,b6,b7,b8⟩:=(ki (z9 P) hs.sums hs.mix hs.ng n).2.2.2 f args _ _ s' h1 k1 k2 ha
 cases b1
 refine (b8 (by rw [Good,h4];exact hc) E w ⟨hrel,k1,k2⟩).mono ?_
 rintro e w' ⟨E',rfl,hmr,hx⟩
 exact ⟨by rw [kg hv],jj0 rfl hmr hx fun i b hib=>by rw [h2];exact hg i b hib⟩
theorem JT {f:FuncId} {fn:Func} {c:Code} {args:List LV} {m m':Mem} {nb:Nat} {B:Kst} {e:Ex} {v:LV} (hf:P.funcs[f]? = some fn) (hb:fn.body=some c)
  (hle:fn.ntmps≤60000) (hargs:args.length≤fn.ntmps) (hA:∀u∈args,u.ok (below nb)=true) (hm:jY nb m=true)
  (h:To P fn.ntmps c ⟨jS 0 args,m,nb⟩ e B) (he:e = .normal∨e = .ret)
  (hres:∀dead,km P fn.results.toList (getT (B.tm dead)) B.mem=some v) (hv:v.ok noP=true)
  (hg:∀i b,getM m' i=some b→getM B.mem i=some b∧i<nb∧okL (below nb) b.cells=true)
  (E:Env) (w:World) (hrel:Rel E (getM m) w):Calls P f (args.map (LV.den E)).toArray w fun e w'=>e = .returned (v.den E0)∧Lcl E m m' w w':=by
 obtain ⟨k1,k2⟩:=xC hm
 refine (yA hf hb hle hargs hA k1 k2 h he hres E w hrel).mono ?_
 rintro e w' ⟨E',rfl,hmr,hx⟩
 exact ⟨by rw [kg hv],jj0 rfl hmr hx hg⟩
def Xd:List At→Nat→Option (List Int)
 | _,0=>some []
 | .int .i64 x::l,n+1=>match Xd l n with
  | some r=>some (x::r)
  | none=>none
 | _,_+1=>none
def toI:At→Int
 | .int .i64 x=>x
 | _=>0
def jb9:At→Bool
 | .int .i64 _=>true
 | _=>false
def qp (l:List At):List Int:=l.map toI
def j8 (l:List At):Bool:=l.all jb9
def IntsAt (l:List At) (o:Nat) (xs:List Int):Prop:=∀j (h:j<xs.length),atL l (o+j)=some (.int .i64 xs[j])
theorem JU (l:List At) (n:Nat):atL l n=l[n]? :=zJ
theorem jiL (l:List At) (o n:Nat):atL (l.drop o) n=atL l (o+n):=by rw [JU,JU,List.getElem?_drop]
theorem Ya:∀(n:Nat) (l:List At) (xs:List Int),Xd l n=some xs→xs.length=n∧IntsAt l 0 xs
 | 0,l,xs,h=>by simp only [Xd] at h;cases h;exact ⟨rfl,fun j hj=>by simp at hj⟩
 | n+1,l,xs,h=>by
  unfold Xd at h
  split at h
  ·rename_i h' ;cases h'
  ·rename_i x l' n' hn
   cases hn
   split at h
   ·rename_i r hr
    cases h
    obtain ⟨h1,h2⟩:=Ya n l' r hr
    refine ⟨by simp [h1],fun j hj=> ?_⟩
    cases j with
    | zero=>rfl
    | succ j=>have:=h2 j (by simpa using hj);rw [JU] at this ⊢;simpa using this
   ·cases h
  ·cases h
theorem IntsAt.drop {l:List At} {o:Nat} {xs:List Int} (h:IntsAt (l.drop o) 0 xs):IntsAt l o xs:=fun j hj=>by
 have:=h j hj
 rw [jiL] at this
 simpa using this
theorem jiM (l:List At):(qp l).length=l.length:=by simp [qp]
theorem jgN (l:List At) (h:j8 l=true):IntsAt l 0 (qp l):=by
 intro j hj
 rw [JU,Nat.zero_add]
 have hj':j<l.length:=by simpa [qp] using hj
 rw [List.getElem?_eq_getElem hj']
 have:=List.all_eq_true.1 h l[j] (List.getElem_mem hj')
 simp only [qp,List.getElem_map]
 generalize l[j]=a at this ⊢
 unfold jb9 at this
 split at this
 ·rfl
 ·cases this
theorem zO {l:List At} {o:Nat} {x:Int} (h:atL l o=some (.int .i64 x)):intAt l o=x∧isIntAt .i64 l o=true:=by
 unfold intAt isIntAt;rw [h];exact ⟨rfl,rfl⟩
inductive AV where
 | pl (v:LV)
 | ints (xs:List Int)
def slB:LV→Option Nat
 | .v (.one (.sl b _ _ _))=>some b
 | .v (.one (.slu b _))=>some b
 | .v (.one (.slx b _ _ _))=>some b
 | _=>none
def jgO:LV→Bool
 | .v (.one .nilsl)=>true
 | _=>false
def rdA:List LV→Option (List Nat)
 | []=>some []
 | v::l=>match slB v with
  | some b=>match rdA l with
   | some r=>some (b::r)
   | none=>none
  | none=>match v.ok noP with
   | true=>rdA l
   | false=>none
def jaA (es:Nat) (s:LV) (k:Blk):Option (List Int×List (Bool×Bool)):=
 match s with
 | .v (.one (.sl _ o n c))=>match Nat.ble n c,Xd (k.cells.drop o) (n*es),okL noP k.cells with
  | true,some xs,true=>some (xs,[])
  | _,_,_=>none
 | .v (.one (.slu _ n))=>match Nat.beq k.es es,Nat.ble 1 es with
  | true,true=>some (qp (k.cells.take (n*es)),[(j8 (k.cells.take (n*es))&&(okL noP k.cells&&decide (n*es≤k.cells.length)),true)])
  | _,_=>none
 | .v (.one (.slx _ o n c))=>some (qp ((k.cells.drop o).take (n*es)),[(j8 ((k.cells.drop o).take (n*es))&&(okL noP k.cells&&(decide (o+n*es≤k.cells.length)&&decide (n≤c))),true)])
 | _=>none
def avA (es:Nat):List LV→List Blk→Option (List AV×List (Bool×Bool))
 | [],_=>some ([],[])
 | v::l,bs=>match slB v with
  | some _=>match bs with
   | k::bs=>match jaA es v k with
    | some (xs,cs)=>match avA es l bs with
     | some (r,cs')=>some (.ints xs::r,cs++cs')
     | none=>none
    | none=>none
   | []=>none
  | none=>match jgO v with
   | true=>match avA es l bs with
    | some (r,cs')=>some (.ints []::r,cs')
    | none=>none
   | false=>match avA es l bs with
    | some (r,cs')=>some (.pl v::r,cs')
    | none=>none
def x9 (ty:TypeId) (es:Nat) (F:List AV→Bool→Option (LV×Bool×List (Bool×Bool))):Sum:=fun args=>
 match args with
 | .v (.one (.ptr c 0))::rest=>match rdA rest with
  | some bl=>match yH bl c with
   | false=>some ⟨bl,[c],fun rdB wB _=>match wB with
    | [⟨t,(0,0),0,[.bool h]⟩]=>match Nat.beq t ty with
     | true=>match avA es rest rdB with
      | some (avs,cs0)=>match F avs h with
       | some (v,h',cs)=>match v.ok noP with
        | true=>some ⟨v,[flag ty h'],[],cs0++cs⟩
        | false=>none
       | none=>none
      | none=>none
     | false=>none
    | _=>none⟩
   | true=>none
  | none=>none
 | _=>none
theorem jdu {w w':World} {E:Env} {g:Nat→Option Blk} {nb c:Nat} {v:LV} {ty:TypeId} {h h':Bool} (hr:Rel E g w) (hc:g c=some (flag ty h))
  (hos:w'.os=w.os) (htape:w'.tape=w.tape) (hout:w'.output=w.output) (hsz:w.heap.size≤w'.heap.size)
  (hthis:blkAt E c (flag ty h') w') (hrest:∀i b,i≠c→g i=some b→blkAt E i b w') (hfr:∀b,b<w.heap.size→(∀i,(g i).isSome→(E i).1≠b)→w'.heap[b]? = w.heap[b]?):
  Post w E g nb ⟨v,[(c,some (flag ty h'))],[],[],[]⟩ E w':=by
 refine ⟨fun _ _=>rfl,⟨fun i b hb=> ?_,fun i j hi hj he=> ?_⟩,hos,htape,hout,hsz,hfr,fun i h1 h2=>by simp at h2;omega⟩
 ·simp only [nwG,wrG] at hb
  by_cases hi:i=c
  ·subst hi
   rw [if_pos rfl] at hb
   cases hb
   exact hthis
  ·rw [if_neg hi] at hb
   exact hrest i b hi hb
 ·simp only [nwG,wrG] at hi hj
  refine hr.inj i j ?_ ?_ he
  ·by_cases h1:i=c
   ·rw [h1];simp [hc]
   ·simpa [if_neg h1] using hi
  ·by_cases h1:j=c
   ·rw [h1];simp [hc]
   ·simpa [if_neg h1] using hj
def SlAt (es:Nat) (k:Blk) (o n:Nat) (xs:List Int):Prop:=xs.length=n*es∧IntsAt k.cells o xs∧okL noP k.cells=true
theorem kp {E E':Env} {i j:Nat} {b:Blk} {w:World} (hb:okL noP b.cells=true) (he:E' j=E i) (h:blkAt E i b w):blkAt E' j b w:=by
 obtain ⟨r,h1,h2,h3⟩:=h
 refine ⟨r, ?_,h2,fun hne=>by rw [he];exact h3 hne⟩
 rw [he,h1,qU (E:=E') hb,qU (E:=E) hb]
theorem Jn {f:FuncId} (ho:Own P f) {args args':List LV} {m m':Mem} {ren:Nat→Nat} {g:Nat→Option Blk} {nb c:Nat} {ty:TypeId} {h h':Bool} {v:LV} {E E1:Env} {w:World}
  (hE:∀i,E1 i=E (ren i)) (hrel:Rel E g w) (hc:g c=some (flag ty h)) (h0:getM m' 0=some (flag ty h')) (hren0:ren 0=c) (hm:∀i b,getM m i=some b→g (ren i)=some b)
  (hm':∀i b,i≠0→getM m i=some b→getM m' i=some b) (hok:∀i b,getM m i=some b→okL noP b.cells=true)
  (hargs:args.map (LV.den E)=args'.map (LV.den E1)) (hv:v.ok noP=true)
  (hcall:Calls P f (args'.map (LV.den E1)).toArray w fun e w'=>e = .returned (v.den E0)∧Lcl E1 m m' w w'):
  CallOK P f (args.map (LV.den E)).toArray w fun u w'=>∃E',u=v.den E'∧Post w E g nb ⟨v,[(c,some (flag ty h'))],[],[],[]⟩ E' w':=by
 obtain ⟨fn,f1,f2,f3⟩:=ho
 rw [hargs]
 refine .inl ⟨fn,f1,f2,f3,hcall.mono ?_⟩
 rintro e w' ⟨rfl,hl⟩
 have hfr:∀b,b<w.heap.size→(∀i,(getM m i).isSome→(E1 i).1≠b)→w'.heap[b]? = w.heap[b]? :=hl.frame
 refine ⟨_,rfl,E,(kg hv).symm,jdu hrel hc hl.os hl.tape hl.output hl.size ?_ (fun i b hi hib=> ?_) fun b hb hne=>hfr b hb fun i hi=> ?_⟩
 ·exact kp (E:=E1) (i:=0) rfl (by rw [hE,hren0]) (hl.blk 0 _ h0)
 ·by_cases hex:∃j,(getM m j).isSome∧ren j=i
  ·obtain ⟨j,hj,rfl⟩:=hex
   obtain ⟨b',hb'⟩:=Option.isSome_iff_exists.1 hj
   have:b'=b:=by have:=hm j b' hb';rw [hib] at this;cases this;rfl
   subst this
   have hj0:j≠0:=fun e=>hi (by rw [e,hren0])
   exact kp (E:=E1) (i:=j) (hok j _ hb') (hE j).symm (hl.blk j _ (hm' j _ hj0 hb'))
  ·obtain ⟨r,g1,g2,g3⟩:=hrel.blk i b hib
   refine ⟨r, ?_,g2,g3⟩
   rw [hfr _ (Array.getElem?_eq_some_iff.1 g1).1 fun j hj e=>hex ⟨j,hj, ?_⟩]
   ·exact g1
   ·obtain ⟨b',hb'⟩:=Option.isSome_iff_exists.1 hj
    rw [hE] at e
    exact hrel.inj _ _ (by rw [hm j b' hb'];rfl) (by rw [hib];rfl) e
 ·obtain ⟨b',hb'⟩:=Option.isSome_iff_exists.1 hi
  rw [hE]
  exact hne _ (by rw [hm i b' hb'];rfl)
theorem jrd {E E1:Env} {g:Nat→Option Blk} {w:World} {c b:Nat} {kc k:Blk} (hrel:Rel E g w) (hkc:g c=some kc) (hk:g b=some k) (hcb:c≠b) (o0:okL noP kc.cells=true) (o1:okL noP k.cells=true)
  (h0:E1 0=E c) (h1:E1 1=E b):Rel E1 (getM [(0,kc),(1,k)]) w:=by
 refine ⟨fun i q hq=> ?_,fun i j hi hj he=> ?_⟩
 ·rw [jm] at hq
  by_cases hi:i=0
  ·subst hi;rw [if_pos rfl] at hq;cases hq;exact kp o0 h0 (hrel.blk c _ hkc)
  ·rw [if_neg hi,jm] at hq
   by_cases hi1:i=1
   ·subst hi1;rw [if_pos rfl] at hq;cases hq;exact kp o1 h1 (hrel.blk b _ hk)
   ·rw [if_neg hi1] at hq;simp [getM] at hq
 ·have two:∀i,(getM [(0,kc),(1,k)] i).isSome→i=0∨i=1:=by
   intro i hi
   rw [jm] at hi
   by_cases h0:i=0
   ·exact .inl h0
   ·rw [if_neg h0,jm] at hi
    by_cases h1:i=1
    ·exact .inr h1
    ·rw [if_neg h1] at hi;simp [getM] at hi
  rcases two i hi with rfl | rfl <;> rcases two j hj with rfl | rfl
  ·rfl
  ·rw [h0,h1] at he;exact absurd (hrel.inj c b (by simp [hkc]) (by simp [hk]) he) hcb
  ·rw [h0,h1] at he;exact absurd (hrel.inj b c (by simp [hk]) (by simp [hkc]) he).symm hcb
  ·rfl
theorem Xe {kc k q:Blk} {i:Nat} (hq:getM [(0,kc),(1,k)] i=some q):(i=0∧q=kc)∨(i=1∧q=k):=by
 rw [jm] at hq
 by_cases hi:i=0
 ·subst hi;rw [if_pos rfl] at hq;cases hq;exact .inl ⟨rfl,rfl⟩
 ·rw [if_neg hi,jm] at hq
  by_cases hi1:i=1
  ·subst hi1;rw [if_pos rfl] at hq;cases hq;exact .inr ⟨rfl,rfl⟩
  ·rw [if_neg hi1] at hq;simp [getM] at hq
theorem jca {kc q:Blk} {i:Nat} (hq:getM [(0,kc)] i=some q):i=0∧q=kc:=by
 rw [jm] at hq
 by_cases hi:i=0
 ·subst hi;rw [if_pos rfl] at hq;cases hq;exact ⟨rfl,rfl⟩
 ·rw [if_neg hi] at hq;simp [getM] at hq
theorem jt1 {E E1:Env} {g:Nat→Option Blk} {w:World} {c:Nat} {kc:Blk} (hrel:Rel E g w) (hkc:g c=some kc) (o0:okL noP kc.cells=true) (h0:E1 0=E c):Rel E1 (getM [(0,kc)]) w:=by
 refine ⟨fun i q hq=> ?_,fun i j hi hj he=> ?_⟩
 ·obtain ⟨rfl,rfl⟩:=jca hq;exact kp o0 h0 (hrel.blk c _ hkc)
 ·obtain ⟨q,hq⟩:=Option.isSome_iff_exists.1 hi
  obtain ⟨q',hq'⟩:=Option.isSome_iff_exists.1 hj
  rw [(jca hq).1,(jca hq').1]
def jaB (a b:Nat):Nat→Nat
 | 0=>a
 | _=>b
theorem jT {g:Nat→Option Blk} {b:Nat} {l:List Nat} {r:List Blk} (h:jz g (b::l)=some r):∃k r',g b=some k∧jz g l=some r'∧r=k::r':=by
 simp only [jz] at h
 split at h
 ·rename_i k r' hk hr;cases h;exact ⟨k,r',hk,hr,rfl⟩
 ·cases h
theorem kD {g:Nat→Option Blk} {r:List Blk} (h:jz g []=some r):r=[]:=by simp only [jz] at h;cases h;rfl
theorem jaC {l:List At} {o m:Nat} (h:j8 ((l.drop o).take m)=true) (hl:o+m≤l.length):(qp ((l.drop o).take m)).length=m∧IntsAt l o (qp ((l.drop o).take m)):=by
 have e:(qp ((l.drop o).take m)).length=m:=by rw [jiM,List.length_take,List.length_drop];omega
 refine ⟨e,fun j hj=> ?_⟩
 have h1:=jgN _ h j hj
 rw [e] at hj
 rw [JU,Nat.zero_add,List.getElem?_take,if_pos (by omega),List.getElem?_drop,←JU] at h1
 exact h1
theorem ya {es b:Nat} {s:LV} {k:Blk} {xs:List Int} {cs:List (Bool×Bool)} {E:Env} {w:World} (h:jaA es s k=some (xs,cs)) (hc:∀c∈cs,c.1=c.2) (hb:slB s=some b) (hk:blkAt E b k w):
  ∃o n c,SlAt es k o n xs∧n≤c∧∀(E':Env) (j:Nat),E' j=E b→s.den E=(LV.v (.one (.slx j o n c))).den E':=by
 unfold jaA at h
 split at h
 ·rename_i b' o n c
  cases hb
  split at h
  ·rename_i hle hx hok
   cases h
   obtain ⟨h1,h2⟩:=Ya _ _ _ hx
   exact ⟨o,n,c,⟨h1,h2.drop,hok⟩,Nat.le_of_ble_eq_true hle,fun E' j hj=>by simp only [LV.den,V1.den,At.den,hj]⟩
  ·cases h
 ·rename_i b' n
  cases hb
  split at h
  ·rename_i he h1
   cases h
   rw [kX] at he
   have he':k.es=es:=by simpa using he
   have h1':1≤es:=Nat.le_of_ble_eq_true h1
   have:=hc _ (List.mem_singleton.2 rfl)
   simp only [Bool.and_eq_true,decide_eq_true_eq] at this
   obtain ⟨a1,a2,a3⟩:=this
   have ht:=jaC (l:=k.cells) (o:=0) (m:=n*es) (by simpa using a1) (by omega)
   simp only [List.drop_zero] at ht
   obtain ⟨r,g1,g2,g3⟩:=hk
   have g4:=g3 (by omega)
   have hle:n≤(E b).2:=by
    refine Nat.le_of_mul_le_mul_right (c:=es) ?_ (by omega)
    rw [he'] at g4
    omega
   exact ⟨0,n,(E b).2,⟨ht.1,ht.2,a2⟩,hle,fun E' j hj=>by simp only [LV.den,V1.den,At.den,hj,Nat.zero_add]⟩
  ·cases h
 ·rename_i b' o n c
  cases hb
  cases h
  have:=hc _ (List.mem_singleton.2 rfl)
  simp only [Bool.and_eq_true,decide_eq_true_eq] at this
  obtain ⟨a1,a2,a3,a4⟩:=this
  have ht:=jaC a1 a3
  exact ⟨o,n,c,⟨ht.1,ht.2,a2⟩,a4,fun E' j hj=>by simp only [LV.den,V1.den,At.den,hj]⟩
 ·cases h
theorem jj1 {es:Nat} {xs:List Int} {g:Nat→Option Blk}:∀(pre:List LV) (rest:List LV) (rdB:List Blk) (bl:List Nat) (cs0:List (Bool×Bool)),rdA rest=some bl→jz g bl=some rdB→avA es rest rdB=some (pre.map AV.pl++[.ints xs],cs0)→(∀c∈cs0,c.1=c.2)→
 jR pre=true∧((∃s b k cs,rest=pre++[s]∧slB s=some b∧bl=[b]∧g b=some k∧jaA es s k=some (xs,cs)∧∀c∈cs,c.1=c.2)∨(rest=pre++[.v (.one .nilsl)]∧xs=[])):=by
 intro pre
 induction pre with
 | nil=>
  intro rest rdB bl cs0 h1 h2 h3 h4
  refine ⟨rfl, ?_⟩
  cases rest with
  | nil=>simp [avA] at h3
  | cons s rest=>
   simp only [avA,List.map_nil,List.nil_append] at h3
   split at h3
   ·rename_i b hsl
    simp only [rdA,hsl] at h1
    split at h1
    ·rename_i r hr1
     cases h1
     obtain ⟨k,r',hk,hr',rfl⟩:=jT h2
     simp only at h3
     split at h3
     ·rename_i xs' cs1 hx
      split at h3
      ·rename_i r2 cs2 hav
       simp only [Option.some.injEq,Prod.mk.injEq,List.cons.injEq,AV.ints.injEq] at h3
       obtain ⟨⟨rfl,jdL⟩,hcs⟩:=h3
       subst jdL
       subst hcs
       cases rest with
       | nil=>
        simp only [rdA] at hr1
        cases hr1
        exact .inl ⟨s,b,k,cs1,rfl,hsl,rfl,hk,hx,fun c hcm=>h4 c (List.mem_append_left _ hcm)⟩
       | cons s2 rest2=>
        exfalso
        simp only [avA] at hav
        (repeat' split at hav) <;> simp at hav
      ·cases h3
     ·cases h3
    ·cases h1
   ·rename_i hsl
    split at h3
    ·rename_i jdL
     split at h3
     ·rename_i r2 cs2 hav
      simp only [Option.some.injEq,Prod.mk.injEq,List.cons.injEq,AV.ints.injEq] at h3
      obtain ⟨⟨hx,hn2⟩,hcs⟩:=h3
      subst hn2
      cases rest with
      | nil=>
       refine .inr ⟨?_,hx.symm⟩
       unfold jgO at jdL
       split at jdL
       ·rfl
       ·cases jdL
      | cons s2 rest2=>
       exfalso
       simp only [avA] at hav
       (repeat' split at hav) <;> simp at hav
     ·cases h3
    ·split at h3 <;> simp at h3
 | cons q pre ih=>
  intro rest rdB bl cs0 h1 h2 h3 h4
  cases rest with
  | nil=>simp [avA] at h3
  | cons s rest=>
   simp only [avA,List.map_cons,List.cons_append] at h3
   split at h3
   ·rename_i b hsl
    (repeat' split at h3) <;> simp at h3
   ·rename_i hsl
    split at h3
    ·(repeat' split at h3) <;> simp at h3
    ·split at h3
     ·rename_i r2 cs2 hav
      simp only [Option.some.injEq,Prod.mk.injEq,List.cons.injEq,AV.pl.injEq] at h3
      obtain ⟨⟨rfl,hr2⟩,rfl⟩:=h3
      simp only [rdA,hsl] at h1
      split at h1
      ·rename_i hq
       rw [hr2] at hav
       obtain ⟨i1,i2⟩:=ih rest rdB bl cs2 h1 h2 hav h4
       refine ⟨by simp only [jR,hq,i1], ?_⟩
       rcases i2 with ⟨s',b,k,cs',e1,e2⟩ | ⟨e1,e2⟩
       ·exact .inl ⟨s',b,k,cs',by rw [e1];rfl,e2⟩
       ·exact .inr ⟨by rw [e1];rfl,e2⟩
      ·cases h1
     ·cases h3
theorem jaD {f:FuncId} (ho:Own P f) {ty:TypeId} {es:Nat} {F:List AV→Bool→Option (LV×Bool×List (Bool×Bool))}
  (hF1:∀avs hb r,F avs hb=some r→∃(pre:List LV) (xs:List Int),avs=pre.map AV.pl++[.ints xs])
  (h:∀(pre:List LV) (xs:List Int) (hb:Bool) (v:LV) (h':Bool) (cs:List (Bool×Bool)),F (pre.map AV.pl++[.ints xs]) hb=some (v,h',cs)→(∀c∈cs,c.1=c.2)→jR pre=true→v.ok noP=true→
   (∀(k:Blk) (o n c:Nat),SlAt es k o n xs→n≤c→∀(E:Env) (w:World),Rel E (getM [(0,flag ty hb),(1,k)]) w→
    Calls P f ((A0::(pre++[.v (.one (.slx 1 o n c))])).map (LV.den E)).toArray w fun e w'=>e = .returned (v.den E0)∧Lcl E [(0,flag ty hb),(1,k)] [(0,flag ty h'),(1,k)] w w')∧
   (xs=[]→∀(E:Env) (w:World),Rel E (getM [(0,flag ty hb)]) w→
    Calls P f ((A0::(pre++[.v (.one .nilsl)])).map (LV.den E)).toArray w fun e w'=>e = .returned (v.den E0)∧Lcl E [(0,flag ty hb)] [(0,flag ty h')] w w')):SumOK P f (x9 ty es F):=by
 intro args t g nb p rdB wrB ans ws E w hs hr hw _ hgo hz hc hrel hg hargs hn
 unfold x9 at hs
 split at hs
 ·rename_i c rest
  split at hs
  ·rename_i bl hbl
   split at hs
   ·rename_i hmem
    cases hs
    simp only at hgo hw hr
    split at hgo
    ·rename_i t' hb
     split at hgo
     ·rename_i hty
      rw [kX] at hty
      have hty':t'=ty:=by simpa using hty
      subst hty'
      split at hgo
      ·rename_i avs cs0 has
       split at hgo
       ·rename_i v h' cs hF
        split at hgo
        ·rename_i hv
         cases hgo
         obtain ⟨kc,r',hkc,hr',hrr⟩:=jT hw
         cases kD hr'
         cases hrr
         simp only [Xi] at hz
         cases hz
         simp only at hc ⊢
         have hc0:∀c∈cs0,c.1=c.2:=fun c hcm=>hc c (List.mem_append_left _ hcm)
         have hc1:∀c∈cs,c.1=c.2:=fun c hcm=>hc c (List.mem_append_right _ hcm)
         obtain ⟨pre,xs,rfl⟩:=hF1 _ _ _ hF
         obtain ⟨hp,hcase⟩:=jj1 (es:=es) (xs:=xs) (g:=g) pre rest rdB bl cs0 hbl hr has hc0
         obtain ⟨H1,H2⟩:=h pre xs hb v h' cs hF hc1 hp hv
         have hpre:=plainVs_iff.1 hp
         have hf0:(⟨t',(0,0),0,[.bool hb]⟩:Blk)=flag t' hb:=rfl
         rw [hf0] at hkc
         rcases hcase with ⟨s,b,k,csl,rfl,hsl,rfl,hk,hsi,hcl0⟩ | ⟨rfl,hx⟩
         ·have hcb:c≠b:=fun e=>by rw [e] at hmem;simp [yH] at hmem
          obtain ⟨o,n,cc,hsa,hncc,hden⟩:=ya hsi hcl0 hsl (hrel.blk b k hk)
          generalize hE1:(fun i=>E (jaB c b i))=E1
          have hE:∀i,E1 i=E (jaB c b i):=fun i=>by rw [←hE1]
          have hcl:=H1 k o n cc hsa hncc E1 w (jrd hrel hkc hk hcb rfl hsa.2.2 (hE 0) (hE 1))
          refine Jn ho hE hrel hkc rfl rfl (fun i q hq=> ?_) (fun i q h0 hq=> ?_) (fun i q hq=> ?_) ?_ hv hcl
          ·rcases Xe hq with ⟨rfl,rfl⟩ | ⟨rfl,rfl⟩
           ·exact hkc
           ·exact hk
          ·rw [jm,if_neg h0] at hq ⊢;exact hq
          ·rcases Xe hq with ⟨rfl,rfl⟩ | ⟨rfl,rfl⟩
           ·rfl
           ·exact hsa.2.2
          ·simp only [List.map_cons,List.map_append,List.map_nil]
           rw [hden E1 1 (hE 1),jQ hpre,jQ (E:=E1) hpre]
           congr 1
           show LV.den E (.v (.one (.ptr c 0)))=LV.den E1 (.v (.one (.ptr 0 0)))
           simp only [LV.den,V1.den,At.den,hE,jaB]
         ·generalize hE1:(fun _:Nat=>E c)=E1
          have hE:∀i,E1 i=E ((fun _=>c) i):=fun i=>by rw [←hE1]
          have hcl:=H2 hx E1 w (jt1 hrel hkc rfl (hE 0))
          refine Jn ho hE hrel hkc rfl rfl (fun i q hq=> ?_) (fun i q h0 hq=> ?_) (fun i q hq=> ?_) ?_ hv hcl
          ·obtain ⟨rfl,rfl⟩:=jca hq;exact hkc
          ·exact absurd (jca hq).1 h0
          ·obtain ⟨rfl,rfl⟩:=jca hq;rfl
          ·simp only [List.map_cons,List.map_append,List.map_nil]
           rw [jQ hpre,jQ (E:=E1) hpre]
           congr 1
           show LV.den E (.v (.one (.ptr c 0)))=LV.den E1 (.v (.one (.ptr 0 0)))
           simp only [LV.den,V1.den,At.den,hE]
        ·cases hgo
       ·cases hgo
      ·cases hgo
     ·cases hgo
    ·cases hgo
   ·cases hs
  ·cases hs
 ·cases hs
end
end Go.Lr

/- Loops over blocks of numbers whose values do not matter: what stays is that they are numbers. -/
namespace Go.Lr
open Go.RowKit
structure AllI (l:List At) (n:Nat):Prop where
 len:l.length=n
 ats:∀o,o<n→isIntAt .i64 l o=true
theorem isIntAt_iff {l:List At} {o:Nat}:isIntAt .i64 l o=true↔∃x,l[o]? = some (.int .i64 x):=by
 unfold isIntAt
 rw [JU]
 constructor
 ·intro h
  split at h
  ·rename_i k' n hn
   have:=Jd h
   subst this
   exact ⟨n,hn⟩
  ·cases h
 ·rintro ⟨x,h⟩
  rw [h];rfl
theorem AllI.set {l:List At} {n:Nat} (h:AllI l n) (o:Nat) (x:Int):AllI (l.set o (.int .i64 x)) n:=by
 refine ⟨by rw [List.length_set];exact h.len,fun q hq=> ?_⟩
 rw [isIntAt_iff,List.getElem?_set]
 by_cases e:o=q
 ·subst e
  rw [if_pos rfl,if_pos (by rw [h.len];exact hq)]
  exact ⟨x,rfl⟩
 ·rw [if_neg e]
  exact isIntAt_iff.1 (h.ats q hq)
theorem AllI.isI {l:List At} {n:Nat} (h:AllI l n):j8 l=true:=by
 refine List.all_eq_true.2 fun a ha=> ?_
 obtain ⟨o,ho,rfl⟩:=List.getElem_of_mem ha
 obtain ⟨x,hx⟩:=isIntAt_iff.1 (h.ats o (by rw [←h.len];exact ho))
 rw [List.getElem?_eq_getElem ho] at hx
 rw [Option.some.inj hx];rfl
theorem ZK {l:List At} (h:j8 l=true):okL noP l=true:=by
 refine okL_iff.2 fun a ha=> ?_
 have:=List.all_eq_true.1 h a ha
 unfold jb9 at this
 split at this
 ·rfl
 ·cases this
theorem AllI.ok {l:List At} {n:Nat} (h:AllI l n):okL noP l=true:=ZK h.isI
theorem AllI.okb {l:List At} {n:Nat} (h:AllI l n) (nb:Nat):okL (below nb) l=true:=jn jo h.ok
theorem zy {l m:List At} (h:j8 l=true) (hm:∀a∈m,a∈l):j8 m=true:=List.all_eq_true.2 fun a ha=>List.all_eq_true.1 h a (hm a ha)
theorem AllI.part {l:List At} {n:Nat} (h:AllI l n) (o m:Nat):j8 ((l.drop o).take m)=true:=
 zy h.isI fun a ha=>List.mem_of_mem_drop (List.mem_of_mem_take ha)
theorem AllI.areI {l:List At} {n:Nat} (h:AllI l n):∀(m o:Nat),o+m≤n→jV l o m=true
 | 0,_,_=>rfl
 | m+1,o,hle=>by
  simp only [jV,Bool.and_eq_true]
  exact ⟨h.ats o (by omega),h.areI m (o+1) (by omega)⟩
theorem XJ (l:List At):∀(n o:Nat),(jp l o n).length=n
 | 0,_=>rfl
 | n+1,o=>by simp [jp,XJ l n]
theorem XK (l:List At):∀(n o:Nat),j8 (jp l o n)=true
 | 0,_=>rfl
 | n+1,o=>by show (true&&j8 (jp l (o+1) n))=true;rw [XK l n];rfl
theorem AllI.of {l:List At} {n:Nat} (h1:j8 l=true) (h2:l.length=n):AllI l n:=by
 refine ⟨h2,fun o ho=> ?_⟩
 have hlt:o<l.length:=by omega
 rw [isIntAt_iff,List.getElem?_eq_getElem hlt]
 have:=List.all_eq_true.1 h1 l[o] (List.getElem_mem hlt)
 generalize l[o]=a at this
 unfold jb9 at this
 split at this
 ·exact ⟨_,rfl⟩
 ·cases this
theorem AllI.ints (l:List At) (o n:Nat):AllI (jp l o n) n:= .of (XK l n o) (XJ l n o)
theorem AllI.eq {l:List At} {n:Nat} (h:AllI l n):l=jp l 0 n:=by
 have key:∀(m o:Nat),o+m=n→l.drop o=jp l o m:=by
  intro m
  induction m with
  | zero=>intro o ho;simp only [jp];rw [List.drop_of_length_le (by rw [h.len];omega)]
  | succ m ih=>
   intro o ho
   simp only [jp]
   obtain ⟨x,hx⟩:=isIntAt_iff.1 (h.ats o (by omega))
   have hlt:o<l.length:=by rw [h.len];omega
   rw [List.drop_eq_getElem_cons hlt,ih (o+1) (by omega)]
   congr 1
   rw [List.getElem?_eq_getElem hlt] at hx
   rw [Option.some.inj hx]
   unfold intAt
   rw [JU,List.getElem?_eq_getElem hlt,Option.some.inj hx]
 have:=key n 0 (by omega)
 rwa [List.drop_zero] at this
def yl:List At→Nat→Bool
 | [],0=>true
 | .int .i64 _::l,n+1=>yl l n
 | _,_=>false
theorem j7:∀{l:List At} {n:Nat},yl l n=true→AllI l n
 | [],0,_=>⟨rfl,fun o ho=>by omega⟩
 | [],n+1,h=>by simp [yl] at h
 | a::l,n,h=>by
  unfold yl at h
  split at h
  ·rename_i e;cases e
  ·rename_i x l' n' e
   cases e
   have:=j7 h
   exact .of (by show (true&&j8 l)=true;rw [this.isI];rfl) (by simp [this.len])
  ·cases h
def mkI (f:Nat→Int):Nat→Nat→List At
 | _,0=>[]
 | o,n+1=> .int .i64 (f o)::mkI f (o+1) n
theorem qP (l:List At):∀(n o:Nat),mkI (intAt l) o n=jp l o n
 | 0,_=>rfl
 | n+1,o=>by simp only [mkI,jp,qP l n]
theorem AllI.mkF (f:Nat→Int):∀(n o:Nat),AllI (mkI f o n) n
 | 0,o=>⟨rfl,fun q hq=>by omega⟩
 | n+1,o=> .of (by show (true&&j8 (mkI f (o+1) n))=true;rw [(AllI.mkF f n (o+1)).isI];rfl) (by simp [mkI,(AllI.mkF f n (o+1)).len])
section
variable {P:Program} {sz:Nat}
theorem KR.same {E:Env} {A B:Kst} {a:Act} {w:World} (h:KR E sz A a w) (hB:KstOK B) (hl:∀q∈B.live,∃v,(q.1,v)∈A.live∧∀E:Env,v.den E=q.2.den E) (hm:B.mem=A.mem):KR E sz B a w:=by
 refine ⟨hB,h.size,h.le,h.defers,fun q hq=> ?_,by rw [hm];exact h.rel⟩
 obtain ⟨v,hv,he⟩:=hl q hq
 rw [h.tm _ hv,he E]
theorem To.pre {c:Code} {A B C:Kst} {e:Ex} (h:To P sz c B e C) (hB:KstOK B) (hl:∀q∈B.live,∃v,(q.1,v)∈A.live∧∀E:Env,v.den E=q.2.den E) (hm:B.mem=A.mem) (hn:B.nb=A.nb):To P sz c A e C:=by
 intro E a w hr Q hQ
 have e1:A.ms=B.ms:=by unfold Kst.ms;rw [hm,hn]
 exact h E a w (hr.same hB hl hm) Q fun E' a' w' hr' hx'=>hQ E' a' w' hr' (by rw [e1];exact hx')
theorem To.post {c:Code} {A B C:Kst} {e:Ex} (h:To P sz c A e B) (hC:KstOK C) (hl:∀q∈C.live,∃v,(q.1,v)∈B.live∧∀E:Env,v.den E=q.2.den E) (hm:C.mem=B.mem) (hn:C.nb=B.nb):To P sz c A e C:=by
 intro E a w hr Q hQ
 have e1:C.ms=B.ms:=by unfold Kst.ms;rw [hm,hn]
 exact h E a w hr Q fun E' a' w' hr' hx'=>hQ E' a' w' (hr'.same hC hl hm) (by rw [e1];exact hx')
theorem jfH {σ:Type} {c:Code} {id:Nat} {A:Nat→σ→Kst} {B:σ→Kst} {ok:σ→Prop} {N:Nat} (hc:KE (c1 c)=true) (hb:jaH c=some id)
  (round:∀k s,k<N→ok s→∃s',ok s'∧To P sz (c1 (c1 c)) (A k s) .normal (A (k+1) s')) (last:∀s,ok s→To P sz (c1 (c1 c)) (A N s) (.exit id) (B s)):
  ∀s,ok s→∃s',ok s'∧To P sz c (A 0 s) .normal (B s'):=by
 have key:∀m k,k+m=N→∀s,ok s→∃s',ok s'∧Rd P sz (c1 (c1 c)) (m+1) (A k s) (.exit id) (B s'):=by
  intro m
  induction m with
  | zero=>
   intro k hk s hs
   have:k=N:=by omega
   subst this
   exact ⟨s,hs,Rd.last (by simp) (last s hs)⟩
  | succ m ih=>
   intro k hk s hs
   obtain ⟨s1,h1,h2⟩:=round k s (by omega) hs
   obtain ⟨s2,h3,h4⟩:=ih (k+1) (by omega) s1 h1
   exact ⟨s2,h3,Rd.next h2 h4⟩
 intro s hs
 obtain ⟨s',h1,h2⟩:=key N 0 (by omega) s hs
 exact ⟨s',h1,To.block hb (To.loop hc h2) (.inl rfl)⟩
end
theorem jH {nb:Nat}:jY nb []=true:=rfl
theorem jE {nb i:Nat} {b:Blk} {m:Mem} (h1:i<nb) (h2:okL (below nb) b.cells=true) (h3:getM m i=none) (h:jY nb m=true):jY nb ((i,b)::m)=true:=by
 unfold jY
 have:Nat.blt i nb=true:=by rw [zT];simpa using h1
 simp only [this,h2,h3]
 exact h
theorem aS {l:List At} {n:Nat} (h:AllI l n:=by repeat' first | assumption | apply AllI.set):AllI l n:=h
theorem mOF {nb i:Nat} {b:Blk} {m:Mem} (h:jY nb m=true) (h1:i<nb:=by exact Nat.lt_of_sub_eq_succ rfl) (h2:okL (below nb) b.cells=true:=by exact rfl) (h3:getM m i=none:=by exact rfl):jY nb ((i,b)::m)=true:=jE h1 h2 h3 h
theorem mOC (n:Nat) {nb i:Nat} {b:Blk} {m:Mem} (h:jY nb m=true) (h1:i<nb:=by exact Nat.lt_of_sub_eq_succ rfl) (h2:AllI b.cells n:=by repeat' first | assumption | apply AllI.set) (h3:getM m i=none:=by exact rfl):jY nb ((i,b)::m)=true:=jE h1 (h2.okb nb) h3 h
theorem jr {live:List (Nat×LV)} {m:Mem} {nb:Nat} (h1:kE nb live=true) (h2:jY nb m=true):KstOK ⟨live,m,nb⟩:=jI (by unfold jre;simp only [h1,h2])
end Go.Lr
namespace Go.Lr
open Go.RowKit
section
variable {P:Program} {S:FuncId→Option SumK} {z:Md}
def ExA (P:Program) (f:FuncId) (ty:TypeId) (args:List LV) (hb:Bool) (v:LV) (h':Bool):Prop:=
 ∀(w:World) (L:Loc),w.heap[L.blk]? = some (JI L ty hb)→Calls P f (L.ptr::args.map (LV.den E0)).toArray w fun e w'=>e = .returned (v.den E0)∧Turned L.blk (JI L ty h') w w'
theorem ZL {f:FuncId} {fn:Func} {c:Code} {args:List LV} {B:Kst} {e:Ex} {v:LV} {ty:TypeId} {h h':Bool} (hf:P.funcs[f]? = some fn) (hb:fn.body=some c)
  (hle:fn.ntmps≤60000) (hargs:(A0::args).length≤fn.ntmps) (ha:jR args=true)
  (hT:To P fn.ntmps c ⟨jS 0 (A0::args),[(0,flag ty h)],1⟩ e B) (he:e = .normal∨e = .ret)
  (hres:∀dead,km P fn.results.toList (getT (B.tm dead)) B.mem=some v) (hv:v.ok noP=true) (hm:getM B.mem 0=some (flag ty h')):ExA P f ty args h v h':=by
 intro w L hL
 have ha':=plainVs_iff.1 ha
 have hget:∀i c,getM [(0,flag ty h)] i=some c→i=0∧c=flag ty h:=by
  intro i c hc
  rw [jm] at hc
  by_cases hi:i=0
  ·rw [if_pos hi] at hc;cases hc;exact ⟨hi,rfl⟩
  ·rw [if_neg hi] at hc;simp [getM] at hc
 have hrel:Rel (fun _=>L) (getM [(0,flag ty h)]) w:=by
  refine ⟨fun i c hc=> ?_,fun i j hi hj _=> ?_⟩
  ·obtain ⟨rfl,rfl⟩:=hget i c hc
   exact ⟨[],hL,fun _=>rfl,fun hne=>absurd rfl hne⟩
  ·obtain ⟨c,hc⟩:=Option.isSome_iff_exists.1 hi
   obtain ⟨d,hd⟩:=Option.isSome_iff_exists.1 hj
   rw [(hget i c hc).1,(hget j d hd).1]
 have hargs':(A0::args).map (LV.den fun _=>L)=L.ptr::args.map (LV.den E0):=by
  rw [List.map_cons,jQ ha']
  simp [A0,LV.den,V1.den,At.den]
 have:=yA (m:=[(0,flag ty h)]) (nb:=1) hf hb hle hargs (fun u hu=>by
  rcases List.mem_cons.1 hu with rfl | hu
  ·rfl
  ·exact LV.ok_mono jo (ha' u hu)) (fun i c hc=>by
  obtain ⟨rfl,rfl⟩:=hget i c hc
  exact ⟨Nat.zero_lt_one,rfl⟩) ⟨rfl,trivial⟩ hT he hres (fun _=>L) w hrel
 rw [hargs'] at this
 refine this.mono fun e w' he=> ?_
 obtain ⟨E',rfl,hmr',hx⟩:=he
 refine ⟨by rw [kg hv],hx.os,hx.tape,hx.output,hx.size, ?_,fun k hk hne=>hx.frame k hk fun i hi he=> ?_⟩
 ·obtain ⟨r,g1,g2,_⟩:=hmr'.rel.blk 0 (flag ty h') hm
  rw [hx.agree 0 (by show 0<1;omega)] at g1
  rw [g1,g2 rfl]
  rfl
 ·exact hne he.symm
noncomputable def exQ (P:Program) (f:FuncId) (ty:TypeId) (n:Nat) (args:List LV) (hb:Bool):List At×Bool:=
 @Classical.epsilon (List At×Bool) ⟨([],false)⟩ fun q=>AllI q.1 n∧ExA P f ty args hb (.v (.agg q.1)) q.2
noncomputable def exN (P:Program) (f:FuncId) (ty:TypeId) (n:Nat) (args:List LV) (hb:Bool) (i:Nat):Int:=intAt (exQ P f ty n args hb).1 i
noncomputable def exH (P:Program) (f:FuncId) (ty:TypeId) (n:Nat) (args:List LV) (hb:Bool):Bool:=(exQ P f ty n args hb).2
noncomputable def exF (P:Program) (f:FuncId) (ty:TypeId) (okA:List LV→Bool) (n:Nat):List LV→Bool→Option (LV×Bool×List (Bool×Bool)):=fun args hb=>
 match okA args with
 | true=>some (.v (.agg (mkI (exN P f ty n args hb) 0 n)),exH P f ty n args hb,[])
 | false=>none
theorem jfI {f:FuncId} {ty:TypeId} {okA:List LV→Bool} {n:Nat} (ho:Own P f)
  (h:∀args hb,okA args=true→jR args=true→∃l h',AllI l n∧ExA P f ty args hb (.v (.agg l)) h'):SumOK P f (js ty (exF P f ty okA n)):=by
 refine JJ fun args hb v h' cs hF hc hp w L hL=> ?_
 unfold exF at hF
 split at hF
 ·rename_i hok
  cases hF
  obtain ⟨l,h',h1,h2⟩:=h args hb hok hp
  have hq:=@Classical.epsilon_spec_aux (List At×Bool) ⟨([],false)⟩ (fun q=>AllI q.1 n∧ExA P f ty args hb (.v (.agg q.1)) q.2) ⟨(l,h'),h1,h2⟩
  have e1:mkI (exN P f ty n args hb) 0 n=(exQ P f ty n args hb).1:=by
   have:exN P f ty n args hb=intAt (exQ P f ty n args hb).1:=rfl
   rw [this,qP]
   exact hq.1.eq.symm
  rw [e1]
  exact kN ho (hq.2 w L hL)
 ·cases hF
theorem XL {f:FuncId} {fn:Func} {c:Code} {args:List LV} {B:Kst} {e:Ex} {v:LV} (ho:Own P f) (hf:P.funcs[f]? = some fn) (hb:fn.body=some c)
  (hle:fn.ntmps≤60000) (hargs:args.length≤fn.ntmps) (ha:jR args=true) (h:To P fn.ntmps c ⟨jS 0 args,[],0⟩ e B) (he:e = .normal∨e = .ret)
  (hres:∀dead,km P fn.results.toList (getT (B.tm dead)) B.mem=some v) (hv:v.ok noP=true) (w:World):CallOK P f (args.map (LV.den E0)).toArray w fun u w'=>u=v.den E0∧Below w.heap.size w w':=
 kN ho (ye hf hb hle hargs ha h he hres hv w)
end
end Go.Lr
namespace Go.Lr
open Go.RowKit
section
variable {P:Program} {sz:Nat}
theorem qQ {σ:Type} {c:Code} {id:Nat} {A:Nat→σ→Kst} {B:σ→Kst} {ok:σ→Prop} {N:Nat} (hc:KE (c1 c)=true) (hb:jaH c=some id)
  (round:∀k s,k<N→ok s→∃s',ok s'∧To P sz (c1 (c1 c)) (A k s) .normal (A (k+1) s')) (last:∀s,ok s→∃s',ok s'∧To P sz (c1 (c1 c)) (A N s) (.exit id) (B s')):
  ∀s,ok s→∃s',ok s'∧To P sz c (A 0 s) .normal (B s'):=by
 have key:∀m k,k+m=N→∀s,ok s→∃s',ok s'∧Rd P sz (c1 (c1 c)) (m+1) (A k s) (.exit id) (B s'):=by
  intro m
  induction m with
  | zero=>
   intro k hk s hs
   have:k=N:=by omega
   subst this
   obtain ⟨s',h1,h2⟩:=last s hs
   exact ⟨s',h1,Rd.last (by simp) h2⟩
  | succ m ih=>
   intro k hk s hs
   obtain ⟨s1,h1,h2⟩:=round k s (by omega) hs
   obtain ⟨s2,h3,h4⟩:=ih (k+1) (by omega) s1 h1
   exact ⟨s2,h3,Rd.next h2 h4⟩
 intro s hs
 obtain ⟨s',h1,h2⟩:=key N 0 (by omega) s hs
 exact ⟨s',h1,To.block hb (To.loop hc h2) (.inl rfl)⟩
theorem To.lower {c:Code} {A:Kst} {e:Ex} {live:List (Nat×LV)} {mem:Mem} {n n':Nat} (h:To P sz c A e ⟨live,mem,n⟩) (hn:A.nb≤n') (hB:KstOK ⟨live,mem,n'⟩):To P sz c A e ⟨live,mem,n'⟩:=by
 intro E a w hr Q hQ
 refine h E a w hr Q fun E' a' w' hr' hx'=>hQ E' a' w' ⟨hB,hr'.size,hr'.le,hr'.defers,hr'.tm,hr'.rel⟩ ?_
 exact ⟨hn,hx'.agree,hx'.os,hx'.tape,hx'.output,hx'.size,hx'.frame,hx'.src⟩
end
end Go.Lr
namespace Go.Lr
def QB:List (Bool×Bool)→Bool
 | []=>true
 | (true,true)::l=>QB l
 | (false,false)::l=>QB l
 | (true,false)::_=>false
 | (false,true)::_=>false
theorem xW:∀{l:List (Bool×Bool)},QB l=true→∀c∈l,c.1=c.2
 | [],_,c,hc=>by cases hc
 | (true,true)::l,h,c,hc=>by
  rcases List.mem_cons.1 hc with rfl | hc
  ·rfl
  ·exact xW (l:=l) h c hc
 | (false,false)::l,h,c,hc=>by
  rcases List.mem_cons.1 hc with rfl | hc
  ·rfl
  ·exact xW (l:=l) h c hc
 | (true,false)::_,h,_,_=>by cases h
 | (false,true)::_,h,_,_=>by cases h
def jsZ (r:Option (LV×Mem×Nat×List (Bool×Bool))):Option (LV×Bool):=
 match r with
 | some (v,_,_,cs)=>some (v,QB cs)
 | none=>none
theorem jlj {r:Option (LV×Mem×Nat×List (Bool×Bool))} {v:LV} (h:jsZ r=some (v,true)):∃cs,r.map (fun r=>(r.1,r.2.2.2))=some (v,cs)∧∀c∈cs,c.1=c.2:=by
 unfold jsZ at h
 split at h
 ·rename_i v' m nb cs
  simp only [Option.some.injEq,Prod.mk.injEq] at h
  obtain ⟨rfl,h⟩:=h
  exact ⟨cs,rfl,xW h⟩
 ·cases h
end Go.Lr

/- States with holes: what a stage comes to, but for numbers that do not matter. -/
namespace Go.Lr
open Go.RowKit
inductive P1 where
 | lit (a:At)
 | hi
 | hb
def XP:List (Nat×Nat)→List (Nat×Nat)→Bool
 | [],[]=>true
 | (a,b)::l,(c,d)::m=>match Nat.beq a c with
  | true=>match Nat.beq b d with
   | true=>XP l m
   | false=>false
  | false=>false
 | _,_=>false
theorem ZY:∀{l m:List (Nat×Nat)},XP l m=true→l=m
 | [],[],_=>rfl
 | [],_::_,h=>by simp [XP] at h
 | _::_,[],h=>by simp [XP] at h
 | (a,b)::l,(c,d)::m,h=>by
  unfold XP at h
  split at h
  ·rename_i h1
   split at h
   ·rename_i h2
    rw [Nat.eq_of_beq_eq_true h1,Nat.eq_of_beq_eq_true h2,ZY h]
   ·cases h
  ·cases h
def jhe (a b c d e f:Nat):Bool:=match Nat.beq a b with
 | true=>match Nat.beq c d with
  | true=>Nat.beq e f
  | false=>false
 | false=>false
theorem ym {a b c d e f:Nat} (h:jhe a b c d e f=true):a=b∧c=d∧e=f:=by
 unfold jhe at h
 split at h
 ·rename_i h1
  split at h
  ·rename_i h2
   exact ⟨Nat.eq_of_beq_eq_true h1,Nat.eq_of_beq_eq_true h2,Nat.eq_of_beq_eq_true h⟩
  ·cases h
 ·cases h
def eqA:At→At→Bool
 | .int k n,.int l m=>match Qh k l with
  | true=>decide (n=m)
  | false=>false
 | .bool a,.bool b=>match a,b with
  | true,true=>true
  | false,false=>true
  | _,_=>false
 | .ptr b o,.ptr c p=>jhe b c o p 0 0
 | .nilp,.nilp=>true
 | .sl b o l c,.sl b' o' l' c'=>match Nat.beq b b' with
  | true=>jhe o o' l l' c c'
  | false=>false
 | .slu b l,.slu b' l'=>jhe b b' l l' 0 0
 | .slx b o l c,.slx b' o' l' c'=>match Nat.beq b b' with
  | true=>jhe o o' l l' c c'
  | false=>false
 | .ptx b o,.ptx c p=>jhe b c o p 0 0
 | .nilsl,.nilsl=>true
 | .slt b o n,.slt b' o' n'=>jhe b b' o o' n n'
 | .slv b l,.slv b' l'=>jhe b b' l l' 0 0
 | .fn f l,.fn g m=>match Nat.beq f g with
  | true=>XP l m
  | false=>false
 | _,_=>false
theorem jpi {a b:At} (h:eqA a b=true):a=b:=by
 unfold eqA at h
 split at h
 ·split at h
  ·rename_i h1
   rw [Jd h1,of_decide_eq_true h]
  ·cases h
 ·split at h <;> first | rfl | cases h
 ·obtain ⟨rfl,rfl,_⟩:=ym h;rfl
 ·rfl
 ·split at h
  ·rename_i h1
   obtain ⟨rfl,rfl,rfl⟩:=ym h
   rw [Nat.eq_of_beq_eq_true h1]
  ·cases h
 ·obtain ⟨rfl,rfl,_⟩:=ym h;rfl
 ·split at h
  ·rename_i h1
   obtain ⟨rfl,rfl,rfl⟩:=ym h
   rw [Nat.eq_of_beq_eq_true h1]
  ·cases h
 ·obtain ⟨rfl,rfl,_⟩:=ym h;rfl
 ·rfl
 ·obtain ⟨rfl,rfl,rfl⟩:=ym h;rfl
 ·obtain ⟨rfl,rfl,_⟩:=ym h;rfl
 ·split at h
  ·rename_i h1
   have e:_=_:=Nat.eq_of_beq_eq_true h1
   rw [e,ZY h]
  ·cases h
 ·cases h
def jpj:P1→At→Bool
 | .lit a,b=>eqA b a
 | .hi,.int .i64 _=>true
 | .hb,.bool _=>true
 | _,_=>false
def jpk (x:Int) (y:Bool):P1→At
 | .lit a=>a
 | .hi=> .int .i64 x
 | .hb=> .bool y
def iA:At→Int
 | .int _ n=>n
 | _=>0
def bA:At→Bool
 | .bool b=>b
 | _=>false
theorem jbp {p:P1} {a:At} (h:jpj p a=true):a=jpk (iA a) (bA a) p:=by
 unfold jpj at h
 split at h
 ·exact jpi h
 ·rfl
 ·rfl
 ·cases h
def jjK:List P1→List At→Bool
 | [],[]=>true
 | p::ps,a::l=>match jpj p a with
  | true=>jjK ps l
  | false=>false
 | _,_=>false
def jjL (f:Nat→Int) (g:Nat→Bool):Nat→List P1→List At
 | _,[]=>[]
 | o,p::ps=>jpk (f o) (g o) p::jjL f g (o+1) ps
def qd (l:List At) (o:Nat):At:=(l[o]?).getD .nilp
theorem jfR:∀{ps:List P1} {l:List At} {o:Nat} {f:Nat→Int} {g:Nat→Bool},jjK ps l=true→(∀k a,l[k]? = some a→f (o+k)=iA a∧g (o+k)=bA a)→l=jjL f g o ps
 | [],[],_,_,_,_,_=>rfl
 | [],_::_,_,_,_,h,_=>by simp [jjK] at h
 | _::_,[],_,_,_,h,_=>by simp [jjK] at h
 | p::ps,a::l,o,f,g,h,hf=>by
  unfold jjK at h
  split at h
  ·rename_i h1
   have h0:=hf 0 a rfl
   have e:=jbp h1
   simp only [jjL]
   rw [show f o=iA a from h0.1,show g o=bA a from h0.2,←e,←jfR h fun k b hk=>by
    have:=hf (k+1) b (by simpa using hk)
    rwa [show o+(k+1)=o+1+k by omega] at this]
  ·cases h
theorem jcU {ps:List P1} {l:List At} (h:jjK ps l=true):l=jjL (fun o=>iA (qd l o)) (fun o=>bA (qd l o)) 0 ps:=
 jfR h fun k a hk=>by simp [qd,hk]
inductive PV where
 | one (p:P1)
 | agg (l:List P1)
structure PB where
 ty:TypeId
 fr:Nat×Nat
 es:Nat
 cells:List P1
structure Asg where
 F:Nat→Nat→Int
 G:Nat→Nat→Bool
 fs:Nat→Nat→Int
 gs:Nat→Nat→Bool
structure PS where
 live:List (Nat×PV)
 mem:List (Nat×PB)
 nb:Nat
def ju0 (f:Nat→Int) (g:Nat→Bool):PV→LV
 | .one p=> .v (.one (jpk (f 0) (g 0) p))
 | .agg l=> .v (.agg (jjL f g 0 l))
def ju1 (f:Nat→Int) (g:Nat→Bool) (b:PB):Blk:=⟨b.ty,b.fr,b.es,jjL f g 0 b.cells⟩
def jfS (s:Asg):List (Nat×PV)→List (Nat×LV)
 | []=>[]
 | (i,p)::l=>(i,ju0 (s.fs i) (s.gs i) p)::jfS s l
def jqY (s:Asg):List (Nat×PB)→Mem
 | []=>[]
 | (i,p)::l=>(i,ju1 (s.F i) (s.G i) p)::jqY s l
def JX (s:Asg) (p:PS):Kst:=⟨jfS s p.live,jqY s p.mem,p.nb⟩
def jtx:PV→LV→Bool
 | .one p,.v (.one a)=>jpj p a
 | .agg l,.v (.agg m)=>jjK l m
 | _,_=>false
def qv:LV→List At
 | .v (.one a)=>[a]
 | .v (.agg l)=>l
 | _=>[]
theorem jlx {p:PV} {v:LV} (h:jtx p v=true):v=ju0 (fun o=>iA (qd (qv v) o)) (fun o=>bA (qd (qv v) o)) p:=by
 unfold jtx at h
 split at h
 ·rename_i p a
  have e:=jbp h
  show _=LV.v (.one (jpk (iA a) (bA a) p))
  rw [←e]
 ·rename_i l m
  have e:=jcU h
  show _=LV.v (.agg (jjL (fun o=>iA (qd m o)) (fun o=>bA (qd m o)) 0 l))
  rw [←e]
 ·cases h
def fr2 (a b:Nat×Nat):Bool:=match a,b with
 | (x,y),(z,w)=>jhe x z y w 0 0
def jpl (p:PB) (b:Blk):Bool:=match Nat.beq b.ty p.ty with
 | true=>match fr2 b.fr p.fr with
  | true=>match Nat.beq b.es p.es with
   | true=>jjK p.cells b.cells
   | false=>false
  | false=>false
 | false=>false
theorem jbq {p:PB} {b:Blk} (h:jpl p b=true):b=ju1 (fun o=>iA (qd b.cells o)) (fun o=>bA (qd b.cells o)) p:=by
 unfold jpl at h
 split at h
 ·rename_i h1
  split at h
  ·rename_i h2
   split at h
   ·rename_i h3
    have e:=jcU h
    obtain ⟨ty,⟨x,y⟩,es,cells⟩:=b
    obtain ⟨ty',⟨x',y'⟩,es',ps⟩:=p
    simp only [fr2] at h2
    obtain ⟨rfl,rfl,_⟩:=ym h2
    have e1:ty=ty':=Nat.eq_of_beq_eq_true h1
    have e2:es=es':=Nat.eq_of_beq_eq_true h3
    subst e1
    subst e2
    show _=Blk.mk ty (x,y) es (jjL (fun o=>iA (qd cells o)) (fun o=>bA (qd cells o)) 0 ps)
    rw [←e]
   ·cases h
  ·cases h
 ·cases h
def jfT:List (Nat×PV)→List LV→Bool
 | [],[]=>true
 | (_,p)::l,v::m=>match jtx p v with
  | true=>jfT l m
  | false=>false
 | _,_=>false
def jbr:List (Nat×PB)→List (Option Blk)→Bool
 | [],[]=>true
 | (_,p)::l,some b::m=>match jpl p b with
  | true=>jbr l m
  | false=>false
 | _,_=>false
theorem jcV {s:Asg}:∀{l:List (Nat×PV)} {m:List LV} {h:Nat→LV},jfT l m=true→(l.map (·.1)).map h=m→(∀k,s.fs k=(fun o=>iA (qd (qv (h k)) o))∧s.gs k=(fun o=>bA (qd (qv (h k)) o)))→(l.map (·.1)).zip m=jfS s l
 | [],_,_,_,_,_=>rfl
 | (i,p)::l,[],_,h,_,_=>by simp [jfT] at h
 | (i,p)::l,v::m,hh,h,he,hs=>by
  unfold jfT at h
  split at h
  ·rename_i h1
   simp only [List.map_cons,List.cons.injEq] at he
   have e:=jlx h1
   simp only [List.map_cons,List.zip_cons_cons,jfS]
   rw [jcV h he.2 hs,(hs i).1,(hs i).2,he.1,←e]
  ·cases h
theorem jcW {s:Asg}:∀{l:List (Nat×PB)} {m:List (Option Blk)} {h:Nat→Option Blk},jbr l m=true→(l.map (·.1)).map h=m→
  (∀k b,h k=some b→s.F k=(fun o=>iA (qd b.cells o))∧s.G k=(fun o=>bA (qd b.cells o)))→∃bs,m=bs.map some∧(l.map (·.1)).zip bs=jqY s l
 | [],[],_,_,_,_=>⟨[],rfl,rfl⟩
 | [],_::_,_,h,_,_=>by simp [jbr] at h
 | (i,p)::l,[],_,h,_,_=>by simp [jbr] at h
 | (i,p)::l,none::m,_,h,_,_=>by simp [jbr] at h
 | (i,p)::l,some b::m,hh,h,he,hs=>by
  unfold jbr at h
  split at h
  ·rename_i h1
   simp only [List.map_cons,List.cons.injEq] at he
   have e:=jbq h1
   obtain ⟨bs,g1,g2⟩:=jcW h he.2 hs
   have h2:=hs i b he.1
   refine ⟨b::bs,by simp [g1], ?_⟩
   simp only [List.map_cons,List.zip_cons_cons,jqY]
   rw [g2,h2.1,h2.2,←e]
  ·cases h
def exB:Ex→Ex→Bool
 | .normal,.normal=>true
 | .ret,.ret=>true
 | .exit a,.exit b=>Nat.beq a b
 | _,_=>false
theorem jcX {a b:Ex} (h:exB a b=true):a=b:=by
 unfold exB at h
 split at h
 ·rfl
 ·rfl
 ·rw [Nat.eq_of_beq_eq_true h]
 ·cases h
def jjM (p:PS) (e:Ex) (r:Option (Ex×List LV×List (Option Blk)×List (Bool×Bool))):Bool:=
 match r with
 | some (e0,vs,bs,cs)=>match exB e0 e with
  | true=>match jfT p.live vs with
   | true=>match jbr p.mem bs with
    | true=>QB cs
    | false=>false
   | false=>false
  | false=>false
 | none=>false
def ToP (P:Program) (sz:Nat) (c:Code) (A:Kst) (e:Ex) (B:Kst→Prop):Prop:=
 ∀E a w,KR E sz A a w→∀Q:Exit→Act→World→Prop,(∀B0,B B0→∀E' a' w',KR E' sz B0 a' w'→Ext w E A.ms w' E' B0.ms→Q e.to a' w')→c.wp P Q a w
def Fil (p:PS) (B:Kst):Prop:=∃s,B=JX s p
section
variable {P:Program} {S:FuncId→Option SumK} {z:Md} {sz:Nat}
theorem ToP.run (hs:Sound P S) {c:Code} {A:Kst} {e:Ex} {p:PS} {n:Nat} {dec:List (Option Bool)}
  (hrun:∀dead,jjM p e (ju (p.live.map (·.1)) (p.mem.map (·.1)) (Go.Lr.exec P S z n (.code c) (A.st sz dead dec)))=true)
  (hB:∀s,jre (JX s p)=true) (hnb:Nat.ble A.nb p.nb=true):ToP P sz c A e (Fil p):=by
 intro E a w hk Q hQ
 have hr:=hk.toR dec
 have h:=hrun fun t=>a.tmps.getD t undef
 cases hp:ju (p.live.map (·.1)) (p.mem.map (·.1)) (Go.Lr.exec P S z n (.code c) (A.st sz (fun t=>a.tmps.getD t undef) dec)) with
 | none=>rw [hp] at h;cases h
 | some q=>
  obtain ⟨e0,vs,bs,cs⟩:=q
  rw [hp] at h
  simp only [jjM] at h
  split at h
  ·rename_i he
   split at h
   ·rename_i hv
    split at h
    ·rename_i hb
     have hcs:=xW h
     have:=jcX he
     subst this
     unfold ju at hp
     split at hp
     ·rename_i e' s' hex
      simp only [Option.some.injEq,Prod.mk.injEq] at hp
      obtain ⟨rfl,gv,gb,rfl⟩:=hp
      obtain ⟨e2,q1,q2,q3,q4,q5,q6⟩:=(ki (z9 P) hs.sums hs.mix hs.ng n).1 c _ _ s' hex hk.le hr.st
      cases q1
      let s:Asg:=⟨fun k o=>iA (qd ((getM s'.mem k).elim [] (·.cells)) o),fun k o=>bA (qd ((getM s'.mem k).elim [] (·.cells)) o),fun k o=>iA (qd (qv (getT s'.tm k)) o),fun k o=>bA (qd (qv (getT s'.tm k)) o)⟩
      have e1:(p.live.map (·.1)).zip vs=jfS s p.live:=jcV (h:=getT s'.tm) hv gv fun k=>⟨rfl,rfl⟩
      obtain ⟨bs',rfl,e3⟩:=jcW (s:=s) (h:=getM s'.mem) hb gb fun k b hb=>⟨by show (fun o=>iA (qd ((getM s'.mem k).elim [] (·.cells)) o))=_;rw [hb];rfl,by show (fun o=>bA (qd ((getM s'.mem k).elim [] (·.cells)) o))=_;rw [hb];rfl⟩
      have hB':KstOK ⟨(p.live.map (·.1)).zip vs,(p.mem.map (·.1)).zip bs',p.nb⟩:=by rw [e1,e3];exact jI (hB s)
      have hnb':=Nat.le_of_ble_eq_true hnb
      refine q6 hcs E a w hr Q fun E' a' w' hr' hx=> ?_
      have hsub:=xJ (p.mem.map (·.1)) bs' (getM s'.mem) gb
      refine hQ (JX s p) ⟨s,rfl⟩ E' a' w' ?_ ?_
      ·have:JX s p=⟨(p.live.map (·.1)).zip vs,(p.mem.map (·.1)).zip bs',p.nb⟩:=by rw [e1,e3];rfl
       rw [this]
       refine ⟨hB',hr'.size.trans q4,hk.le,hr'.defers,fun q hq=> ?_,⟨fun i b hib=>hr'.m.rel.blk i b (hsub i b hib),fun i j hi hj he=>hr'.m.rel.inj i j ?_ ?_ he⟩⟩
       ·rw [hr'.tm q.1,xK (p.live.map (·.1)) vs (getT s'.tm) gv q hq]
       ·obtain ⟨b,hib⟩:=Option.isSome_iff_exists.1 hi;simp [hsub i b hib]
       ·obtain ⟨b,hjb⟩:=Option.isSome_iff_exists.1 hj;simp [hsub j b hjb]
      ·have:(JX s p).ms=(Kst.mk ((p.live.map (·.1)).zip vs) ((p.mem.map (·.1)).zip bs') p.nb).ms:=by rw [e1,e3];rfl
       rw [this]
       refine ⟨hnb',hx.agree,hx.os,hx.tape,hx.output,hx.size,hx.frame,fun i hi=>hx.src i ?_⟩
       obtain ⟨b,hib⟩:=Option.isSome_iff_exists.1 hi
       simp [hsub i b hib]
     ·cases hp
    ·cases h
   ·cases h
  ·cases h
theorem ToP.mono {c:Code} {A:Kst} {e:Ex} {B C:Kst→Prop} (h:ToP P sz c A e B) (k:∀x,B x→C x):ToP P sz c A e C:=
 fun E a w hr Q hQ=>h E a w hr Q fun B0 hB0=>hQ B0 (k B0 hB0)
theorem ToP.seq {c:Code} {A:Kst} {e:Ex} {B C:Kst→Prop} (hc:JW c=true) (h:ToP P sz (c1 c) A .normal B) (k:∀x,B x→ToP P sz (c2 c) x e C):ToP P sz c A e C:=by
 cases c <;> simp only [JW,Bool.false_eq_true] at hc
 intro E a w hr Q hQ
 refine wp_seq (h E a w hr _ fun B0 hB E' a' w' hr' hx'=> ?_)
 exact k B0 hB E' a' w' hr' Q fun C0 hC E'' a'' w'' hr'' hx''=>hQ C0 hC E'' a'' w'' hr'' (hx'.trans hx'')
theorem ToP.seq_out {c:Code} {A:Kst} {e:Ex} {B:Kst→Prop} (hc:JW c=true) (he:e≠ .normal) (h:ToP P sz (c1 c) A e B):ToP P sz c A e B:=by
 cases c <;> simp only [JW,Bool.false_eq_true] at hc
 intro E a w hr Q hQ
 refine wp_seq (h E a w hr _ fun B0 hB E' a' w' hr' hx'=> ?_)
 have:=hQ B0 hB E' a' w' hr' hx'
 cases e <;> first | exact absurd rfl he | exact this
theorem ToP.block {c:Code} {id:Nat} {A:Kst} {e:Ex} {B:Kst→Prop} (hc:jaH c=some id) (h:ToP P sz (c1 c) A e B) (he:e = .exit id∨e = .normal):ToP P sz c A .normal B:=by
 cases c <;> simp only [jaH,reduceCtorEq] at hc
 cases hc
 intro E a w hr Q hQ
 refine wp_block (h E a w hr _ fun B0 hB E' a' w' hr' hx'=> ?_)
 have:=hQ B0 hB E' a' w' hr' hx'
 rcases he with rfl | rfl
 ·simpa only [Ex.to,Exit.inBlock,if_true] using this
 ·exact this
def RdP (P:Program) (sz:Nat) (c:Code) (m:Nat) (A:Kst) (e:Ex) (B:Kst→Prop):Prop:=
 ∀E a w,KR E sz A a w→∀Q:Exit→Act→World→Prop,(∀B0,B B0→∀E' a' w',KR E' sz B0 a' w'→Ext w E A.ms w' E' B0.ms→Q e.to a' w')→Code.rounds P c Q m a w
theorem RdP.last {c:Code} {A:Kst} {e:Ex} {B:Kst→Prop} (he:e≠ .normal) (h:ToP P sz c A e B):RdP P sz c 1 A e B:=by
 intro E a w hr Q hQ
 rw [rounds_succ]
 refine h E a w hr _ fun B0 hB E' a' w' hr' hx'=> ?_
 have:=hQ B0 hB E' a' w' hr' hx'
 cases e <;> first | exact absurd rfl he | exact this
theorem RdP.next {c:Code} {A:Kst} {e:Ex} {B C:Kst→Prop} {m:Nat} (h:ToP P sz c A .normal B) (k:∀x,B x→RdP P sz c m x e C):RdP P sz c (m+1) A e C:=by
 intro E a w hr Q hQ
 rw [rounds_succ]
 refine h E a w hr _ fun B0 hB E' a' w' hr' hx'=> ?_
 exact k B0 hB E' a' w' hr' Q fun C0 hC E'' a'' w'' hr'' hx''=>hQ C0 hC E'' a'' w'' hr'' (hx'.trans hx'')
theorem ToP.loop {c:Code} {A:Kst} {e:Ex} {B:Kst→Prop} {m:Nat} (hc:KE c=true) (h:RdP P sz (c1 c) m A e B):ToP P sz c A e B:=by
 cases c <;> simp only [KE,Bool.false_eq_true] at hc
 exact fun E a w hr Q hQ=>wp_loop_rounds m (h E a w hr Q hQ)
theorem jbs {f:FuncId} {fn:Func} {c:Code} {args:List LV} {B:Kst→Prop} {e:Ex} {v:LV} (ho:Own P f) (hf:P.funcs[f]? = some fn) (hb:fn.body=some c)
  (hle:fn.ntmps≤60000) (hargs:args.length≤fn.ntmps) (ha:jR args=true) (h:ToP P fn.ntmps c ⟨jS 0 args,[],0⟩ e B) (he:e = .normal∨e = .ret)
  (hres:∀x,B x→∀dead,km P fn.results.toList (getT (x.tm dead)) x.mem=some v) (hv:v.ok noP=true) (w:World):CallOK P f (args.map (LV.den E0)).toArray w fun u w'=>u=v.den E0∧Below w.heap.size w w':=by
 have ha':=plainVs_iff.1 ha
 refine kN ho (calls_of_wp hf hb (h E0 _ w ⟨⟨fun q hq=> ?_,(zn args 0).1,fun q hq=> ?_,fun i b h=>by simp [getM] at h,trivial⟩,by simp;omega,hle,rfl,fun q hq=> ?_,⟨fun i b h=>by simp [getM] at h,fun i j h=>by simp [getM] at h⟩⟩ _ fun B0 hB E' a' w' hr' hx'=> ?_))
 ·have:=(ky args 0 q).1 hq
  have:=(List.getElem?_eq_some_iff.1 this.2).1
  omega
 ·exact LV.ok_mono jo (ha' q.2 (List.mem_of_getElem? ((ky args 0 q).1 hq).2))
 ·have:=((ky args 0 q).1 hq).2
  simp only [Nat.sub_zero] at this
  have hlt:=(List.getElem?_eq_some_iff.1 this).1
  simp only [Array.getD_eq_getD_getElem?,Array.getElem?_append,List.size_toArray,List.length_map]
  rw [if_pos hlt]
  simp [this]
 ·have hR:=hr'.toR []
  have hpost:bodyPost P fn (fun e w'=>e = .returned (v.den E0)∧Below w.heap.size w w') .ret a' w':=by
   refine ⟨hr'.defers,v.den E',qx hR.m.rel hR.tm (hres B0 hB _), ?_, ?_⟩
   ·rw [kg hv]
   ·exact ⟨hx'.os,hx'.tape,hx'.output,hx'.size,fun k hk=>hx'.frame k hk fun i hi=>by simp [getM,Kst.ms] at hi⟩
  rcases he with rfl | rfl
  ·exact hpost
  ·exact hpost
end
end Go.Lr
namespace Go.Lr
abbrev pI (n:Int):P1:= .lit (.int .i64 n)
abbrev pL (a:At):P1:= .lit a
abbrev pB (x:Bool):P1:= .lit (.bool x)
def rp:Nat→P1→List P1
 | 0,_=>[]
 | n+1,p=>p::rp n p
end Go.Lr

/- States with holes and with numbers told by a term; asks that are not closed are left to prove. -/
namespace Go.Lr
open Go.RowKit
inductive P2 where
 | old (p:P1)
 | sym (x:Int)
 | raw (a:At)
inductive Ob where
 | oi (x y:Int)
 | oa (x y:At)
 | ol (x y:List At)
 | ob (x y:Blk)
def Ob.ok:Ob→Prop
 | .oi x y=>x=y
 | .oa x y=>x=y
 | .ol x y=>x=y
 | .ob x y=>x=y
def jqZ:P2→At→Option (List Ob)
 | .old p,a=>match jpj p a with
  | true=>some []
  | false=>none
 | .raw x,a=>some [.oa a x]
 | .sym x,.int .i64 n=>some [.oi n x]
 | .sym _,_=>none
def jpm (x:Int) (y:Bool):P2→At
 | .old p=>jpk x y p
 | .sym n=> .int .i64 n
 | .raw a=>a
def AllOb (l:List Ob):Prop:=∀q∈l,q.ok
theorem jfU {p:P2} {a:At} {es:List Ob} (h:jqZ p a=some es) (he:AllOb es):a=jpm (iA a) (bA a) p:=by
 unfold jqZ at h
 split at h
 ·split at h
  ·rename_i h1
   exact jbp h1
  ·cases h
 ·cases h
  exact he _ (List.mem_singleton.2 rfl)
 ·cases h
  rename_i x n
  have h1:n=x:=he (.oi n x) (List.mem_singleton.2 rfl)
  simp only [jpm]
  rw [h1]
 ·cases h
def ZZ:List P2→List At→Option (List Ob)
 | [],[]=>some []
 | p::ps,a::l=>match jqZ p a with
  | some es=>match ZZ ps l with
   | some fs=>some (es++fs)
   | none=>none
  | none=>none
 | _,_=>none
def Xo (f:Nat→Int) (g:Nat→Bool):Nat→List P2→List At
 | _,[]=>[]
 | o,p::ps=>jpm (f o) (g o) p::Xo f g (o+1) ps
theorem AllOb.left {l m:List Ob} (h:AllOb (l++m)):AllOb l:=fun q hq=>h q (List.mem_append_left m hq)
theorem AllOb.right {l m:List Ob} (h:AllOb (l++m)):AllOb m:=fun q hq=>h q (List.mem_append_right l hq)
theorem jcY:∀{ps:List P2} {l:List At} {o:Nat} {f:Nat→Int} {g:Nat→Bool} {es:List Ob},ZZ ps l=some es→AllOb es→(∀k a,l[k]? = some a→f (o+k)=iA a∧g (o+k)=bA a)→l=Xo f g o ps
 | [],[],_,_,_,_,_,_,_=>rfl
 | [],_::_,_,_,_,_,h,_,_=>by simp [ZZ] at h
 | _::_,[],_,_,_,_,h,_,_=>by simp [ZZ] at h
 | p::ps,a::l,o,f,g,es,h,he,hf=>by
  unfold ZZ at h
  split at h
  ·rename_i es1 h1
   split at h
   ·rename_i es2 h2
    cases h
    have h0:=hf 0 a rfl
    have e:=jfU h1 he.left
    simp only [Xo]
    rw [show f o=iA a from h0.1,show g o=bA a from h0.2,←e,←jcY h2 he.right fun k b hk=>by
     have:=hf (k+1) b (by simpa using hk)
     rwa [show o+(k+1)=o+1+k by omega] at this]
   ·cases h
  ·cases h
theorem Z0 {ps:List P2} {l:List At} {es:List Ob} (h:ZZ ps l=some es) (he:AllOb es):l=Xo (fun o=>iA (qd l o)) (fun o=>bA (qd l o)) 0 ps:=
 jcY h he fun k a hk=>by simp [qd,hk]
inductive PV2 where
 | one (p:P2)
 | agg (l:List P2)
structure PB2 where
 ty:TypeId
 fr:Nat×Nat
 es:Nat
 cells:List P2
 raw:Option (List At):=none
structure PS2 where
 live:List (Nat×PV2)
 mem:List (Nat×PB2)
 nb:Nat
def jpn (f:Nat→Int) (g:Nat→Bool):PV2→LV
 | .one p=> .v (.one (jpm (f 0) (g 0) p))
 | .agg l=> .v (.agg (Xo f g 0 l))
def jty (f:Nat→Int) (g:Nat→Bool) (ps:List P2):Option (List At)→List At
 | none=>Xo f g 0 ps
 | some l=>l
def jpo (f:Nat→Int) (g:Nat→Bool) (b:PB2):Blk:=⟨b.ty,b.fr,b.es,jty f g b.cells b.raw⟩
def Kw (s:Asg):List (Nat×PV2)→List (Nat×LV)
 | []=>[]
 | (i,p)::l=>(i,jpn (s.fs i) (s.gs i) p)::Kw s l
def z4 (s:Asg):List (Nat×PB2)→Mem
 | []=>[]
 | (i,p)::l=>(i,jpo (s.F i) (s.G i) p)::z4 s l
def je (s:Asg) (p:PS2):Kst:=⟨Kw s p.live,z4 s p.mem,p.nb⟩
def jly:PV2→LV→Option (List Ob)
 | .one p,.v (.one a)=>jqZ p a
 | .agg l,.v (.agg m)=>ZZ l m
 | _,_=>none
theorem jib {p:PV2} {v:LV} {es:List Ob} (h:jly p v=some es) (he:AllOb es):v=jpn (fun o=>iA (qd (qv v) o)) (fun o=>bA (qd (qv v) o)) p:=by
 unfold jly at h
 split at h
 ·rename_i p a
  have e:=jfU h he
  show _=LV.v (.one (jpm (iA a) (bA a) p))
  rw [←e]
 ·rename_i l m
  have e:=Z0 h he
  show _=LV.v (.agg (Xo (fun o=>iA (qd m o)) (fun o=>bA (qd m o)) 0 l))
  rw [←e]
 ·cases h
def jic (p:PB2) (b:Blk):Option (List Ob):=match p.raw with
 | some l=>some [.ob b ⟨p.ty,p.fr,p.es,l⟩]
 | none=>match Nat.beq b.ty p.ty with
  | true=>match fr2 b.fr p.fr with
   | true=>match Nat.beq b.es p.es with
    | true=>ZZ p.cells b.cells
    | false=>none
   | false=>none
  | false=>none
theorem jid {p:PB2} {b:Blk} {es:List Ob} (h:jic p b=some es) (he:AllOb es):b=jpo (fun o=>iA (qd b.cells o)) (fun o=>bA (qd b.cells o)) p:=by
 obtain ⟨ty',⟨x',y'⟩,es',ps,rw⟩:=p
 cases rw with
 | some l=>
  simp only [jic,Option.some.injEq] at h
  subst h
  exact he _ (List.mem_singleton.2 rfl)
 | none=>
  simp only [jic] at h
  split at h
  ·rename_i h1
   split at h
   ·rename_i h2
    split at h
    ·rename_i h3
     have e:=Z0 h he
     obtain ⟨ty,⟨x,y⟩,es,cells⟩:=b
     simp only [fr2] at h2
     obtain ⟨rfl,rfl,_⟩:=ym h2
     have e1:ty=ty':=Nat.eq_of_beq_eq_true h1
     have e2:es=es':=Nat.eq_of_beq_eq_true h3
     subst e1
     subst e2
     show _=Blk.mk ty (x,y) es (Xo (fun o=>iA (qd cells o)) (fun o=>bA (qd cells o)) 0 ps)
     rw [←e]
    ·cases h
   ·cases h
  ·cases h
def Z1:List (Nat×PV2)→List LV→Option (List Ob)
 | [],[]=>some []
 | (_,p)::l,v::m=>match jly p v with
  | some es=>match Z1 l m with
   | some fs=>some (es++fs)
   | none=>none
  | none=>none
 | _,_=>none
def QH:List (Nat×PB2)→List (Option Blk)→Option (List Ob)
 | [],[]=>some []
 | (_,p)::l,some b::m=>match jic p b with
  | some es=>match QH l m with
   | some fs=>some (es++fs)
   | none=>none
  | none=>none
 | _,_=>none
theorem y9 {s:Asg}:∀{l:List (Nat×PV2)} {m:List LV} {h:Nat→LV} {es:List Ob},Z1 l m=some es→AllOb es→(l.map (·.1)).map h=m→(∀k,s.fs k=(fun o=>iA (qd (qv (h k)) o))∧s.gs k=(fun o=>bA (qd (qv (h k)) o)))→(l.map (·.1)).zip m=Kw s l
 | [],_,_,_,_,_,_,_=>rfl
 | (i,p)::l,[],_,_,h,_,_,_=>by simp [Z1] at h
 | (i,p)::l,v::m,hh,es,h,hq,he,hs=>by
  unfold Z1 at h
  split at h
  ·rename_i es1 h1
   split at h
   ·rename_i es2 h2
    cases h
    simp only [List.map_cons,List.cons.injEq] at he
    have e:=jib h1 hq.left
    simp only [List.map_cons,List.zip_cons_cons,Kw]
    rw [y9 h2 hq.right he.2 hs,(hs i).1,(hs i).2,he.1,←e]
   ·cases h
  ·cases h
theorem za {s:Asg}:∀{l:List (Nat×PB2)} {m:List (Option Blk)} {h:Nat→Option Blk} {es:List Ob},QH l m=some es→AllOb es→(l.map (·.1)).map h=m→
  (∀k b,h k=some b→s.F k=(fun o=>iA (qd b.cells o))∧s.G k=(fun o=>bA (qd b.cells o)))→∃bs,m=bs.map some∧(l.map (·.1)).zip bs=z4 s l
 | [],[],_,_,_,_,_,_=>⟨[],rfl,rfl⟩
 | [],_::_,_,_,h,_,_,_=>by simp [QH] at h
 | (i,p)::l,[],_,_,h,_,_,_=>by simp [QH] at h
 | (i,p)::l,none::m,_,_,h,_,_,_=>by simp [QH] at h
 | (i,p)::l,some b::m,hh,es,h,hq,he,hs=>by
  unfold QH at h
  split at h
  ·rename_i es1 h1
   split at h
   ·rename_i es2 h2
    cases h
    simp only [List.map_cons,List.cons.injEq] at he
    have e:=jid h1 hq.left
    obtain ⟨bs,g1,g2⟩:=za h2 hq.right he.2 hs
    have h2:=hs i b he.1
    refine ⟨b::bs,by simp [g1], ?_⟩
    simp only [List.map_cons,List.zip_cons_cons,z4]
    rw [g2,h2.1,h2.2,←e]
   ·cases h
  ·cases h
def J5:List Bool→List (Bool×Bool)→Option (List (Bool×Bool))
 | [],[]=>some []
 | true::m,c::l=>match J5 m l with
  | some r=>some (c::r)
  | none=>none
 | false::m,(true,true)::l=>J5 m l
 | false::m,(false,false)::l=>J5 m l
 | _,_=>none
theorem yp:∀{m:List Bool} {l r:List (Bool×Bool)},J5 m l=some r→(∀c∈r,c.1=c.2)→∀c∈l,c.1=c.2
 | [],[],_,_,_,c,hc=>by cases hc
 | [],_::_,_,h,_,_,_=>by simp [J5] at h
 | true::m,[],_,h,_,_,_=>by simp [J5] at h
 | true::m,c::l,r,h,hr,d,hd=>by
  simp only [J5] at h
  split at h
  ·rename_i r' h1
   cases h
   rcases List.mem_cons.1 hd with rfl | hd
   ·exact hr _ (List.mem_cons_self ..)
   ·exact yp h1 (fun c hc=>hr c (List.mem_cons_of_mem _ hc)) d hd
  ·cases h
 | false::m,[],_,h,_,_,_=>by simp [J5] at h
 | false::m,(true,true)::l,r,h,hr,d,hd=>by
  simp only [J5] at h
  rcases List.mem_cons.1 hd with rfl | hd
  ·rfl
  ·exact yp h hr d hd
 | false::m,(false,false)::l,r,h,hr,d,hd=>by
  simp only [J5] at h
  rcases List.mem_cons.1 hd with rfl | hd
  ·rfl
  ·exact yp h hr d hd
 | false::m,(true,false)::l,r,h,_,_,_=>by simp [J5] at h
 | false::m,(false,true)::l,r,h,_,_,_=>by simp [J5] at h
def ql (p:PS2) (e:Ex) (mask:List Bool) (r:Option (Ex×List LV×List (Option Blk)×List (Bool×Bool))):Option (List (Bool×Bool)×List Ob):=
 match r with
 | some (e0,vs,bs,cs)=>match exB e0 e with
  | true=>match Z1 p.live vs with
   | some es=>match QH p.mem bs with
    | some fs=>match J5 mask cs with
     | some os=>some (os,es++fs)
     | none=>none
    | none=>none
   | none=>none
  | false=>none
 | none=>none
def jA (p:PS2) (B:Kst):Prop:=∃s,B=je s p
section
variable {P:Program} {S:FuncId→Option SumK} {z:Md} {sz:Nat}
theorem ToP.run2 (hs:Sound P S) {c:Code} {A:Kst} {e:Ex} {p:PS2} {n:Nat} {dec:List (Option Bool)} {mask:List Bool} {os:List (Bool×Bool)} {es:List Ob}
  (hrun:∀dead,ql p e mask (ju (p.live.map (·.1)) (p.mem.map (·.1)) (Go.Lr.exec P S z n (.code c) (A.st sz dead dec)))=some (os,es))
  (hos:∀c∈os,c.1=c.2) (hes:AllOb es) (hB:∀s,KstOK (je s p)) (hnb:Nat.ble A.nb p.nb=true):ToP P sz c A e (jA p):=by
 intro E a w hk Q hQ
 have hr:=hk.toR dec
 have h:=hrun fun t=>a.tmps.getD t undef
 cases hp:ju (p.live.map (·.1)) (p.mem.map (·.1)) (Go.Lr.exec P S z n (.code c) (A.st sz (fun t=>a.tmps.getD t undef) dec)) with
 | none=>rw [hp] at h;cases h
 | some q=>
  obtain ⟨e0,vs,bs,cs⟩:=q
  rw [hp] at h
  simp only [ql] at h
  split at h
  ·rename_i he
   split at h
   ·rename_i es1 hv
    split at h
    ·rename_i es2 hb
     split at h
     ·rename_i os' ho
      simp only [Option.some.injEq,Prod.mk.injEq] at h
      obtain ⟨rfl,rfl⟩:=h
      have hcs:=yp ho hos
      have:=jcX he
      subst this
      unfold ju at hp
      split at hp
      ·rename_i e' s' hex
       simp only [Option.some.injEq,Prod.mk.injEq] at hp
       obtain ⟨rfl,gv,gb,rfl⟩:=hp
       obtain ⟨e2,q1,q2,q3,q4,q5,q6⟩:=(ki (z9 P) hs.sums hs.mix hs.ng n).1 c _ _ s' hex hk.le hr.st
       cases q1
       let s:Asg:=⟨fun k o=>iA (qd ((getM s'.mem k).elim [] (·.cells)) o),fun k o=>bA (qd ((getM s'.mem k).elim [] (·.cells)) o),fun k o=>iA (qd (qv (getT s'.tm k)) o),fun k o=>bA (qd (qv (getT s'.tm k)) o)⟩
       have e1:(p.live.map (·.1)).zip vs=Kw s p.live:=y9 (h:=getT s'.tm) hv hes.left gv fun k=>⟨rfl,rfl⟩
       obtain ⟨bs',rfl,e3⟩:=za (s:=s) (h:=getM s'.mem) hb hes.right gb fun k b hb=>⟨by show (fun o=>iA (qd ((getM s'.mem k).elim [] (·.cells)) o))=_;rw [hb];rfl,by show (fun o=>bA (qd ((getM s'.mem k).elim [] (·.cells)) o))=_;rw [hb];rfl⟩
       have hB':KstOK ⟨(p.live.map (·.1)).zip vs,(p.mem.map (·.1)).zip bs',p.nb⟩:=by rw [e1,e3];exact hB s
       have hnb':=Nat.le_of_ble_eq_true hnb
       refine q6 hcs E a w hr Q fun E' a' w' hr' hx=> ?_
       have hsub:=xJ (p.mem.map (·.1)) bs' (getM s'.mem) gb
       refine hQ (je s p) ⟨s,rfl⟩ E' a' w' ?_ ?_
       ·have:je s p=⟨(p.live.map (·.1)).zip vs,(p.mem.map (·.1)).zip bs',p.nb⟩:=by rw [e1,e3];rfl
        rw [this]
        refine ⟨hB',hr'.size.trans q4,hk.le,hr'.defers,fun q hq=> ?_,⟨fun i b hib=>hr'.m.rel.blk i b (hsub i b hib),fun i j hi hj he=>hr'.m.rel.inj i j ?_ ?_ he⟩⟩
        ·rw [hr'.tm q.1,xK (p.live.map (·.1)) vs (getT s'.tm) gv q hq]
        ·obtain ⟨b,hib⟩:=Option.isSome_iff_exists.1 hi;simp [hsub i b hib]
        ·obtain ⟨b,hjb⟩:=Option.isSome_iff_exists.1 hj;simp [hsub j b hjb]
       ·have:(je s p).ms=(Kst.mk ((p.live.map (·.1)).zip vs) ((p.mem.map (·.1)).zip bs') p.nb).ms:=by rw [e1,e3];rfl
        rw [this]
        refine ⟨hnb',hx.agree,hx.os,hx.tape,hx.output,hx.size,hx.frame,fun i hi=>hx.src i ?_⟩
        obtain ⟨b,hib⟩:=Option.isSome_iff_exists.1 hi
        simp [hsub i b hib]
      ·cases hp
     ·cases h
    ·cases h
   ·cases h
  ·cases h
end
abbrev qI (n:Int):P2:= .old (.lit (.int .i64 n))
abbrev qL (a:At):P2:= .old (.lit a)
abbrev qB (x:Bool):P2:= .old (.lit (.bool x))
abbrev qH:P2:= .old .hi
abbrev qO:P2:= .old .hb
abbrev qS (x:Int):P2:= .sym x
abbrev qR (a:At):P2:= .raw a
def rq:Nat→P2→List P2
 | 0,_=>[]
 | n+1,p=>p::rq n p
end Go.Lr

/- Blocks by other numbers: a walk in pieces in which a call's own blocks may be told by other numbers. -/
namespace Go.Lr
open Go.RowKit
def sw (a b i:Nat):Nat:=match Nat.beq i a with
 | true=>b
 | false=>match Nat.beq i b with
  | true=>a
  | false=>i
theorem jpA (a b i:Nat):sw a b i=if i=a then b else if i=b then a else i:=by
 unfold sw
 by_cases h:i=a
 ·subst h
  simp
 ·have h1:Nat.beq i a=false:=by cases h1:Nat.beq i a with
   | true=>exact absurd (Nat.eq_of_beq_eq_true h1) h
   | false=>rfl
  rw [h1,if_neg h]
  by_cases h2:i=b
  ·subst h2
   simp
  ·have h3:Nat.beq i b=false:=by cases h3:Nat.beq i b with
    | true=>exact absurd (Nat.eq_of_beq_eq_true h3) h2
    | false=>rfl
   rw [h3,if_neg h2]
theorem jpB (a b i:Nat):sw a b (sw a b i)=i:=by
 simp only [jpA]
 by_cases h:i=a
 ·subst h
  rw [if_pos rfl]
  by_cases h2:b=i
  ·rw [if_pos h2,h2]
  ·rw [if_neg h2,if_pos rfl]
 ·rw [if_neg h]
  by_cases h2:i=b
  ·subst h2
   rw [if_pos rfl,if_pos rfl]
  ·rw [if_neg h2,if_neg h,if_neg h2]
def swp:List (Nat×Nat)→Nat→Nat
 | [],i=>i
 | (a,b)::l,i=>swp l (sw a b i)
def swq:List (Nat×Nat)→Nat→Nat
 | [],i=>i
 | (a,b)::l,i=>sw a b (swq l i)
theorem J6:∀(l:List (Nat×Nat)) (i:Nat),swq l (swp l i)=i
 | [],i=>rfl
 | (a,b)::l,i=>by simp only [swp,swq];rw [J6 l,jpB]
theorem z6:∀(l:List (Nat×Nat)) (i:Nat),swp l (swq l i)=i
 | [],i=>rfl
 | (a,b)::l,i=>by simp only [swp,swq];rw [jpB,z6 l]
def jjP (N:Nat):List (Nat×Nat)→Bool
 | []=>true
 | (a,b)::l=>match Nat.ble N a with
  | true=>match Nat.ble N b with
   | true=>jjP N l
   | false=>false
  | false=>false
theorem QJ {N:Nat}:∀{l:List (Nat×Nat)},jjP N l=true→∀i,i<N→swq l i=i
 | [],_,i,_=>rfl
 | (a,b)::l,h,i,hi=>by
  unfold jjP at h
  split at h
  ·rename_i h1
   split at h
   ·rename_i h2
    have h1':=Nat.le_of_ble_eq_true h1
    have h2':=Nat.le_of_ble_eq_true h2
    simp only [swq]
    rw [QJ h i hi,jpA,if_neg (by omega),if_neg (by omega)]
   ·cases h
  ·cases h
def jbv (ρ:Nat→Nat):List (Nat×Nat)→List (Nat×Nat)
 | []=>[]
 | (b,o)::l=>(ρ b,o)::jbv ρ l
def jmF (ρ:Nat→Nat):At→At
 | .int k n=> .int k n
 | .bool b=> .bool b
 | .ptr b o=> .ptr (ρ b) o
 | .nilp=> .nilp
 | .sl b o l c=> .sl (ρ b) o l c
 | .slu b l=> .slu (ρ b) l
 | .slx b o l c=> .slx (ρ b) o l c
 | .ptx b o=> .ptx (ρ b) o
 | .nilsl=> .nilsl
 | .slt b o n=> .slt (ρ b) o n
 | .slv b n=> .slv (ρ b) n
 | .fn f caps=> .fn f (jbv ρ caps)
 | .opq v=> .opq v
def jf0 (ρ:Nat→Nat):List At→List At
 | []=>[]
 | a::l=>jmF ρ a::jf0 ρ l
def jii (ρ:Nat→Nat):V1→V1
 | .one a=> .one (jmF ρ a)
 | .agg l=> .agg (jf0 ρ l)
def jq8 (ρ:Nat→Nat):LV→LV
 | .v x=> .v (jii ρ x)
 | .tup l=> .tup (l.map (jii ρ))
def jpC (ρ:Nat→Nat) (b:Blk):Blk:=⟨b.ty,b.fr,b.es,jf0 ρ b.cells⟩
def qF (ρ:Nat→Nat):List (Nat×LV)→List (Nat×LV)
 | []=>[]
 | (i,v)::l=>(i,jq8 ρ v)::qF ρ l
def zG (ρ:Nat→Nat):Mem→Mem
 | []=>[]
 | (i,b)::l=>(ρ i,jpC ρ b)::zG ρ l
theorem jc3 {ρ:Nat→Nat} {E E':Env} (h:∀b,E' (ρ b)=E b) (a:At):(jmF ρ a).den E'=a.den E:=by
 cases a with
 | fn f caps=>
  simp only [jmF,At.den]
  congr 1
  congr 1
  induction caps with
  | nil=>rfl
  | cons c l ih=>simp only [jbv,List.map_cons,h,ih]
 | _=>simp only [jmF,At.den,h]
theorem YL {ρ:Nat→Nat} {E E':Env} (h:∀b,E' (ρ b)=E b):∀l:List At,(jf0 ρ l).map (At.den E')=l.map (At.den E)
 | []=>rfl
 | a::l=>by simp only [jf0,List.map_cons,jc3 h,YL h l]
theorem jc4 (ρ:Nat→Nat):∀l:List At,(jf0 ρ l).length=l.length
 | []=>rfl
 | a::l=>by simp [jf0,jc4 ρ l]
theorem Z4 {ρ:Nat→Nat} {E E':Env} (h:∀b,E' (ρ b)=E b) (x:V1):(jii ρ x).den E'=x.den E:=by
 cases x with
 | one a=>exact jc3 h a
 | agg l=>simp only [jii,V1.den,YL h]
theorem jij {ρ:Nat→Nat} {E E':Env} (h:∀b,E' (ρ b)=E b) (v:LV):(jq8 ρ v).den E'=v.den E:=by
 cases v with
 | v x=>exact Z4 h x
 | tup l=>simp only [jq8,LV.den,List.map_map];congr 1;congr 1;exact List.map_congr_left fun x _=>Z4 h x
theorem Z5 {ρ:Nat→Nat}:∀{l:List (Nat×LV)} {q:Nat×LV},q∈qF ρ l→∃v,(q.1,v)∈l∧q.2=jq8 ρ v
 | [],q,h=>by simp [qF] at h
 | (i,v)::l,q,h=>by
  simp only [qF,List.mem_cons] at h
  rcases h with rfl | h
  ·exact ⟨v,List.mem_cons_self ..,rfl⟩
  ·obtain ⟨u,h1,h2⟩:=Z5 h
   exact ⟨u,List.mem_cons_of_mem _ h1,h2⟩
theorem JB {ρ σ:Nat→Nat} (h1:∀i,σ (ρ i)=i) (h2:∀i,ρ (σ i)=i):∀(m:Mem) (j:Nat),getM (zG ρ m) j=(getM m (σ j)).map (jpC ρ)
 | [],j=>rfl
 | (i,b)::m,j=>by
  simp only [zG]
  rw [jm,jm]
  by_cases h:j=ρ i
  ·rw [if_pos h,if_pos (by rw [h,h1])];rfl
  ·rw [if_neg h,if_neg (fun e=>h (by rw [←e,h2])),JB h1 h2 m j]
section
variable {P:Program} {sz:Nat}
theorem KR.ren {E:Env} {A:Kst} {a:Act} {w:World} (h:KR E sz A a w) (l:List (Nat×Nat)) {nb:Nat} (hB:KstOK ⟨qF (swp l) A.live,zG (swp l) A.mem,nb⟩):
  KR (fun j=>E (swq l j)) sz ⟨qF (swp l) A.live,zG (swp l) A.mem,nb⟩ a w:=by
 have hE:∀b,(fun j=>E (swq l j)) ((swp l) b)=E b:=fun b=>by show E (swq l (swp l b))=E b;rw [J6]
 refine ⟨hB,h.size,h.le,h.defers,fun q hq=> ?_,⟨fun j b' hj=> ?_,fun i j hi hj he=> ?_⟩⟩
 ·obtain ⟨v,h1,h2⟩:=Z5 hq
  rw [h2,jij (ρ:=swp l) (E:=E) (E':=fun j=>E (swq l j)) hE]
  exact h.tm _ h1
 ·have hj':getM (zG (swp l) A.mem) j=some b':=hj
  rw [JB (J6 l) (z6 l)] at hj'
  cases hg:getM A.mem (swq l j) with
  | none=>rw [hg] at hj';cases hj'
  | some b=>
   rw [hg] at hj'
   cases hj'
   obtain ⟨r,g1,g2,g3⟩:=h.rel.blk _ b hg
   refine ⟨r, ?_,g2,fun hne=> ?_⟩
   ·show w.heap[(E (swq l j)).1]? = _
    rw [g1]
    show some (Obj.cells _ _ _)=some (Obj.cells ((E (swq l j)).pre++(jf0 (swp l) b.cells).map (At.den fun j=>E (swq l j))++r++(E (swq l j)).suf).toArray ((E (swq l j)).ty.getD b.ty) b.fr)
    rw [YL (ρ:=swp l) (E:=E) (E':=fun j=>E (swq l j)) hE]
   ·show (jf0 (swp l) b.cells).length+r.length=_
    rw [jc4]
    exact g3 hne
 ·have hi':(getM (zG (swp l) A.mem) i).isSome:=hi
  have hj':(getM (zG (swp l) A.mem) j).isSome:=hj
  rw [JB (J6 l) (z6 l),Option.isSome_map] at hi' hj'
  have:=h.rel.inj _ _ hi' hj' he
  rw [←z6 l i,this,z6]
def ToR (P:Program) (sz N:Nat) (c:Code) (A:Kst) (e:Ex) (B:Kst→Prop):Prop:=
 ∀E a w,KR E sz A a w→∀Q:Exit→Act→World→Prop,(∀B0,B B0→∀E' a' w',KR E' sz B0 a' w'→ExtG N w E (getM A.mem) w' E' (getM B0.mem)→Q e.to a' w')→c.wp P Q a w
theorem Ext.toG {N:Nat} {w w':World} {E E':Env} {s s':St} (h:Ext w E s w' E' s') (hN:N≤s.nb):ExtG N w E (getM s.mem) w' E' (getM s'.mem):=
 ⟨fun i hi=>h.agree i (Nat.lt_of_lt_of_le hi hN),h.os,h.tape,h.output,h.size,h.frame,h.src⟩
theorem ToR.of_ToP {N:Nat} {c:Code} {A:Kst} {e:Ex} {B:Kst→Prop} (h:ToP P sz c A e B) (hN:Nat.ble N A.nb=true):ToR P sz N c A e B:=
 fun E a w hr Q hQ=>h E a w hr Q fun B0 hB E' a' w' hr' hx=>hQ B0 hB E' a' w' hr' (hx.toG (Nat.le_of_ble_eq_true hN))
theorem ToR.mono {N:Nat} {c:Code} {A:Kst} {e:Ex} {B C:Kst→Prop} (h:ToR P sz N c A e B) (k:∀x,B x→C x):ToR P sz N c A e C:=
 fun E a w hr Q hQ=>h E a w hr Q fun B0 hB0=>hQ B0 (k B0 hB0)
theorem ToR.ren {N:Nat} {c:Code} {A:Kst} {e:Ex} {B C:Kst→Prop} (h:ToR P sz N c A e B) (l:List (Nat×Nat)) (hl:jjP N l=true)
  (k:∀x,B x→∃nb,KstOK ⟨qF (swp l) x.live,zG (swp l) x.mem,nb⟩∧C ⟨qF (swp l) x.live,zG (swp l) x.mem,nb⟩):ToR P sz N c A e C:=by
 intro E a w hr Q hQ
 refine h E a w hr Q fun B0 hB E' a' w' hr' hx=> ?_
 obtain ⟨nb,h1,h2⟩:=k B0 hB
 refine hQ _ h2 (fun j=>E' (swq l j)) a' w' (hr'.ren l h1) ⟨fun i hi=> ?_,hx.os,hx.tape,hx.output,hx.size,hx.frame,fun i hi=> ?_⟩
 ·show E' (swq l i)=E i
  rw [QJ hl i hi]
  exact hx.agree i hi
 ·have hi':(getM (zG (swp l) B0.mem) i).isSome:=hi
  rw [JB (J6 l) (z6 l),Option.isSome_map] at hi'
  exact hx.src _ hi'
theorem ToR.seq {N:Nat} {c:Code} {A:Kst} {e:Ex} {B C:Kst→Prop} (hc:JW c=true) (h:ToR P sz N (c1 c) A .normal B) (k:∀x,B x→ToR P sz N (c2 c) x e C):ToR P sz N c A e C:=by
 cases c <;> simp only [JW,Bool.false_eq_true] at hc
 intro E a w hr Q hQ
 refine wp_seq (h E a w hr _ fun B0 hB E' a' w' hr' hx'=> ?_)
 exact k B0 hB E' a' w' hr' Q fun C0 hC E'' a'' w'' hr'' hx''=>hQ C0 hC E'' a'' w'' hr'' (hx'.trans hx'')
theorem ToR.seq_out {N:Nat} {c:Code} {A:Kst} {e:Ex} {B:Kst→Prop} (hc:JW c=true) (he:e≠ .normal) (h:ToR P sz N (c1 c) A e B):ToR P sz N c A e B:=by
 cases c <;> simp only [JW,Bool.false_eq_true] at hc
 intro E a w hr Q hQ
 refine wp_seq (h E a w hr _ fun B0 hB E' a' w' hr' hx'=> ?_)
 have:=hQ B0 hB E' a' w' hr' hx'
 cases e <;> first | exact absurd rfl he | exact this
theorem ToR.block {N:Nat} {c:Code} {id:Nat} {A:Kst} {e:Ex} {B:Kst→Prop} (hc:jaH c=some id) (h:ToR P sz N (c1 c) A e B) (he:e = .exit id∨e = .normal):ToR P sz N c A .normal B:=by
 cases c <;> simp only [jaH,reduceCtorEq] at hc
 cases hc
 intro E a w hr Q hQ
 refine wp_block (h E a w hr _ fun B0 hB E' a' w' hr' hx'=> ?_)
 have:=hQ B0 hB E' a' w' hr' hx'
 rcases he with rfl | rfl
 ·simpa only [Ex.to,Exit.inBlock,if_true] using this
 ·exact this
def RdR (P:Program) (sz N:Nat) (c:Code) (m:Nat) (A:Kst) (e:Ex) (B:Kst→Prop):Prop:=
 ∀E a w,KR E sz A a w→∀Q:Exit→Act→World→Prop,(∀B0,B B0→∀E' a' w',KR E' sz B0 a' w'→ExtG N w E (getM A.mem) w' E' (getM B0.mem)→Q e.to a' w')→Code.rounds P c Q m a w
theorem RdR.last {N:Nat} {c:Code} {A:Kst} {e:Ex} {B:Kst→Prop} (he:e≠ .normal) (h:ToR P sz N c A e B):RdR P sz N c 1 A e B:=by
 intro E a w hr Q hQ
 rw [rounds_succ]
 refine h E a w hr _ fun B0 hB E' a' w' hr' hx'=> ?_
 have:=hQ B0 hB E' a' w' hr' hx'
 cases e <;> first | exact absurd rfl he | exact this
theorem RdR.next {N:Nat} {c:Code} {A:Kst} {e:Ex} {B C:Kst→Prop} {m:Nat} (h:ToR P sz N c A .normal B) (k:∀x,B x→RdR P sz N c m x e C):RdR P sz N c (m+1) A e C:=by
 intro E a w hr Q hQ
 rw [rounds_succ]
 refine h E a w hr _ fun B0 hB E' a' w' hr' hx'=> ?_
 exact k B0 hB E' a' w' hr' Q fun C0 hC E'' a'' w'' hr'' hx''=>hQ C0 hC E'' a'' w'' hr'' (hx'.trans hx'')
theorem ToR.loop {N:Nat} {c:Code} {A:Kst} {e:Ex} {B:Kst→Prop} {m:Nat} (hc:KE c=true) (h:RdR P sz N (c1 c) m A e B):ToR P sz N c A e B:=by
 cases c <;> simp only [KE,Bool.false_eq_true] at hc
 exact fun E a w hr Q hQ=>wp_loop_rounds m (h E a w hr Q hQ)
end
end Go.Lr
