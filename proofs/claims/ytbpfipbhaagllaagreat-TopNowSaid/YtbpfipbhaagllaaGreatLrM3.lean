/- Joined texts. What each part proves stands ahead of it; no condition. -/
import Derived.Test.YtbpfipbhaagllaaGreatLrM2
import Derived.WalkKit
import Derived.ProofKit
import Derived.OpenShut
import Derived.WideShapes
import Derived.Test.YtbpfipbhaagllaaGreatLrM1
import Derived.Test.YtbpfipbhaagllaaGreatProg
set_option linter.unusedVariables false
set_option linter.unusedSimpArgs false
/- A region in pieces: what lies ahead of a call, the call (walked into in pieces of its own), what lies behind it. -/
namespace Go.Lr
open Go.RowKit
theorem Yc {P:Program} {o:Oper} {a:Act} {w:World} {next K:Act→World→Prop} {Q:Exit→Act→World→Prop} (h:o.wp P a w next (Exit.then K Q)):o.wp P a w next Q:=by
 unfold Oper.wp at *
 generalize (execOp a.eval o).run P w=r at *
 cases r with
 | ok n w'=>cases n <;> exact h
 | halt e w'=>cases e <;> exact h
theorem zp {P:Program} {ops:Array Oper} {Q:Exit→Act→World→Prop} {rest:List Nat}:∀(l:List Nat) (a:Act) (w:World),
  wpOps P ops (Exit.then (wpOps P ops Q rest) Q) l a w→wpOps P ops Q (l++rest) a w
 | [],a,w,h=>h
 | i::l,a,w,h=>by
  rw [List.cons_append,wpOps_cons]
  rw [wpOps_cons] at h
  unfold wpOp at *
  cases ho:ops[i]? with
  | none=>rw [ho] at h;exact zp l a w h
  | some o=>
   rw [ho] at h
   simp only at h ⊢
   split
   ·rename_i hw
    rw [if_pos hw] at h
    rcases h with h | h
    ·exact .inl (Oper.wp_mono (fun a w=>zp l a w) (Yc h))
    ·exact .inr h
   ·rename_i hw
    rw [if_neg hw] at h
    exact zp l _ w h
def zq (n:Nat):List Oper→Bool
 | []=>true
 | o::l=>match o.guard with
  | none=>zq n l
  | some (j,_)=>match Nat.blt j n with
   | true=>zq n l
   | false=>false
theorem zW {n:Nat}:∀{l:List Oper} {o:Oper} {j:Nat} {b:Bool},zq n l=true→o∈l→o.guard=some (j,b)→j<n
 | [],_,_,_,_,h,_=>by cases h
 | x::l,o,j,b,h,hm,hg=>by
  unfold zq at h
  rcases List.mem_cons.1 hm with rfl | hm
  ·rw [hg] at h
   simp only at h
   split at h
   ·rename_i h1;rw [zT] at h1;simpa using h1
   ·cases h
  ·split at h
   ·exact zW h hm hg
   ·split at h
    ·exact zW h hm hg
    ·cases h
theorem zr {P:Program} {ops:Array Oper} {n:Nat} {Q:Exit→Act→World→Prop} (hg:zq n (ops.toList.take n)=true):∀(l:List Nat) (a:Act) (w:World),(∀i∈l,i<n)→
  wpOps P (ops.toList.take n).toArray Q l a w→wpOps P ops Q l a w
 | [],a,w,_,h=>h
 | i::l,a,w,hl,h=>by
  have hget:∀j,j<n→(ops.toList.take n).toArray[j]? = ops[j]? :=by
   intro j hj
   rw [List.getElem?_toArray,List.getElem?_take_of_lt hj]
   simp
  have hi:=hl i (List.mem_cons_self ..)
  have hl':∀i∈l,i<n:=fun i hi=>hl i (List.mem_cons_of_mem _ hi)
  rw [wpOps_cons] at *
  unfold wpOp at *
  rw [hget i hi] at h
  cases ho:ops[i]? with
  | none=>rw [ho] at h;exact zr hg l a w hl' h
  | some o=>
   rw [ho] at h
   simp only at h ⊢
   have hw:Region.wanted o (yielded (ops.toList.take n).toArray a.tmps)=Region.wanted o (yielded ops a.tmps):=by
    unfold Region.wanted
    cases hgd:o.guard with
    | none=>rfl
    | some q=>
     obtain ⟨j,b⟩:=q
     have hmem:o∈ops.toList.take n:=by
      have:(ops.toList.take n)[i]? = some o:=by rw [List.getElem?_take_of_lt hi];simpa using ho
      exact List.mem_of_getElem? this
     have hj:=zW hg hmem hgd
     simp only [yielded,hget j hj]
   rw [hw] at h
   split
   ·rename_i hx
    rw [if_pos hx] at h
    rcases h with h | h
    ·exact .inl (Oper.wp_mono (fun a w h=>zr hg l a w hl' h) h)
    ·exact .inr h
   ·rename_i hx
    rw [if_neg hx] at h
    exact zr hg l _ w hl' h
def ToO (P:Program) (sz:Nat) (ops:Array Oper) (k m:Nat) (A:Kst) (B:Kst→Prop):Prop:=
 ∀E a w,KR E sz A a w→∀(Q:Exit→Act→World→Prop) (rest:List Nat),(∀B0,B B0→∀E' a' w',KR E' sz B0 a' w'→Ext w E A.ms w' E' B0.ms→wpOps P ops Q rest a' w')→wpOps P ops Q (List.range' k m++rest) a w
section
variable {P:Program} {S:FuncId→Option SumK} {z:Md} {sz:Nat}
theorem ToO.seq {ops:Array Oper} {k m m':Nat} {A:Kst} {B C:Kst→Prop} (h:ToO P sz ops k m A B) (g:∀x,B x→ToO P sz ops (k+m) m' x C):ToO P sz ops k (m+m') A C:=by
 intro E a w hr Q rest hQ
 have e:List.range' k (m+m')++rest=List.range' k m++(List.range' (k+m) m'++rest):=by
  rw [←List.append_assoc,List.range'_append_1]
 rw [e]
 refine h E a w hr Q _ fun B0 hB E' a' w' hr' hx=> ?_
 exact g B0 hB E' a' w' hr' Q rest fun C0 hC E'' a'' w'' hr'' hx''=>hQ C0 hC E'' a'' w'' hr'' (hx.trans hx'')
theorem ToO.mono {ops:Array Oper} {k m:Nat} {A:Kst} {B C:Kst→Prop} (h:ToO P sz ops k m A B) (g:∀x,B x→C x):ToO P sz ops k m A C:=
 fun E a w hr Q rest hQ=>h E a w hr Q rest fun B0 hB=>hQ B0 (g B0 hB)
def xL:Code→Array Oper
 | .region _ o _=>o
 | _=> #[]
def jm8:Code→Bool
 | .region _ _ false=>true
 | _=>false
theorem ToP.of_ToO {c:Code} {n:Nat} {A:Kst} {B:Kst→Prop} (hc:jm8 c=true) (hn:Nat.beq (xL c).toList.length n=true) (h:ToO P sz (xL c) 0 n A B):ToP P sz c A .normal B:=by
 unfold jm8 at hc
 split at hc
 ·rename_i id o
  intro E a w hr Q hQ
  refine wp_region ?_
  have hn':o.size=n:=by have:=Nat.eq_of_beq_eq_true hn;simpa [xL] using this
  have:=h E a w hr Q [] fun B0 hB E' a' w' hr' hx=>by
   show Q .normal a' w'
   exact hQ B0 hB E' a' w' hr' hx
  rw [List.append_nil] at this
  rw [List.range_eq_range',hn']
  exact this
 ·cases hc
theorem ToO.run2 (hs:Sound P S) {ops:Array Oper} {k m:Nat} {A:Kst} {p:PS2} {n:Nat} {dec:List (Option Bool)} {mask:List Bool} {os:List (Bool×Bool)} {es:List Ob}
  (hg:zq (k+m) (ops.toList.take (k+m))=true) (hm:Nat.beq ((ops.toList.take (k+m)).drop k).length m=true)
  (hrun:∀dead,ql p .normal mask (ju (p.live.map (·.1)) (p.mem.map (·.1)) (Go.Lr.exec P S z n (.ops (ops.toList.take (k+m)) ((ops.toList.take (k+m)).drop k)) (A.st sz dead dec)))=some (os,es))
  (hos:∀c∈os,c.1=c.2) (hes:AllOb es) (hB:∀s,KstOK (je s p)) (hnb:Nat.ble A.nb p.nb=true):ToO P sz ops k m A (jA p):=by
 intro E a w hk Q rest hQ
 have hr:=hk.toR dec
 have h:=hrun fun t=>a.tmps.getD t undef
 cases hp:ju (p.live.map (·.1)) (p.mem.map (·.1)) (Go.Lr.exec P S z n (.ops (ops.toList.take (k+m)) ((ops.toList.take (k+m)).drop k)) (A.st sz (fun t=>a.tmps.getD t undef) dec)) with
 | none=>rw [hp] at h;cases h
 | some q=>
  obtain ⟨e0,vs,bs,cs⟩:=q
  rw [hp] at h
  simp only [ql] at h
  split at h
  ·rename_i he
   split at h
   ·rename_i es1 hv
    split at h
    ·rename_i es2 hb
     split at h
     ·rename_i os' ho
      simp only [Option.some.injEq,Prod.mk.injEq] at h
      obtain ⟨rfl,rfl⟩:=h
      have hcs:=yp ho hos
      have:=jcX he
      subst this
      unfold ju at hp
      split at hp
      ·rename_i e' s' hex
       simp only [Option.some.injEq,Prod.mk.injEq] at hp
       obtain ⟨rfl,gv,gb,rfl⟩:=hp
       obtain ⟨q1,q2,q3,q4,q5,q6⟩:=(ki (z9 P) hs.sums hs.mix hs.ng n).2.2.1 _ _ _ _ s' hex hk.le hr.st
       let s:Asg:=⟨fun k o=>iA (qd ((getM s'.mem k).elim [] (·.cells)) o),fun k o=>bA (qd ((getM s'.mem k).elim [] (·.cells)) o),fun k o=>iA (qd (qv (getT s'.tm k)) o),fun k o=>bA (qd (qv (getT s'.tm k)) o)⟩
       have e1:(p.live.map (·.1)).zip vs=Kw s p.live:=y9 (h:=getT s'.tm) hv hes.left gv fun k=>⟨rfl,rfl⟩
       obtain ⟨bs',rfl,e3⟩:=za (s:=s) (h:=getM s'.mem) hb hes.right gb fun k b hb=>⟨by show (fun o=>iA (qd ((getM s'.mem k).elim [] (·.cells)) o))=_;rw [hb];rfl,by show (fun o=>bA (qd ((getM s'.mem k).elim [] (·.cells)) o))=_;rw [hb];rfl⟩
       have hB':KstOK ⟨(p.live.map (·.1)).zip vs,(p.mem.map (·.1)).zip bs',p.nb⟩:=by rw [e1,e3];exact hB s
       have hnb':=Nat.le_of_ble_eq_true hnb
       have hm':=Nat.eq_of_beq_eq_true hm
       refine zp _ a w (zr hg _ a w (fun i hi=>by have:=List.mem_range'_1.1 hi;omega) ?_)
       have q7:=q6 hcs (ops.toList.take (k+m)).toArray k (by simp) rfl E a w hr
       rw [hm'] at q7
       refine q7 _ fun E' a' w' hr' hx=> ?_
       have hsub:=xJ (p.mem.map (·.1)) bs' (getM s'.mem) gb
       show wpOps P ops Q rest a' w'
       refine hQ (je s p) ⟨s,rfl⟩ E' a' w' ?_ ?_
       ·have:je s p=⟨(p.live.map (·.1)).zip vs,(p.mem.map (·.1)).zip bs',p.nb⟩:=by rw [e1,e3];rfl
        rw [this]
        refine ⟨hB',hr'.size.trans q4,hk.le,hr'.defers,fun q hq=> ?_,⟨fun i b hib=>hr'.m.rel.blk i b (hsub i b hib),fun i j hi hj he=>hr'.m.rel.inj i j ?_ ?_ he⟩⟩
        ·rw [hr'.tm q.1,xK (p.live.map (·.1)) vs (getT s'.tm) gv q hq]
        ·obtain ⟨b,hib⟩:=Option.isSome_iff_exists.1 hi;simp [hsub i b hib]
        ·obtain ⟨b,hjb⟩:=Option.isSome_iff_exists.1 hj;simp [hsub j b hjb]
       ·have:(je s p).ms=(Kst.mk ((p.live.map (·.1)).zip vs) ((p.mem.map (·.1)).zip bs') p.nb).ms:=by rw [e1,e3];rfl
        rw [this]
        refine ⟨hnb',hx.agree,hx.os,hx.tape,hx.output,hx.size,hx.frame,fun i hi=>hx.src i ?_⟩
        obtain ⟨b,hib⟩:=Option.isSome_iff_exists.1 hi
        simp [hsub i b hib]
      ·cases hp
     ·cases h
    ·cases h
   ·cases h
  ·cases h
theorem Zk {f:FuncId} {fn:Func} {c:Code} {args:List LV} {m:Mem} {nb:Nat} {B:Kst→Prop} {e:Ex} {v:Kst→LV} (hf:P.funcs[f]? = some fn) (hb:fn.body=some c)
  (hle:fn.ntmps≤60000) (hargs:args.length≤fn.ntmps) (hA:∀u∈args,u.ok (below nb)=true) (hm:∀i b,getM m i=some b→i<nb∧okL (below nb) b.cells=true) (hu:uniq m)
  (h:ToP P fn.ntmps c ⟨jS 0 args,m,nb⟩ e B) (he:e = .normal∨e = .ret)
  (hres:∀x,B x→∀dead,km P fn.results.toList (getT (x.tm dead)) x.mem=some (v x)) (E:Env) (w:World) (hrel:Rel E (getM m) w):
  Calls P f (args.map (LV.den E)).toArray w fun e w'=>∃x E',B x∧e = .returned ((v x).den E')∧MRel E' x.ms w'∧Ext w E (Kst.ms ⟨jS 0 args,m,nb⟩) w' E' x.ms:=by
 refine calls_of_wp hf hb (h E _ w ⟨⟨fun q hq=> ?_,(zn args 0).1,fun q hq=> ?_,hm,hu⟩,by simp;omega,hle,rfl,fun q hq=> ?_,hrel⟩ _ fun B0 hB E' a' w' hr' hx'=> ?_)
 ·have:=(ky args 0 q).1 hq
  have:=(List.getElem?_eq_some_iff.1 this.2).1
  omega
 ·exact hA q.2 (List.mem_of_getElem? ((ky args 0 q).1 hq).2)
 ·have:=((ky args 0 q).1 hq).2
  simp only [Nat.sub_zero] at this
  have hlt:=(List.getElem?_eq_some_iff.1 this).1
  simp only [Array.getD_eq_getD_getElem?,Array.getElem?_append,List.size_toArray,List.length_map]
  rw [if_pos hlt]
  simp [this]
 ·have hR:=hr'.toR []
  have hpost:bodyPost P fn (fun e w'=>∃x E',B x∧e = .returned ((v x).den E')∧MRel E' x.ms w'∧Ext w E (Kst.ms ⟨jS 0 args,m,nb⟩) w' E' x.ms) .ret a' w':=
   ⟨hr'.defers,(v B0).den E',qx hR.m.rel hR.tm (hres B0 hB _),B0,E',hB,rfl,⟨hr'.rel,hr'.ok.okM,hr'.ok.uq⟩,hx'⟩
  rcases he with rfl | rfl
  ·exact hpost
  ·exact hpost
def jck (o:Option Oper):Option (Call×Tmp):=match o with
 | some o=>match o.op,o.dst,o.guard with
  | .call c,some t,none=>some (c,t)
  | _,_,_=>none
 | none=>none
theorem ToO.call (hs:Sound P S) {ops:Array Oper} {k:Nat} {A:Kst} {B:Kst→Prop} {cl:Call} {t:Tmp} {f:FuncId} {fn:Func} {c:Code} {args:List LV} {e:Ex} {v:Kst→LV} {live:List (Nat×LV)}
  (ho:jck ops[k]? = some (cl,t)) (hcal:∀dead,callee (getT (A.tm dead)) cl=some (f,args)) (hf:P.funcs[f]? = some fn) (hb:fn.body=some c)
  (hle:Nat.ble fn.ntmps 60000=true) (hargs:Nat.ble (jmG args) fn.ntmps=true) (hlt:Nat.blt t sz=true)
  (h:ToP P fn.ntmps c ⟨jS 0 args,A.mem,A.nb⟩ e B) (he:e = .normal∨e = .ret)
  (hres:∀x,B x→∀dead,km P fn.results.toList (getT (x.tm dead)) x.mem=some (v x))
  (hl:∀q∈live,q∈A.live∧q.1≠t) (hB:∀x,B x→KstOK ⟨(t,v x)::live,x.mem,x.nb⟩):
  ToO P sz ops k 1 A (fun y=>∃x,B x∧y=⟨(t,v x)::live,x.mem,x.nb⟩):=by
 intro E a w hk Q rest hQ
 have hr:=hk.toR []
 rw [List.range'_one,List.singleton_append,wpOps_cons]
 unfold wpOp
 unfold jck at ho
 cases hoo:ops[k]? with
 | none=>rw [hoo] at ho;cases ho
 | some o=>
  rw [hoo] at ho
  simp only at ho ⊢
  split at ho
  ·rename_i c0 t0 h1 h2 h3
   cases ho
   have hw:Region.wanted o (yielded ops a.tmps)=true:=by unfold Region.wanted;rw [h3]
   rw [if_pos hw]
   have hcal':=hcal fun t=>a.tmps.getD t undef
   have hao:∀u∈args,u.ok (below A.nb)=true:=x6 (fun t=>hr.okT t) hcal'
   have hle':=Nat.le_of_ble_eq_true hle
   have hargs':=Nat.le_of_ble_eq_true hargs
   rw [jbI] at hargs'
   have hlt':t<sz:=by rw [zT] at hlt;simpa using hlt
   refine .inl (CallOK.wp (R:=fun u w'=>∃x E',B x∧u=(v x).den E'∧MRel E' x.ms w'∧Ext w E (Kst.ms ⟨jS 0 args,A.mem,A.nb⟩) w' E' x.ms) h1 (JR hr.tm) hcal' (.inl ⟨fn,hf,hs.ng f fn hf,by rw [hb];rfl, ?_⟩) ?_)
   ·refine (Zk hf hb hle' hargs' hao hk.ok.okM hk.ok.uq h he hres E w hk.rel).mono fun e w' he=> ?_
    obtain ⟨x,E',g1,g2,g3,g4⟩:=he
    exact ⟨_,g2,x,E',g1,rfl,g3,g4⟩
   ·rintro u w' ⟨x,E',g1,rfl,g3,g4⟩
    have hag:∀i,below A.nb i=true→E' i=E i:=fun j hj=>g4.agree j (show j<A.nb by simpa [below] using hj)
    refine hQ _ ⟨x,g1,rfl⟩ E' _ w' ⟨hB x g1, ?_,hk.le, ?_,fun q hq=> ?_,g3.rel⟩ ?_
    ·rw [h2];simp [Act.put,hk.size]
    ·rw [h2];exact hk.defers
    ·rw [h2]
     simp only [Act.put]
     rw [JQ _ _ _ _ (by rw [hk.size];exact hlt')]
     rcases List.mem_cons.1 hq with rfl | hq
     ·simp
     ·obtain ⟨l1,l2⟩:=hl q hq
      rw [if_neg l2,hk.tm q l1,LV.den_congr hag (hk.ok.okT q l1)]
    ·exact ⟨g4.nb,g4.agree,g4.os,g4.tape,g4.output,g4.size,g4.frame,g4.src⟩
  ·cases ho
end
end Go.Lr

/- A walk in pieces beside blocks that it does not touch. -/
namespace Go.Lr
open Go.RowKit
theorem jZ:∀(m m2:Mem) (i:Nat),getM (m++m2) i=match getM m i with
  | some b=>some b
  | none=>getM m2 i
 | [],m2,i=>rfl
 | (j,c)::m,m2,i=>by
  rw [List.cons_append,jm,jm]
  by_cases h:i=j
  ·rw [if_pos h,if_pos h]
  ·rw [if_neg h,if_neg h];exact jZ m m2 i
section
variable {P:Program} {sz:Nat}
theorem ToP.frame {c:Code} {live:List (Nat×LV)} {m m2:Mem} {nb:Nat} {e:Ex} {B:Kst→Prop} (h:ToP P sz c ⟨live,m,nb⟩ e B)
  (hA:KstOK ⟨live,m,nb⟩) (hd:∀i,(getM m2 i).isSome→getM m i=none) (hx:∀x,B x→∀i,(getM m2 i).isSome→getM x.mem i=none) (hB:∀x,B x→KstOK ⟨x.live,x.mem++m2,x.nb⟩):
  ToP P sz c ⟨live,m++m2,nb⟩ e (fun y=>∃x,B x∧y=⟨x.live,x.mem++m2,x.nb⟩):=by
 intro E a w hk Q hQ
 have hsub:∀i b,getM m i=some b→getM (m++m2) i=some b:=fun i b hi=>by rw [jZ,hi]
 have hsub2:∀i b,getM m2 i=some b→getM (m++m2) i=some b:=fun i b hi=>by rw [jZ,hd i (by rw [hi];rfl)];exact hi
 have hrel:Rel E (getM (m++m2)) w:=hk.rel
 have hk1:KR E sz ⟨live,m,nb⟩ a w:=⟨hA,hk.size,hk.le,hk.defers,hk.tm,hrel.sub hsub⟩
 refine h E a w hk1 Q fun x hxB E' a' w' hr hx'=> ?_
 refine hQ _ ⟨x,hxB,rfl⟩ E' a' w' ?_ ?_
 ·have hlt:∀i b,getM m2 i=some b→i<nb∧okL (below nb) b.cells=true:=fun i b hi=>hk.ok.okM i b (hsub2 i b hi)
  have hag:∀i,i<nb→E' i=E i:=hx'.agree
  have hblk2:∀i b,getM m2 i=some b→blkAt E' i b w':=by
   intro i b hi
   obtain ⟨l1,l2⟩:=hlt i b hi
   obtain ⟨r,u1,u2,u3⟩:=hrel.blk i b (hsub2 i b hi)
   refine ⟨r, ?_,u2,fun hz=>by rw [hag i l1];exact u3 hz⟩
   rw [hag i l1,hx'.frame _ (Array.getElem?_eq_some_iff.1 u1).1 fun q hq hqe=> ?_]
   ·rw [u1,jX (E:=E) (E':=E') (p:=below nb) (fun t ht=>hag t (by simpa [below] using ht)) l2]
   ·obtain ⟨bq,hbq⟩:=Option.isSome_iff_exists.1 hq
    have hbq':getM m q=some bq:=hbq
    have:=hrel.inj q i (by rw [hsub q bq hbq'];rfl) (by rw [hsub2 i b hi];rfl) hqe
    subst this
    have:=hd q (by rw [hi];rfl)
    rw [hbq'] at this
    cases this
  have cross:∀i j,(getM x.mem i).isSome→(getM m2 j).isSome→(E' i).1=(E' j).1→False:=by
   intro i j hi hj he
   obtain ⟨b,hb⟩:=Option.isSome_iff_exists.1 hj
   obtain ⟨l1,l2⟩:=hlt j b hb
   obtain ⟨r,u1,u2,u3⟩:=hrel.blk j b (hsub2 j b hb)
   rw [hag j l1] at he
   rcases hx'.src i hi with hz | ⟨q,hq,hqe⟩
   ·have:=(Array.getElem?_eq_some_iff.1 u1).1
    omega
   ·obtain ⟨bq,hbq⟩:=Option.isSome_iff_exists.1 hq
    have hbq':getM m q=some bq:=hbq
    have:=hrel.inj q j (by rw [hsub q bq hbq'];rfl) (by rw [hsub2 j b hb];rfl) (hqe.symm.trans he)
    subst this
    have:=hd q hj
    rw [hbq'] at this
    cases this
  refine ⟨hB x hxB,hr.size,hr.le,hr.defers,hr.tm,⟨fun i b hi=> ?_,fun i j hi hj he=> ?_⟩⟩
  ·have hi':getM (x.mem++m2) i=some b:=hi
   rw [jZ] at hi'
   cases hxi:getM x.mem i with
   | some c=>rw [hxi] at hi';cases hi';exact hr.rel.blk i _ hxi
   | none=>rw [hxi] at hi';exact hblk2 i b hi'
  ·have hi':(getM (x.mem++m2) i).isSome:=hi
   have hj':(getM (x.mem++m2) j).isSome:=hj
   rw [jZ] at hi' hj'
   cases hxi:getM x.mem i with
   | some c=>
    cases hxj:getM x.mem j with
    | some c2=>exact hr.rel.inj i j (by rw [hxi];rfl) (by rw [hxj];rfl) he
    | none=>rw [hxj] at hj';exact (cross i j (by rw [hxi];rfl) hj' he).elim
   | none=>
    rw [hxi] at hi'
    cases hxj:getM x.mem j with
    | some c2=>exact (cross j i (by rw [hxj];rfl) hi' he.symm).elim
    | none=>
     rw [hxj] at hj'
     obtain ⟨b1,h1⟩:=Option.isSome_iff_exists.1 hi'
     obtain ⟨b2,h2⟩:=Option.isSome_iff_exists.1 hj'
     rw [hag i (hlt i b1 h1).1,hag j (hlt j b2 h2).1] at he
     exact hrel.inj i j (by rw [hsub2 i b1 h1];rfl) (by rw [hsub2 j b2 h2];rfl) he
 ·refine ⟨hx'.nb,hx'.agree,hx'.os,hx'.tape,hx'.output,hx'.size,fun b hb hn=>hx'.frame b hb fun i hi=> ?_,fun i hi=> ?_⟩
  ·obtain ⟨c,hc⟩:=Option.isSome_iff_exists.1 hi
   refine hn i ?_
   show (getM (m++m2) i).isSome
   rw [hsub i c hc];rfl
  ·have hi':(getM (x.mem++m2) i).isSome:=hi
   rw [jZ] at hi'
   cases hxi:getM x.mem i with
   | some c=>
    rcases hx'.src i (by show (getM x.mem i).isSome;rw [hxi];rfl) with hz | ⟨q,hq,hqe⟩
    ·exact .inl hz
    ·obtain ⟨c2,hc2⟩:=Option.isSome_iff_exists.1 hq
     refine .inr ⟨q, ?_,hqe⟩
     show (getM (m++m2) q).isSome
     rw [hsub q c2 hc2];rfl
   | none=>
    rw [hxi] at hi'
    obtain ⟨b1,h1⟩:=Option.isSome_iff_exists.1 hi'
    refine .inr ⟨i, ?_, ?_⟩
    ·show (getM (m++m2) i).isSome
     rw [hsub2 i b1 h1];rfl
    ·rw [hx'.agree i (hk.ok.okM i b1 (hsub2 i b1 h1)).1]
variable {S:FuncId→Option SumK}
def jeN (τ:Nat→LV) (o:Option Oper):Option (FuncId×List LV×Tmp):=match jck o with
 | some (c,t)=>match callee τ c with
  | some (f,args)=>some (f,args,t)
  | none=>none
 | none=>none
def Kn (t:Nat) (ks:List Nat):List (Nat×LV)→List (Nat×LV)
 | []=>[]
 | q::l=>match yH ks q.1 with
  | true=>match Nat.beq q.1 t with
   | true=>Kn t ks l
   | false=>q::Kn t ks l
  | false=>Kn t ks l
theorem zt {t:Nat} {ks:List Nat}:∀{l:List (Nat×LV)},∀q∈Kn t ks l,q∈l∧q.1≠t
 | [],q,h=>by cases h
 | x::l,q,h=>by
  unfold Kn at h
  split at h
  ·split at h
   ·obtain ⟨a,b⟩:=zt q h
    exact ⟨List.mem_cons_of_mem _ a,b⟩
   ·rename_i hb
    rcases List.mem_cons.1 h with rfl | h
    ·exact ⟨List.mem_cons_self ..,fun e=>by rw [e] at hb;simp at hb⟩
    ·obtain ⟨a,b⟩:=zt q h
     exact ⟨List.mem_cons_of_mem _ a,b⟩
  ·obtain ⟨a,b⟩:=zt q h
   exact ⟨List.mem_cons_of_mem _ a,b⟩
theorem ToO.callK (hs:Sound P S) {ops:Array Oper} {k:Nat} {A:Kst} {B:Kst→Prop} {t:Tmp} {f:FuncId} {fn:Func} {c:Code} {args:List LV} {e:Ex} {v:Kst→LV} (ks:List Nat)
  (hcal:∀dead,jeN (getT (A.tm dead)) ops[k]? = some (f,args,t)) (hf:P.funcs[f]? = some fn) (hb:fn.body=some c)
  (hle:Nat.ble fn.ntmps 60000=true) (hargs:Nat.ble (jmG args) fn.ntmps=true) (hlt:Nat.blt t sz=true)
  (h:ToP P fn.ntmps c ⟨jS 0 args,A.mem,A.nb⟩ e B) (he:e = .normal∨e = .ret)
  (hres:∀x,B x→∀dead,km P fn.results.toList (getT (x.tm dead)) x.mem=some (v x))
  (hB:∀x,B x→KstOK ⟨(t,v x)::Kn t ks A.live,x.mem,x.nb⟩):
  ToO P sz ops k 1 A (fun y=>∃x,B x∧y=⟨(t,v x)::Kn t ks A.live,x.mem,x.nb⟩):=by
 cases ho:jck ops[k]? with
 | none=>
  have:=hcal fun _=>undef
  unfold jeN at this
  rw [ho] at this
  cases this
 | some q=>
  obtain ⟨cl,t'⟩:=q
  have key:∀dead,callee (getT (A.tm dead)) cl=some (f,args)∧t'=t:=by
   intro dead
   have:=hcal dead
   unfold jeN at this
   rw [ho] at this
   simp only at this
   split at this
   ·rename_i f' args' h1
    simp only [Option.some.injEq,Prod.mk.injEq] at this
    obtain ⟨rfl,rfl,rfl⟩:=this
    exact ⟨h1,rfl⟩
   ·cases this
  obtain rfl:=(key fun _=>undef).2
  exact ToO.call hs ho (fun dead=>(key dead).1) hf hb hle hargs hlt h he hres (fun q hq=>zt q hq) hB
end
end Go.Lr

/- A walk in pieces in which pointers to some blocks are values that are not known: such blocks need not be looked at. -/
namespace Go.Lr
open Go.RowKit
def jxr (H:Nat→Bool) (val:At→Value):At→At
 | .ptr b o=>match H b with
  | true=> .opq (val (.ptr b o))
  | false=> .ptr b o
 | .slu b n=>match H b with
  | true=> .opq (val (.slu b n))
  | false=> .slu b n
 | .slv b n=>match H b with
  | true=> .opq (val (.slv b n))
  | false=> .slv b n
 | a=>a
section
variable {H:Nat→Bool} {val:At→Value} {E E0:Env}
end
theorem Ext.of_some {w w':World} {E E':Env} {s s' t t':St} (h:Ext w E s w' E' s') (h1:t.nb=s.nb) (h2:t'.nb=s'.nb) (h3:∀i,(getM s.mem i).isSome→(getM t.mem i).isSome) (h4:∀i,(getM t'.mem i).isSome→(getM s'.mem i).isSome):Ext w E t w' E' t':=
 ⟨by rw [h1,h2];exact h.nb,by rw [h1];exact h.agree,h.os,h.tape,h.output,h.size,fun b hb hn=>h.frame b hb fun i hi=>hn i (h3 i hi),fun i hi=>(h.src i (h4 i hi)).imp id fun ⟨j,hj,e⟩=>⟨j,h3 j hj,e⟩⟩
theorem ToP.sub {P:Program} {sz:Nat} {c:Code} {A A0:Kst} {e:Ex} {B:Kst→Prop} (hA:KstOK A0) (hl:∀q∈A0.live,q∈A.live) (hm:∀i b,getM A0.mem i=some b→getM A.mem i=some b) (hn:A0.nb=A.nb) (h:ToP P sz c A0 e B):ToP P sz c A e B:=by
 intro E a w hk Q hQ
 have hs:∀i,(getM A0.mem i).isSome→(getM A.mem i).isSome:=fun i hi=>by
  obtain ⟨b,hb⟩:=Option.isSome_iff_exists.1 hi
  rw [hm i b hb];rfl
 refine h E a w ⟨hA,hk.size,hk.le,hk.defers,fun q hq=>hk.tm q (hl q hq),⟨fun i b hb=>hk.rel.blk i b (hm i b hb),fun i j hi hj=>hk.rel.inj i j (hs i hi) (hs j hj)⟩⟩ Q fun x hx E' a' w' hr hxx=> ?_
 exact hQ x hx E' a' w' hr (hxx.of_some hn.symm rfl hs fun i hi=>hi)
theorem KR.less {E:Env} {sz:Nat} {x y:Kst} {a:Act} {w:World} (h:KR E sz y a w) (hx:KstOK x) {l:List (Nat×LV)} {r:Mem} (h1:y.live=l++x.live) (h2:y.mem=x.mem++r):KR E sz x a w:=by
 have hm:∀i b,getM x.mem i=some b→getM y.mem i=some b:=fun i b hb=>by rw [h2,jZ,hb]
 have hs:∀i,(getM x.mem i).isSome→(getM y.mem i).isSome:=fun i hi=>by
  obtain ⟨b,hb⟩:=Option.isSome_iff_exists.1 hi
  rw [hm i b hb];rfl
 exact ⟨hx,h.size,h.le,h.defers,fun q hq=>h.tm q (by rw [h1];exact List.mem_append_right l hq),⟨fun i b hb=>h.rel.blk i b (hm i b hb),fun i j hi hj=>h.rel.inj i j (hs i hi) (hs j hj)⟩⟩
theorem ToO.less {P:Program} {sz:Nat} {ops:Array Oper} {k m:Nat} {A:Kst} {B C:Kst→Prop} (h:ToO P sz ops k m A B) (g:∀y,B y→∃x l r,C x∧KstOK x∧y.live=l++x.live∧y.mem=x.mem++r∧y.nb=x.nb):ToO P sz ops k m A C:=by
 intro E a w hk Q rest hQ
 refine h E a w hk Q rest fun y hy E' a' w' hr hx=> ?_
 obtain ⟨x,l,r,hc,hok,h1,h2,h3⟩:=g y hy
 refine hQ x hc E' a' w' (hr.less hok h1 h2) (hx.of_some rfl h3.symm (fun i hi=>hi) fun i hi=> ?_)
 show (getM y.mem i).isSome
 rw [h2,jZ]
 obtain ⟨b,hb⟩:=Option.isSome_iff_exists.1 hi
 have hb:getM x.mem i=some b:=hb
 rw [hb];rfl
def jfy:Code→Option Nat
 | .cond (.tmp t) _ _=>some t
 | _=>none
def jdM (t:Nat):List (Nat×LV)→Option LV
 | []=>none
 | (i,v)::l=>match Nat.beq i t with
  | true=>some v
  | false=>jdM t l
theorem ZH {t:Nat} {v:LV}:∀{l:List (Nat×LV)},jdM t l=some v→(t,v)∈l
 | [],h=>by cases h
 | (i,u)::l,h=>by
  unfold jdM at h
  split at h
  ·rename_i h1
   cases h
   rw [Nat.eq_of_beq_eq_true h1]
   exact List.mem_cons_self ..
  ·exact List.mem_cons_of_mem _ (ZH h)
theorem ToP.cond {P:Program} {sz:Nat} {c:Code} {t:Nat} {b:Bool} {A:Kst} {e:Ex} {B:Kst→Prop} (hc:jfy c=some t) (hl:jdM t A.live=some (.v (.one (.bool b)))) (h:ToP P sz (match b with | true=>c1 c | false=>c2 c) A e B):ToP P sz c A e B:=by
 unfold jfy at hc
 split at hc
 ·cases hc
  intro E a w hr Q hQ
  have:=hr.tm _ (ZH hl)
  refine wp_cond (t:=b) ?_ ?_
  ·show a.tmps.getD t undef=_
   rw [this];rfl
  ·have:=h E a w hr Q hQ
   cases b
   ·exact this
   ·exact this
 ·cases hc
end Go.Lr

/- The local evaluator: summaries of functions that are handed two slices of numbers. -/
namespace Go.Lr
open Go.RowKit
section
variable {P:Program} {S:FuncId→Option SumK} {z:Md}
def jlZ (es:Nat) (g:Nat→Option Blk) (s:LV) (bs:List Nat) (xs:List Int):Prop:=
 (∃b k cs,slB s=some b∧bs=[b]∧g b=some k∧jaA es s k=some (xs,cs)∧∀c∈cs,c.1=c.2)∨(s = .v (.one .nilsl)∧bs=[]∧xs=[])
theorem jgP {es:Nat} {xs:List Int} {g:Nat→Option Blk} {rest:List LV} {rdB:List Blk} {bl:List Nat} {cs0:List (Bool×Bool)} (h1:rdA rest=some bl) (h2:jz g bl=some rdB) (h3:avA es rest rdB=some ([.ints xs],cs0)) (h4:∀c∈cs0,c.1=c.2):
  ∃s,rest=[s]∧jlZ es g s bl xs:=by
 obtain ⟨-,h⟩:=jj1 (es:=es) (xs:=xs) (g:=g) [] rest rdB bl cs0 h1 h2 h3 h4
 rcases h with ⟨s,b,k,cs,e,h⟩ | ⟨e,h⟩
 ·exact ⟨s,e,.inl ⟨b,k,cs,h⟩⟩
 ·refine ⟨_,e,.inr ⟨rfl, ?_,h⟩⟩
  rw [e] at h1
  cases h1
  rfl
theorem jpL {es:Nat} {xs ys:List Int} {g:Nat→Option Blk}:∀(pre:List LV) (rest:List LV) (rdB:List Blk) (bl:List Nat) (cs0:List (Bool×Bool)),rdA rest=some bl→jz g bl=some rdB→avA es rest rdB=some (pre.map AV.pl++[.ints xs,.ints ys],cs0)→(∀c∈cs0,c.1=c.2)→
 jR pre=true∧∃s1 s2 b1 b2,rest=pre++[s1,s2]∧bl=b1++b2∧jlZ es g s1 b1 xs∧jlZ es g s2 b2 ys:=by
 intro pre
 induction pre with
 | nil=>
  intro rest rdB bl cs0 h1 h2 h3 h4
  refine ⟨rfl, ?_⟩
  cases rest with
  | nil=>simp [avA] at h3
  | cons s rest=>
   simp only [avA,List.map_nil,List.nil_append] at h3
   split at h3
   ·rename_i b hsl
    simp only [rdA,hsl] at h1
    split at h1
    ·rename_i r hr1
     cases h1
     obtain ⟨k,r',hk,hr',rfl⟩:=jT h2
     simp only at h3
     split at h3
     ·rename_i xs' cs1 hx
      split at h3
      ·rename_i r2 cs2 hav
       simp only [Option.some.injEq,Prod.mk.injEq,List.cons.injEq,AV.ints.injEq] at h3
       obtain ⟨⟨rfl,jdL⟩,hcs⟩:=h3
       subst jdL
       subst hcs
       obtain ⟨s2,rfl,h⟩:=jgP hr1 hr' hav fun c hcm=>h4 c (List.mem_append_right _ hcm)
       exact ⟨s,s2,[b],r,rfl,rfl,.inl ⟨b,k,cs1,hsl,rfl,hk,hx,fun c hcm=>h4 c (List.mem_append_left _ hcm)⟩,h⟩
      ·cases h3
     ·cases h3
    ·cases h1
   ·rename_i hsl
    split at h3
    ·rename_i jdL
     split at h3
     ·rename_i r2 cs2 hav
      simp only [Option.some.injEq,Prod.mk.injEq,List.cons.injEq,AV.ints.injEq] at h3
      obtain ⟨⟨hx,hn2⟩,hcs⟩:=h3
      subst hn2
      simp only [rdA,hsl] at h1
      split at h1
      ·obtain ⟨s2,rfl,h⟩:=jgP h1 h2 hav fun c hcm=>h4 c (by rw [←hcs];exact hcm)
       refine ⟨s,s2,[],bl,rfl,rfl,.inr ⟨?_,rfl,hx.symm⟩,h⟩
       unfold jgO at jdL
       split at jdL
       ·rfl
       ·cases jdL
      ·cases h1
     ·cases h3
    ·split at h3 <;> simp at h3
 | cons q pre ih=>
  intro rest rdB bl cs0 h1 h2 h3 h4
  cases rest with
  | nil=>simp [avA] at h3
  | cons s rest=>
   simp only [avA,List.map_cons,List.cons_append] at h3
   split at h3
   ·rename_i b hsl
    (repeat' split at h3) <;> simp at h3
   ·rename_i hsl
    split at h3
    ·(repeat' split at h3) <;> simp at h3
    ·split at h3
     ·rename_i r2 cs2 hav
      simp only [Option.some.injEq,Prod.mk.injEq,List.cons.injEq,AV.pl.injEq] at h3
      obtain ⟨⟨rfl,hr2⟩,rfl⟩:=h3
      simp only [rdA,hsl] at h1
      split at h1
      ·rename_i hq
       rw [hr2] at hav
       obtain ⟨i1,s1,s2,b1,b2,i2,i3⟩:=ih rest rdB bl cs2 h1 h2 hav h4
       exact ⟨by simp only [jR,hq,i1],s1,s2,b1,b2,by rw [i2];rfl,i3⟩
      ·cases h1
     ·cases h3
theorem jeG {kc k1 k2 q:Blk} {i:Nat} (hq:getM [(0,kc),(1,k1),(2,k2)] i=some q):(i=0∧q=kc)∨(i=1∧q=k1)∨(i=2∧q=k2):=by
 rw [jm] at hq
 by_cases hi:i=0
 ·subst hi;rw [if_pos rfl] at hq;cases hq;exact .inl ⟨rfl,rfl⟩
 ·rw [if_neg hi,jm] at hq
  by_cases hi1:i=1
  ·subst hi1;rw [if_pos rfl] at hq;cases hq;exact .inr (.inl ⟨rfl,rfl⟩)
  ·rw [if_neg hi1,jm] at hq
   by_cases hi2:i=2
   ·subst hi2;rw [if_pos rfl] at hq;cases hq;exact .inr (.inr ⟨rfl,rfl⟩)
   ·rw [if_neg hi2] at hq;simp [getM] at hq
theorem jxf {E E1:Env} {g:Nat→Option Blk} {w:World} {c b1 b2:Nat} {kc k1 k2:Blk} (hrel:Rel E g w) (hkc:g c=some kc) (hk1:g b1=some k1) (hk2:g b2=some k2) (h01:c≠b1) (h02:c≠b2) (h12:b1≠b2)
  (o0:okL noP kc.cells=true) (o1:okL noP k1.cells=true) (o2:okL noP k2.cells=true) (h0:E1 0=E c) (h1:E1 1=E b1) (h2:E1 2=E b2):Rel E1 (getM [(0,kc),(1,k1),(2,k2)]) w:=by
 refine ⟨fun i q hq=> ?_,fun i j hi hj he=> ?_⟩
 ·rcases jeG hq with ⟨rfl,rfl⟩ | ⟨rfl,rfl⟩ | ⟨rfl,rfl⟩
  ·exact kp o0 h0 (hrel.blk c _ hkc)
  ·exact kp o1 h1 (hrel.blk b1 _ hk1)
  ·exact kp o2 h2 (hrel.blk b2 _ hk2)
 ·have i01:∀{a b},(g a).isSome→(g b).isSome→a≠b→(E a).1≠(E b).1:=fun ha hb hn e=>hn (hrel.inj _ _ ha hb e)
  have sc:(g c).isSome:=by rw [hkc];rfl
  have s1:(g b1).isSome:=by rw [hk1];rfl
  have s2:(g b2).isSome:=by rw [hk2];rfl
  obtain ⟨qi,hqi⟩:=Option.isSome_iff_exists.1 hi
  obtain ⟨qj,hqj⟩:=Option.isSome_iff_exists.1 hj
  rcases jeG hqi with ⟨rfl,-⟩ | ⟨rfl,-⟩ | ⟨rfl,-⟩ <;> rcases jeG hqj with ⟨rfl,-⟩ | ⟨rfl,-⟩ | ⟨rfl,-⟩
  ·rfl
  ·rw [h0,h1] at he;exact absurd he (i01 sc s1 h01)
  ·rw [h0,h2] at he;exact absurd he (i01 sc s2 h02)
  ·rw [h0,h1] at he;exact absurd he.symm (i01 sc s1 h01)
  ·rfl
  ·rw [h1,h2] at he;exact absurd he (i01 s1 s2 h12)
  ·rw [h0,h2] at he;exact absurd he.symm (i01 sc s2 h02)
  ·rw [h1,h2] at he;exact absurd he.symm (i01 s1 s2 h12)
  ·rfl
def jj2 (a b c:Nat):Nat→Nat
 | 0=>a
 | 1=>b
 | _=>c
def NIL:LV:= .v (.one .nilsl)
def SLX (b o n c:Nat):LV:= .v (.one (.slx b o n c))
structure Two (P:Program) (f:FuncId) (ty:TypeId) (es:Nat) (pre:List LV) (xs ys:List Int) (hb h':Bool) (v:LV):Prop where
 two:∀(k1:Blk) (o1 n1 c1:Nat) (k2:Blk) (o2 n2 c2:Nat),SlAt es k1 o1 n1 xs→SlAt es k2 o2 n2 ys→∀(E:Env) (w:World),Rel E (getM [(0,flag ty hb),(1,k1),(2,k2)]) w→
  Calls P f ((A0::(pre++[SLX 1 o1 n1 c1,SLX 2 o2 n2 c2])).map (LV.den E)).toArray w fun e w'=>e = .returned (v.den E0)∧Lcl E [(0,flag ty hb),(1,k1),(2,k2)] [(0,flag ty h'),(1,k1),(2,k2)] w w'
 one:∀(k:Blk) (o1 n1 c1:Nat) (o2 n2 c2:Nat),SlAt es k o1 n1 xs→SlAt es k o2 n2 ys→∀(E:Env) (w:World),Rel E (getM [(0,flag ty hb),(1,k)]) w→
  Calls P f ((A0::(pre++[SLX 1 o1 n1 c1,SLX 1 o2 n2 c2])).map (LV.den E)).toArray w fun e w'=>e = .returned (v.den E0)∧Lcl E [(0,flag ty hb),(1,k)] [(0,flag ty h'),(1,k)] w w'
 right:xs=[]→∀(k:Blk) (o n c:Nat),SlAt es k o n ys→∀(E:Env) (w:World),Rel E (getM [(0,flag ty hb),(1,k)]) w→
  Calls P f ((A0::(pre++[NIL,SLX 1 o n c])).map (LV.den E)).toArray w fun e w'=>e = .returned (v.den E0)∧Lcl E [(0,flag ty hb),(1,k)] [(0,flag ty h'),(1,k)] w w'
 left:ys=[]→∀(k:Blk) (o n c:Nat),SlAt es k o n xs→∀(E:Env) (w:World),Rel E (getM [(0,flag ty hb),(1,k)]) w→
  Calls P f ((A0::(pre++[SLX 1 o n c,NIL])).map (LV.den E)).toArray w fun e w'=>e = .returned (v.den E0)∧Lcl E [(0,flag ty hb),(1,k)] [(0,flag ty h'),(1,k)] w w'
 none:xs=[]→ys=[]→∀(E:Env) (w:World),Rel E (getM [(0,flag ty hb)]) w→
  Calls P f ((A0::(pre++[NIL,NIL])).map (LV.den E)).toArray w fun e w'=>e = .returned (v.den E0)∧Lcl E [(0,flag ty hb)] [(0,flag ty h')] w w'
theorem jgQ {f:FuncId} (ho:Own P f) {ty:TypeId} {es:Nat} {F:List AV→Bool→Option (LV×Bool×List (Bool×Bool))}
  (hF1:∀avs hb r,F avs hb=some r→∃(pre:List LV) (xs ys:List Int),avs=pre.map AV.pl++[.ints xs,.ints ys])
  (h:∀(pre:List LV) (xs ys:List Int) (hb:Bool) (v:LV) (h':Bool) (cs:List (Bool×Bool)),F (pre.map AV.pl++[.ints xs,.ints ys]) hb=some (v,h',cs)→(∀c∈cs,c.1=c.2)→jR pre=true→v.ok noP=true→
   Two P f ty es pre xs ys hb h' v):SumOK P f (x9 ty es F):=by
 intro args t g nb p rdB wrB ans ws E w hs hr hw _ hgo hz hc hrel hg hargs hn
 unfold x9 at hs
 split at hs
 ·rename_i c rest
  split at hs
  ·rename_i bl hbl
   split at hs
   ·rename_i hmem
    cases hs
    simp only at hgo hw hr
    split at hgo
    ·rename_i t' hb
     split at hgo
     ·rename_i hty
      rw [kX] at hty
      have hty':t'=ty:=by simpa using hty
      subst hty'
      split at hgo
      ·rename_i avs cs0 has
       split at hgo
       ·rename_i v h' cs hF
        split at hgo
        ·rename_i hv
         cases hgo
         obtain ⟨kc,r',hkc,hr',hrr⟩:=jT hw
         cases kD hr'
         cases hrr
         simp only [Xi] at hz
         cases hz
         simp only at hc ⊢
         have hc0:∀c∈cs0,c.1=c.2:=fun c hcm=>hc c (List.mem_append_left _ hcm)
         have hc1:∀c∈cs,c.1=c.2:=fun c hcm=>hc c (List.mem_append_right _ hcm)
         obtain ⟨pre,xs,ys,rfl⟩:=hF1 _ _ _ hF
         obtain ⟨hp,s1,s2,b1,b2,rfl,rfl,hs1,hs2⟩:=jpL (es:=es) (xs:=xs) (ys:=ys) (g:=g) pre rest rdB bl cs0 hbl hr has hc0
         have H:=h pre xs ys hb v h' cs hF hc1 hp hv
         have hpre:=plainVs_iff.1 hp
         have hf0:(⟨t',(0,0),0,[.bool hb]⟩:Blk)=flag t' hb:=rfl
         rw [hf0] at hkc
         have hnc:∀b∈b1++b2,c≠b:=fun b hbm e=>by
          subst e
          have:=xl hmem
          exact this hbm
         rcases hs1 with ⟨d1,k1,q1,e1,rfl,hk1,hi1,hq1⟩ | ⟨rfl,rfl,rfl⟩ <;> rcases hs2 with ⟨d2,k2,q2,e2,rfl,hk2,hi2,hq2⟩ | ⟨rfl,rfl,rfl⟩
         ·obtain ⟨o1,n1,cc1,hsa1,-,hden1⟩:=ya hi1 hq1 e1 (hrel.blk d1 k1 hk1)
          obtain ⟨o2,n2,cc2,hsa2,-,hden2⟩:=ya hi2 hq2 e2 (hrel.blk d2 k2 hk2)
          have hc1:c≠d1:=hnc d1 (by simp)
          have hc2:c≠d2:=hnc d2 (by simp)
          by_cases hd:d1=d2
          ·subst hd
           rw [hk1] at hk2
           cases hk2
           generalize hE1:(fun i=>E (jaB c d1 i))=E1
           have hE:∀i,E1 i=E (jaB c d1 i):=fun i=>by rw [←hE1]
           have hcl:=H.one k1 o1 n1 cc1 o2 n2 cc2 hsa1 hsa2 E1 w (jrd hrel hkc hk1 hc1 rfl hsa1.2.2 (hE 0) (hE 1))
           refine Jn ho hE hrel hkc rfl rfl (fun i q hq=> ?_) (fun i q h0 hq=> ?_) (fun i q hq=> ?_) ?_ hv hcl
           ·rcases Xe hq with ⟨rfl,rfl⟩ | ⟨rfl,rfl⟩
            ·exact hkc
            ·exact hk1
           ·rw [jm,if_neg h0] at hq ⊢;exact hq
           ·rcases Xe hq with ⟨rfl,rfl⟩ | ⟨rfl,rfl⟩
            ·rfl
            ·exact hsa1.2.2
           ·simp only [List.map_cons,List.map_append,List.map_nil]
            rw [hden1 E1 1 (hE 1),hden2 E1 1 (hE 1),jQ hpre,jQ (E:=E1) hpre]
            congr 1
            show LV.den E (.v (.one (.ptr c 0)))=LV.den E1 (.v (.one (.ptr 0 0)))
            simp only [LV.den,V1.den,At.den,hE,jaB]
          ·generalize hE1:(fun i=>E (jj2 c d1 d2 i))=E1
           have hE:∀i,E1 i=E (jj2 c d1 d2 i):=fun i=>by rw [←hE1]
           have hcl:=H.two k1 o1 n1 cc1 k2 o2 n2 cc2 hsa1 hsa2 E1 w (jxf hrel hkc hk1 hk2 hc1 hc2 hd rfl hsa1.2.2 hsa2.2.2 (hE 0) (hE 1) (hE 2))
           refine Jn ho hE hrel hkc rfl rfl (fun i q hq=> ?_) (fun i q h0 hq=> ?_) (fun i q hq=> ?_) ?_ hv hcl
           ·rcases jeG hq with ⟨rfl,rfl⟩ | ⟨rfl,rfl⟩ | ⟨rfl,rfl⟩
            ·exact hkc
            ·exact hk1
            ·exact hk2
           ·rw [jm,if_neg h0] at hq ⊢;exact hq
           ·rcases jeG hq with ⟨rfl,rfl⟩ | ⟨rfl,rfl⟩ | ⟨rfl,rfl⟩
            ·rfl
            ·exact hsa1.2.2
            ·exact hsa2.2.2
           ·simp only [List.map_cons,List.map_append,List.map_nil]
            rw [hden1 E1 1 (hE 1),hden2 E1 2 (hE 2),jQ hpre,jQ (E:=E1) hpre]
            congr 1
            show LV.den E (.v (.one (.ptr c 0)))=LV.den E1 (.v (.one (.ptr 0 0)))
            simp only [LV.den,V1.den,At.den,hE,jj2]
         ·obtain ⟨o1,n1,cc1,hsa1,-,hden1⟩:=ya hi1 hq1 e1 (hrel.blk d1 k1 hk1)
          have hc1:c≠d1:=hnc d1 (by simp)
          generalize hE1:(fun i=>E (jaB c d1 i))=E1
          have hE:∀i,E1 i=E (jaB c d1 i):=fun i=>by rw [←hE1]
          have hcl:=H.left rfl k1 o1 n1 cc1 hsa1 E1 w (jrd hrel hkc hk1 hc1 rfl hsa1.2.2 (hE 0) (hE 1))
          refine Jn ho hE hrel hkc rfl rfl (fun i q hq=> ?_) (fun i q h0 hq=> ?_) (fun i q hq=> ?_) ?_ hv hcl
          ·rcases Xe hq with ⟨rfl,rfl⟩ | ⟨rfl,rfl⟩
           ·exact hkc
           ·exact hk1
          ·rw [jm,if_neg h0] at hq ⊢;exact hq
          ·rcases Xe hq with ⟨rfl,rfl⟩ | ⟨rfl,rfl⟩
           ·rfl
           ·exact hsa1.2.2
          ·simp only [List.map_cons,List.map_append,List.map_nil]
           rw [hden1 E1 1 (hE 1),jQ hpre,jQ (E:=E1) hpre]
           congr 1
           show LV.den E (.v (.one (.ptr c 0)))=LV.den E1 (.v (.one (.ptr 0 0)))
           simp only [LV.den,V1.den,At.den,hE,jaB]
         ·obtain ⟨o1,n1,cc1,hsa1,-,hden1⟩:=ya hi2 hq2 e2 (hrel.blk d2 k2 hk2)
          have hc1:c≠d2:=hnc d2 (by simp)
          generalize hE1:(fun i=>E (jaB c d2 i))=E1
          have hE:∀i,E1 i=E (jaB c d2 i):=fun i=>by rw [←hE1]
          have hcl:=H.right rfl k2 o1 n1 cc1 hsa1 E1 w (jrd hrel hkc hk2 hc1 rfl hsa1.2.2 (hE 0) (hE 1))
          refine Jn ho hE hrel hkc rfl rfl (fun i q hq=> ?_) (fun i q h0 hq=> ?_) (fun i q hq=> ?_) ?_ hv hcl
          ·rcases Xe hq with ⟨rfl,rfl⟩ | ⟨rfl,rfl⟩
           ·exact hkc
           ·exact hk2
          ·rw [jm,if_neg h0] at hq ⊢;exact hq
          ·rcases Xe hq with ⟨rfl,rfl⟩ | ⟨rfl,rfl⟩
           ·rfl
           ·exact hsa1.2.2
          ·simp only [List.map_cons,List.map_append,List.map_nil]
           rw [hden1 E1 1 (hE 1),jQ hpre,jQ (E:=E1) hpre]
           congr 1
           show LV.den E (.v (.one (.ptr c 0)))=LV.den E1 (.v (.one (.ptr 0 0)))
           simp only [LV.den,V1.den,At.den,hE,jaB]
         ·generalize hE1:(fun _:Nat=>E c)=E1
          have hE:∀i,E1 i=E ((fun _=>c) i):=fun i=>by rw [←hE1]
          have hcl:=H.none rfl rfl E1 w (jt1 hrel hkc rfl (hE 0))
          refine Jn ho hE hrel hkc rfl rfl (fun i q hq=> ?_) (fun i q h0 hq=> ?_) (fun i q hq=> ?_) ?_ hv hcl
          ·obtain ⟨rfl,rfl⟩:=jca hq;exact hkc
          ·exact absurd (jca hq).1 h0
          ·obtain ⟨rfl,rfl⟩:=jca hq;rfl
          ·simp only [List.map_cons,List.map_append,List.map_nil]
           rw [jQ hpre,jQ (E:=E1) hpre]
           congr 1
           show LV.den E (.v (.one (.ptr c 0)))=LV.den E1 (.v (.one (.ptr 0 0)))
           simp only [LV.den,V1.den,At.den,hE]
        ·cases hgo
       ·cases hgo
      ·cases hgo
     ·cases hgo
    ·cases hgo
   ·cases hs
  ·cases hs
 ·cases hs
end
end Go.Lr

/- Laws that are handed slices: the blocks behind them, as the evaluator's memory. -/
namespace Go.Lr
open Go.ChangeShapes Go.WideShapes Go.ChangeAt Go.RowKit
structure RowL (arr:Array Value) (o cap:Nat) (zs:List Int):Prop where
 len:zs.length=cap
 le:o+cap≤arr.size
 at':∀i (h:i<cap),arr[o+i]? = some (.int .i64 (zs.getD i 0))
section
variable {P:Program} {S:FuncId→Option SumK} {z:Md}
end
end Go.Lr

/- A law off a walk in pieces in which blocks change their numbers; lists of cells that name no block. -/
namespace Go.Lr
open Go.RowKit
theorem jik {ρ:Nat→Nat} {a:At} (h:a.ok noP=true):jmF ρ a=a:=by
 cases a with
 | fn f caps=>
  cases caps with
  | nil=>rfl
  | cons c l=>simp [At.ok,noP] at h
 | ptr b o=>cases h
 | sl b o l c=>cases h
 | slu b l=>cases h
 | slx b o l c=>cases h
 | ptx b o=>cases h
 | slt b o n=>cases h
 | slv b n=>cases h
 | _=>rfl
theorem jc5 {ρ:Nat→Nat}:∀{l:List At},okL noP l=true→jf0 ρ l=l
 | [],_=>rfl
 | a::l,h=>by
  simp only [okL] at h
  split at h
  ·rename_i ha
   simp only [jf0,jik ha,jc5 h]
  ·cases h
section
variable {P:Program}
theorem jlG {f:FuncId} {fn:Func} {c:Code} {args:List LV} {m:Mem} {nb N:Nat} {B:Kst→Prop} {v:LV} (hf:P.funcs[f]? = some fn) (hb:fn.body=some c)
  (hle:fn.ntmps≤60000) (hargs:args.length≤fn.ntmps) (hA:∀u∈args,u.ok (below nb)=true) (hm:jY nb m=true) (hz:∀i b,getM m i=some b→b.es=0) (hn:∀i b,getM m i=some b→i<N)
  (ho:∀i b,getM m i=some b→okL noP b.cells=true)
  (h:ToR P fn.ntmps N c ⟨jS 0 args,m,nb⟩ .ret B) (hres:∀x,B x→(∀dead,km P fn.results.toList (getT (x.tm dead)) x.mem=some v)∧∀i b,getM m i=some b→getM x.mem i=some b) (hv:v.ok noP=true)
  (E:Env) (w:World) (hrel:Rel E (getM m) w):Calls P f (args.map (LV.den E)).toArray w fun e w'=>e = .returned (v.den E0)∧Below w.heap.size w w':=by
 obtain ⟨k1,k2⟩:=xC hm
 refine calls_of_wp hf hb (h E _ w ⟨⟨fun q hq=> ?_,(zn args 0).1,fun q hq=> ?_,k1,k2⟩,by simp;omega,hle,rfl,fun q hq=> ?_,hrel⟩ _ fun B0 hB E' a' w' hr' hx'=> ?_)
 ·have:=(ky args 0 q).1 hq
  have:=(List.getElem?_eq_some_iff.1 this.2).1
  omega
 ·exact hA q.2 (List.mem_of_getElem? ((ky args 0 q).1 hq).2)
 ·have:=((ky args 0 q).1 hq).2
  simp only [Nat.sub_zero] at this
  have hlt:=(List.getElem?_eq_some_iff.1 this).1
  simp only [Array.getD_eq_getD_getElem?,Array.getElem?_append,List.size_toArray,List.length_map]
  rw [if_pos hlt]
  simp [this]
 ·have hR:=hr'.toR []
  obtain ⟨hr1,hr2⟩:=hres B0 hB
  refine ⟨hr'.defers,v.den E',qx hR.m.rel hR.tm (hr1 _),by rw [kg hv],hx'.os,hx'.tape,hx'.output,hx'.size,fun k hk=> ?_⟩
  by_cases hex:∃i b,getM m i=some b∧(E i).1=k
  ·obtain ⟨i,b,hi,rfl⟩:=hex
   obtain ⟨r,u1,u2,-⟩:=hrel.blk i b hi
   obtain ⟨r',v1,v2,-⟩:=hr'.rel.blk i b (hr2 i b hi)
   rw [hx'.agree i (hn i b hi),v2 (hz i b hi),qU (E:=E') (ho i b hi),←qU (E:=E) (ho i b hi)] at v1
   rw [u2 (hz i b hi)] at u1
   rw [u1,v1]
  ·refine hx'.frame k hk fun i hi e=>hex ?_
   obtain ⟨b,hb⟩:=Option.isSome_iff_exists.1 hi
   exact ⟨i,b,hb,e⟩
end
def jq9:Nat→List Bool→List Bool
 | 0,l=>l
 | n+1,l=>false::jq9 n l
def Xr:Nat→List Bool→List Bool
 | 0,l=>l
 | n+1,l=>true::Xr n l
theorem w1 {x:Int} (h: -9223372036854775808≤x∧x<9223372036854775808):wr .i64 x=x:=by
 show w64 x=x
 unfold w64
 omega
end Go.Lr

/- A region that draws its order, whose last operation is a call that all others go ahead of: the call is walked into. -/
namespace Go.Lr
open Go.RowKit
theorem ready_mem {ops:Array Oper} {l:Array Bool} {i:Nat}:i∈Region.ready .any ops l↔∃o,ops[i]? = some o∧l.getD i true=false∧∀e∈o.after.toList,Region.binds .any e=true→l.getD e.on false=true:=by
 unfold Region.ready
 simp only [List.mem_filter,List.mem_range,Bool.and_eq_true,Bool.not_eq_true']
 constructor
 ·rintro ⟨h1,h2,h3⟩
  refine ⟨ops[i],Array.getElem?_eq_getElem h1,h2,fun e he hb=> ?_⟩
  rw [Array.getElem?_eq_getElem h1] at h3
  simp only [Option.map_some,Option.getD_some] at h3
  rw [Array.all_eq_true'] at h3
  have:=h3 e (by simpa using he)
  simpa [hb] using this
 ·rintro ⟨o,h1,h2,h3⟩
  have hi:=(Array.getElem?_eq_some_iff.1 h1).1
  refine ⟨hi,h2, ?_⟩
  rw [h1]
  simp only [Option.map_some,Option.getD_some]
  rw [Array.all_eq_true']
  intro e he
  by_cases hb:Region.binds .any e=true
  ·simp [h3 e (by simpa using he) hb]
  ·simp [hb]
theorem zX {l:Array Bool} {k:Nat} (h:k<l.size):l.getD k false=l.getD k true:=by simp [h]
theorem Ju {ops:Array Oper} {l:Array Bool} (hs:l.size=ops.size) (hd:∀k o,ops[k]? = some o→∀e∈o.after.toList,Region.binds .any e=true→e.on<k) (h:Region.ready .any ops l=[]):∀k,l.getD k true=true:=by
 intro k
 induction k using Nat.strongRecOn with
 | _ k ih=>
  cases hk:l.getD k true with
  | true=>rfl
  | false=>
   exfalso
   have hlt:k<l.size:=by
    by_cases hh:k<l.size
    ·exact hh
    ·simp [Array.getD,hh] at hk
   have:k∈Region.ready .any ops l:=ready_mem.2 ⟨ops[k]'(by omega),Array.getElem?_eq_getElem (by omega),hk,fun e he hb=>by
    have hlt2:=hd k _ (Array.getElem?_eq_getElem (by omega)) e he hb
    rw [zX (by omega)]
    exact ih e.on hlt2⟩
   rw [h] at this
   cases this
theorem jfc {P:Program} {ops:Array Oper} {Q:Exit→Act→World→Prop} {l:Array Bool} {a:Act} {w:World} (h:∀k,l.getD k true=true) (hq:Q .normal a w):∀fuel,wpAny P .any ops Q fuel l a w:=by
 have hr:Region.ready .any ops l=[]:=by
  refine List.eq_nil_iff_forall_not_mem.2 fun i hi=> ?_
  obtain ⟨o,-,h2,-⟩:=ready_mem.1 hi
  rw [h i] at h2
  cases h2
 intro fuel
 cases fuel with
 | zero=>exact ⟨hr,hq⟩
 | succ fuel=>exact ⟨fun _=>hq,fun i hi=>by rw [hr] at hi;cases hi⟩
def ja0:List Oper→Bool
 | []=>true
 | o::l=>match o.guard with
  | none=>ja0 l
  | some _=>false
theorem Jv:∀{l:List Oper},ja0 l=true→∀o∈l,o.guard=none
 | [],_,o,ho=>by cases ho
 | x::l,h,o,ho=>by
  unfold ja0 at h
  split at h
  ·rename_i hx
   rcases List.mem_cons.1 ho with rfl | ho
   ·exact hx
   ·exact Jv h o ho
  ·cases h
section
variable {P:Program} {ops:Array Oper} {m:Nat} {Q:Exit→Act→World→Prop}
theorem Yp (hm:ops.size=m+1) (i:Nat):(ops.toList.take m).toArray[i]? = if i<m then ops[i]? else none:=by
 simp only [List.getElem?_toArray,List.getElem?_take,Array.getElem?_toList]
theorem jdI (hm:ops.size=m+1) (hg:ja0 ops.toList=true) (hd:xv 0 ops.toList=true) (hk:Nat.beq ((kv ops.toList []).getD m 0) (2 ^ m - 1)=true):
  ∀(fuel:Nat) (l:Array Bool) (a:Act) (w:World),l.size=m→(∀k o,ops[k]? = some o→k<m→l.getD k true=true→∀e∈o.after.toList,Region.binds .any e=true→l.getD e.on false=true)→
   wpAny P .any (ops.toList.take m).toArray (Exit.then (fun a w=>wpOp P ops Q m (Q .normal) a w) Q) fuel l a w→wpAny P .any ops Q (fuel+1) (l.push false) a w:=by
 have hdn:∀k o,ops[k]? = some o→∀e∈o.after.toList,Region.binds .any e=true→e.on<k:=fun k o ho e he hb=>by
  have:=qm hd k o (by simpa using ho) e he hb
  omega
 have hdn':∀k o,(ops.toList.take m).toArray[k]? = some o→∀e∈o.after.toList,Region.binds .any e=true→e.on<k:=fun k o ho=>by
  rw [Yp hm] at ho
  split at ho
  ·exact hdn k o ho
  ·cases ho
 have hpush:∀(l:Array Bool),l.size=m→∀k d,(l.push false).getD k d=if k<m then l.getD k d else if k=m then false else d:=by
  intro l hl k d
  simp only [Array.getD_eq_getD_getElem?,Array.getElem?_push]
  by_cases h1:k=m
  ·subst h1;simp [hl]
  ·by_cases h2:k<m
   ·simp [h2,hl,h1]
   ·rw [hl,if_neg h1,if_neg h2,if_neg h1,Array.getElem?_eq_none (by omega)];rfl
 have hlast:∀(l:Array Bool),l.size=m→(∀k o,ops[k]? = some o→k<m→l.getD k true=true→∀e∈o.after.toList,Region.binds .any e=true→l.getD e.on false=true)→m∈Region.ready .any ops (l.push false)→∀k,l.getD k true=true:=by
  intro l hl hc hr k
  by_cases hkm:k<m
  ·obtain ⟨o,h1,h2,h3⟩:=ready_mem.1 hr
   have:=z8 hd (fun q=>q<m∧l.getD q true=true) (fun q o' hq hl' e he hb=>by
    have hq':ops[q]? = some o':=by simpa using hq
    have h5:=hc q o' hq' hl'.1 hl'.2 e he hb
    have h6:=hdn q o' hq' e he hb
    refine ⟨by omega, ?_⟩
    rw [←zX (by omega)];exact h5) m o (by simpa using h1) (fun e he hb=>by
    have h5:=h3 e he hb
    have h6:=hdn m o h1 e he hb
    rw [hpush l hl,if_pos h6] at h5
    refine ⟨h6, ?_⟩
    rw [←zX (by omega)];exact h5) k (by
    rw [Nat.eq_of_beq_eq_true hk,Nat.testBit_two_pow_sub_one]
    simpa using hkm)
   exact this.2
  ·simp [Array.getD,hl,hkm]
 have hnot:∀(l:Array Bool),l.size=m→Region.ready .any ops (l.push false)≠[]:=by
  intro l hl h
  have:=Ju (by simp [hl,hm]) hdn h m
  rw [hpush l hl,if_neg (by omega),if_pos rfl] at this
  cases this
 have hset:∀(l:Array Bool),l.size=m→∀i,i<m→(l.push false).setIfInBounds i true=(l.setIfInBounds i true).push false:=by
  intro l hl i hi
  apply Array.ext (by simp)
  intro j h1 h2
  simp only [Array.size_setIfInBounds,Array.size_push] at h1
  rw [Array.getElem_setIfInBounds (by simpa using h1)]
  simp only [Array.getElem_push,Array.size_setIfInBounds]
  by_cases hj:j<l.size
  ·simp only [hj,dif_pos]
   rw [Array.getElem_setIfInBounds hj]
  ·simp only [hj,dif_neg,not_false_eq_true]
   rw [if_neg (by omega)]
 have hend:∀(l:Array Bool),l.size=m→(∀k,l.getD k true=true)→∀fuel a w,wpOp P ops Q m (Q .normal) a w→wpOp P ops Q m (wpAny P .any ops Q fuel ((l.push false).setIfInBounds m true)) a w:=by
  intro l hl hall fuel a w h
  refine wpOp_mono (fun a w hq=>jfc (fun k=> ?_) hq fuel) h
  by_cases hkm:k=m
  ·subst hkm;simp [hl]
  ·have:((l.push false).setIfInBounds m true).getD k true=(l.push false).getD k true:=by
    simp only [Array.getD_eq_getD_getElem?]
    rw [Array.getElem?_setIfInBounds_ne (Ne.symm hkm)]
   rw [this,hpush l hl]
   split
   ·exact hall k
   ·rfl
 intro fuel
 induction fuel with
 | zero=>
  intro l a w hl hc h
  obtain ⟨h1,h2⟩:=h
  have hall:=Ju (ops:=(ops.toList.take m).toArray) (l:=l) (by simp [hl,hm]) hdn' h1
  refine ⟨fun h3=>absurd h3 (hnot l hl),fun i hi=> ?_⟩
  obtain ⟨o,e1,e2,-⟩:=ready_mem.1 hi
  have him:i=m:=by
   have hlt:=(Array.getElem?_eq_some_iff.1 e1).1
   by_cases hi2:i<m
   ·rw [hpush l hl,if_pos hi2,hall i] at e2;cases e2
   ·omega
  subst him
  exact hend l hl hall 0 a w h2
 | succ fuel ih=>
  intro l a w hl hc h
  obtain ⟨h1,h2⟩:=h
  refine ⟨fun h3=>absurd h3 (hnot l hl),fun i hi=> ?_⟩
  obtain ⟨o,e1,e2,e3⟩:=ready_mem.1 hi
  have hlt:=(Array.getElem?_eq_some_iff.1 e1).1
  by_cases him:i<m
  ·have e2':l.getD i true=false:=by rw [hpush l hl,if_pos him] at e2;exact e2
   have e3':∀e∈o.after.toList,Region.binds .any e=true→l.getD e.on false=true:=fun e he hb=>by
    have:=e3 e he hb
    rw [hpush l hl,if_pos (by have:=hdn i o e1 e he hb;omega)] at this
    exact this
   have hr:i∈Region.ready .any (ops.toList.take m).toArray l:=ready_mem.2 ⟨o,by rw [Yp hm,if_pos him];exact e1,e2',e3'⟩
   have h3:=h2 i hr
   have hgo:o.guard=none:=Jv hg o (List.mem_of_getElem? (i:=i) (by simpa using e1))
   have hstep:∀a w,wpAny P .any (ops.toList.take m).toArray (Exit.then (fun a w=>wpOp P ops Q m (Q .normal) a w) Q) fuel (l.setIfInBounds i true) a w→wpAny P .any ops Q (fuel+1) ((l.push false).setIfInBounds i true) a w:=by
    intro a w h4
    rw [hset l hl i him]
    refine ih _ a w (by simp [hl]) (fun k o' hk1 hk2 hk3 e he hb=> ?_) h4
    have hge:∀q d,(l.setIfInBounds i true).getD q d=if q=i then true else l.getD q d:=by
     intro q d
     by_cases hq:q=i
     ·subst hq
      have:q<l.size:=by omega
      simp [this]
     ·rw [if_neg hq]
      simp [Array.getElem?_setIfInBounds_ne (Ne.symm hq)]
    rw [hge] at hk3 ⊢
    by_cases hki:k=i
    ·subst hki
     rw [e1] at hk1
     cases hk1
     by_cases he2:e.on=k
     ·rw [if_pos he2]
     ·rw [if_neg he2];exact e3' e he hb
    ·rw [if_neg hki] at hk3
     by_cases he2:e.on=i
     ·rw [if_pos he2]
     ·rw [if_neg he2];exact hc k o' hk1 hk2 hk3 e he hb
   unfold wpOp at h3 ⊢
   rw [Yp hm,if_pos him,e1] at h3
   rw [e1]
   simp only at h3 ⊢
   have w1:∀x,Region.wanted o x=true:=fun x=>by simp [Region.wanted,hgo]
   rw [if_pos (w1 _)] at h3 ⊢
   rcases h3 with h3 | h3
   ·exact .inl (Oper.wp_mono hstep (Yc h3))
   ·exact .inr h3
  ·have:i=m:=by omega
   subst this
   have hall:=hlast l hl hc hi
   have hr0:Region.ready .any (ops.toList.take i).toArray l=[]:=by
    refine List.eq_nil_iff_forall_not_mem.2 fun j hj=> ?_
    obtain ⟨o',-,g2,-⟩:=ready_mem.1 hj
    rw [hall j] at g2
    cases g2
   exact hend l hl hall _ a w (h1 hr0)
end
section
variable {P:Program} {S:FuncId→Option SumK} {z:Md}
theorem Qr (hB:Q8 P) (hS:AllOK P S) {ops:Array Oper} {s s':St} (h:xQ P S z ops.toList s=some s') (hsz:s.sz≤60000) (hs:StOK s):
  (Good s'→Good s)∧StOK s'∧s'.sz=s.sz∧s.nb≤s'.nb∧(Good s'→∀(E:Env) (a:Act) (w:World),R E s a w→∀Q:Exit→Act→World→Prop,(∀E' a' w',R E' s' a' w'→Ext w E s w' E' s'→Q .normal a' w')→
   wpAny P .any ops Q ops.size (Array.replicate ops.size false) a { w with drawn:=w.drawn+1 }):=by
 unfold xQ at h
 split at h
 ·rename_i s1 acc hd
  split at h
  ·rename_i hfree hdown
   cases h
   obtain ⟨recs,e1,e2,e3,e4,e5,e6,e7,e8,e9⟩:=xG hd hsz hs
   refine ⟨fun hg=>(e9 hg).1,e8,e7,kM e5,fun hg E a w hr Q hQ=> ?_⟩
   obtain ⟨g1,g2⟩:=e9 hg
   have hrev:jjS acc []=recs:=by rw [YV,e1];simp
   rw [hrev] at hfree
   have hlen:recs.length=ops.size:=by have:=congrArg List.length e2;simpa using this
   have hrem:((List.range recs.length).zip recs).map (·.2)=recs:=by
    rw [List.map_snd_zip];simp
   refine QQ (z:=z) (N:=s.nb) (sz:=s.sz) (M:=s'.nb) hB hS e2 hdown (fun i j x y hij hx hy hc=> ?_) e5 e6 g2 ops.size ((List.range recs.length).zip recs) (Array.replicate ops.size false) s.as E (below s.nb) a { w with drawn:=w.drawn+1 } ?_ ?_ ⟨fun i r=> ?_, ?_⟩ ?_ ?_ ?_ ?_ ?_ ?_
   ·have:=xH hfree rfl j y hy i x (by omega) (by simpa using hx) hc
    simpa using this
   ·simp [hlen]
   ·simp
   ·constructor
    ·intro h
     obtain ⟨k,hk⟩:=List.mem_iff_getElem?.1 h
     rw [List.getElem?_zip_eq_some] at hk
     obtain ⟨k1,k2⟩:=hk
     have hkl:k<recs.length:=(List.getElem?_eq_some_iff.1 k2).1
     rw [List.getElem?_range hkl] at k1
     cases k1
     refine ⟨k2, ?_⟩
     have:i<ops.size:=by omega
     simp [this]
    ·intro h
     obtain ⟨h1,_⟩:=h
     have hkl:i<recs.length:=(List.getElem?_eq_some_iff.1 h1).1
     refine List.mem_iff_getElem?.2 ⟨i, ?_⟩
     rw [List.getElem?_zip_eq_some]
     exact ⟨List.getElem?_range hkl,h1⟩
   ·have hp:(((List.range recs.length).zip recs).map (·.1)).Pairwise (· < ·):=by
     rw [List.map_fst_zip (by simp)]
     exact List.pairwise_lt_range
    exact (List.pairwise_map.1 hp)
   ·intro k o hk hl
    exfalso
    have:k<ops.size:=(Array.getElem?_eq_some_iff.1 hk).1
    simp [this] at hl
   ·rw [hrem];exact e3
   ·exact ⟨hr.size,hr.tm,hr.defers,hr.okT,⟨fun i b hb=>hr.m.rel.blk i b hb,hr.m.rel.inj⟩,hs.okM'⟩
   ·intro i hi
    have:=kM e5
    simp only [below,decide_eq_true_eq] at hi
    omega
   ·intro i hi x hx
    obtain ⟨k,r⟩:=x
    have hr':r∈recs:=(List.of_mem_zip hx).2
    obtain ⟨q,hq⟩:=List.mem_iff_getElem?.1 hr'
    have:=(xw e5 q r hq).1
    simp only [below,decide_eq_true_eq] at hi
    simp only
    omega
   ·intro E' p' a' w' h1 h2 h3
    rw [hrem,e4] at h1 h3
    have hmono:∀i,p' i=true→below s'.nb i=true:=fun i hi=>by simpa [below] using h2 i hi
    refine hQ E' a' w' ⟨h1.size.trans e7.symm,by rw [e7];exact hsz,h1.tm,h1.defers,e8.okT,⟨h1.rel,e8.okM,e8.uq⟩⟩ ?_
    exact ⟨kM e5,h3.agree,h3.os,h3.tape,h3.output,h3.size,h3.frame,h3.src⟩
  ·cases h
 ·cases h
theorem ToP.drawCall (hs:Sound P S) {sz id m:Nat} {ops:Array Oper} {A:Kst} {p:PS2} {dec:List (Option Bool)} {mask:List Bool} {os:List (Bool×Bool)} {es:List Ob} {B:Kst→Prop}
  (hm:Nat.beq ops.size (m+1)=true) (hg:ja0 ops.toList=true) (hd:xv 0 ops.toList=true) (hk:Nat.beq ((kv ops.toList []).getD m 0) (2 ^ m - 1)=true)
  (hrun:∀dead,ql p .normal mask (ju (p.live.map (·.1)) (p.mem.map (·.1)) (qe (xQ P S z (ops.toList.take m) (A.st sz dead dec))))=some (os,es))
  (hos:∀c∈os,c.1=c.2) (hes:AllOb es) (hB:∀s,KstOK (je s p)) (hnb:Nat.ble A.nb p.nb=true)
  (hcall:∀s,ToO P sz ops m 1 (je s p) B):ToP P sz (.region id ops true) A .normal B:=by
 have hm:=Nat.eq_of_beq_eq_true hm
 intro E a w hk1 Q hQ
 refine wp_region_any hs.mix ?_
 have hrep:Array.replicate ops.size false=(Array.replicate m false).push false:=by
  rw [hm];apply Array.ext' ;simp [List.replicate_succ']
 rw [hrep,hm]
 have hmt:(ops.toList.take m).toArray.size=m:=by simp [hm]
 refine jdI hm hg hd hk m _ a _ (by simp) (fun k o hk2 hk3 hk4=> ?_) ?_
 ·exfalso
  simp [hk3] at hk4
 have hr:=hk1.toR dec
 have h:=hrun fun t=>a.tmps.getD t undef
 cases hp:ju (p.live.map (·.1)) (p.mem.map (·.1)) (qe (xQ P S z (ops.toList.take m) (A.st sz (fun t=>a.tmps.getD t undef) dec))) with
 | none=>rw [hp] at h;cases h
 | some q=>
  obtain ⟨e0,vs,bs,cs⟩:=q
  rw [hp] at h
  simp only [ql] at h
  split at h
  ·rename_i he
   split at h
   ·rename_i es1 hv
    split at h
    ·rename_i es2 hb
     split at h
     ·rename_i os' ho
      simp only [Option.some.injEq,Prod.mk.injEq] at h
      obtain ⟨rfl,rfl⟩:=h
      have hcs:=yp ho hos
      unfold ju at hp
      split at hp
      ·rename_i e' s' hex
       simp only [Option.some.injEq,Prod.mk.injEq] at hp
       obtain ⟨rfl,gv,gb,rfl⟩:=hp
       unfold qe at hex
       split at hex
       ·rename_i s1 hdr
        simp only [Option.some.injEq,Prod.mk.injEq] at hex
        obtain ⟨-,rfl⟩:=hex
        obtain ⟨q1,q2,q3,q4,q6⟩:=Qr (ops:=(ops.toList.take m).toArray) (z9 P) hs.sums hdr hk1.le hr.st
        let s:Asg:=⟨fun k o=>iA (qd ((getM s1.mem k).elim [] (·.cells)) o),fun k o=>bA (qd ((getM s1.mem k).elim [] (·.cells)) o),fun k o=>iA (qd (qv (getT s1.tm k)) o),fun k o=>bA (qd (qv (getT s1.tm k)) o)⟩
        have e1:(p.live.map (·.1)).zip vs=Kw s p.live:=y9 (h:=getT s1.tm) hv hes.left gv fun k=>⟨rfl,rfl⟩
        obtain ⟨bs',rfl,e3⟩:=za (s:=s) (h:=getM s1.mem) hb hes.right gb fun k b hb=>⟨by show (fun o=>iA (qd ((getM s1.mem k).elim [] (·.cells)) o))=_;rw [hb];rfl,by show (fun o=>bA (qd ((getM s1.mem k).elim [] (·.cells)) o))=_;rw [hb];rfl⟩
        have hB':KstOK ⟨(p.live.map (·.1)).zip vs,(p.mem.map (·.1)).zip bs',p.nb⟩:=by rw [e1,e3];exact hB s
        have hnb':=Nat.le_of_ble_eq_true hnb
        have q7:=q6 hcs E a w hr
        rw [hmt] at q7
        refine q7 _ fun E' a' w' hr' hx=> ?_
        show wpOp P ops Q m (Q .normal) a' w'
        have hsub:=xJ (p.mem.map (·.1)) bs' (getM s1.mem) gb
        have hKR:KR E' sz (je s p) a' w':=by
         have:je s p=⟨(p.live.map (·.1)).zip vs,(p.mem.map (·.1)).zip bs',p.nb⟩:=by rw [e1,e3];rfl
         rw [this]
         refine ⟨hB',hr'.size.trans q3,hk1.le,hr'.defers,fun q hq=> ?_,⟨fun i b hib=>hr'.m.rel.blk i b (hsub i b hib),fun i j hi hj he=>hr'.m.rel.inj i j ?_ ?_ he⟩⟩
         ·rw [hr'.tm q.1,xK (p.live.map (·.1)) vs (getT s1.tm) gv q hq]
         ·obtain ⟨b,hib⟩:=Option.isSome_iff_exists.1 hi;simp [hsub i b hib]
         ·obtain ⟨b,hjb⟩:=Option.isSome_iff_exists.1 hj;simp [hsub j b hjb]
        have hX:Ext w E A.ms w' E' (je s p).ms:=by
         have:(je s p).ms=(Kst.mk ((p.live.map (·.1)).zip vs) ((p.mem.map (·.1)).zip bs') p.nb).ms:=by rw [e1,e3];rfl
         rw [this]
         refine ⟨hnb',hx.agree,hx.os,hx.tape,hx.output,hx.size,hx.frame,fun i hi=>hx.src i ?_⟩
         obtain ⟨b,hib⟩:=Option.isSome_iff_exists.1 hi
         simp [hsub i b hib]
        have:=hcall s E' a' w' hKR Q [] fun B0 hB0 E'' a'' w'' hr'' hx''=>by
         show Q .normal a'' w''
         exact hQ B0 hB0 E'' a'' w'' hr'' (hX.trans hx'')
        rw [List.append_nil] at this
        have e9:List.range' m 1=[m]:=rfl
        rw [e9,wpOps_cons] at this
        exact this
       ·cases hex
      ·cases hp
     ·cases h
    ·cases h
   ·cases h
  ·cases h
end
section
variable {P:Program} {ops:Array Oper} {m:Nat} {Q:Exit→Act→World→Prop}
def unl:List Bool→Nat
 | []=>0
 | true::l=>unl l
 | false::l=>unl l+1
theorem jfd:∀{l:List Bool} {i:Nat},l[i]? = some false→unl (l.set i true)+1=unl l
 | [],i,h=>by simp at h
 | b::l,0,h=>by
  simp only [List.getElem?_cons_zero,Option.some.injEq] at h
  subst h
  rfl
 | b::l,i+1,h=>by
  have:=jfd (l:=l) (i:=i) (by simpa using h)
  cases b
  ·show unl (l.set i true)+1+1=unl l+1
   omega
  ·exact this
theorem jfe:∀{l:List Bool},(∀b∈l,b=true)→unl l=0
 | [],_=>rfl
 | b::l,h=>by
  have hb:=h b (List.mem_cons_self ..)
  subst hb
  exact jfe (l:=l) fun c hc=>h c (List.mem_cons_of_mem _ hc)
theorem jff:∀n,unl (List.replicate n false)=n
 | 0=>rfl
 | n+1=>by show unl (List.replicate n false)+1=_;rw [jff n]
theorem Qs (hm:m<ops.size) (i:Nat):(ops.toList.take m).toArray[i]? = if i<m then ops[i]? else none:=by
 simp only [List.getElem?_toArray,List.getElem?_take,Array.getElem?_toList]
theorem jdJ (hm:m<ops.size) (hg:ja0 ops.toList=true) (hd:xv 0 ops.toList=true) (hk:Nat.beq ((kv ops.toList []).getD m 0) (2 ^ m - 1)=true)
  (hk2:∀j,m<j→j<ops.size→((kv ops.toList []).getD j 0).testBit m=true) {K:Act→World→Prop}
  (hK:∀L:Array Bool,L.size=ops.size→(∀i,i≤m→L.getD i true=true)→(∀i,m<i→i<ops.size→L.getD i true=false)→∀a w,K a w→wpAny P .any ops Q (ops.size - m - 1) L a w):
  ∀(fuel:Nat) (l L:Array Bool) (a:Act) (w:World),l.size=m→unl l.toList=fuel→L.size=ops.size→(∀i,i<m→L.getD i true=l.getD i true)→(∀i,m≤i→i<ops.size→L.getD i true=false)→
   (∀k o,ops[k]? = some o→k<m→l.getD k true=true→∀e∈o.after.toList,Region.binds .any e=true→l.getD e.on false=true)→
   wpAny P .any (ops.toList.take m).toArray (Exit.then (fun a w=>wpOp P ops Q m K a w) Q) fuel l a w→wpAny P .any ops Q (fuel+(ops.size - m)) L a w:=by
 have hdn:∀k o,ops[k]? = some o→∀e∈o.after.toList,Region.binds .any e=true→e.on<k:=fun k o ho e he hb=>by
  have:=qm hd k o (by simpa using ho) e he hb
  omega
 have hdn':∀k o,(ops.toList.take m).toArray[k]? = some o→∀e∈o.after.toList,Region.binds .any e=true→e.on<k:=fun k o ho=>by
  rw [Qs hm] at ho
  split at ho
  ·exact hdn k o ho
  ·cases ho
 have hready:∀(l L:Array Bool),l.size=m→L.size=ops.size→(∀i,i<m→L.getD i true=l.getD i true)→(∀i,m≤i→i<ops.size→L.getD i true=false)→
   (∀k o,ops[k]? = some o→k<m→l.getD k true=true→∀e∈o.after.toList,Region.binds .any e=true→l.getD e.on false=true)→∀i∈Region.ready .any ops L,i<m∨(i=m∧∀k,k<m→l.getD k true=true):=by
  intro l L hl hL h1 h2 hc i hi
  obtain ⟨o,e1,e2,e3⟩:=ready_mem.1 hi
  have hlt:=(Array.getElem?_eq_some_iff.1 e1).1
  by_cases him:i<m
  ·exact .inl him
  right
  have key:=z8 hd (fun q=>q<ops.size∧L.getD q true=true) (fun q o' hq hl' e he hb=>by
   have hq':ops[q]? = some o':=by simpa using hq
   have hqm:q<m:=by
    by_cases hh:q<m
    ·exact hh
    ·have:=h2 q (by omega) hl'.1
     rw [this] at hl'
     exact absurd hl'.2 (by simp)
   have h5:=hc q o' hq' hqm (by rw [←h1 q hqm];exact hl'.2) e he hb
   have h6:=hdn q o' hq' e he hb
   refine ⟨by omega, ?_⟩
   rw [h1 _ (by omega),←zX (by omega)];exact h5) i o (by simpa using e1) (fun e he hb=>by
   have h5:=e3 e he hb
   have h6:=hdn i o e1 e he hb
   refine ⟨by omega, ?_⟩
   rw [←zX (by omega)];exact h5)
  by_cases hi2:i=m
  ·subst hi2
   refine ⟨rfl,fun k hk'=> ?_⟩
   have:=key k (by rw [Nat.eq_of_beq_eq_true hk,Nat.testBit_two_pow_sub_one];simpa using hk')
   rw [←h1 k hk'];exact this.2
  ·exfalso
   have:=key m (hk2 i (by omega) hlt)
   rw [h2 m (Nat.le_refl _) hm] at this
   exact absurd this.2 (by simp)
 have hnot:∀(L:Array Bool),L.size=ops.size→(∀i,m≤i→i<ops.size→L.getD i true=false)→Region.ready .any ops L≠[]:=by
  intro L hL h2 h
  have:=Ju hL hdn h m
  rw [h2 m (Nat.le_refl _) hm] at this
  cases this
 have hge:∀(l:Array Bool) (i:Nat),i<l.size→∀q d,(l.setIfInBounds i true).getD q d=if q=i then true else l.getD q d:=by
  intro l i hi q d
  by_cases hq:q=i
  ·subst hq
   simp [hi]
  ·rw [if_neg hq]
   simp [Array.getElem?_setIfInBounds_ne (Ne.symm hq)]
 have hend:∀(l L:Array Bool),l.size=m→L.size=ops.size→(∀i,i<m→L.getD i true=l.getD i true)→(∀i,m≤i→i<ops.size→L.getD i true=false)→(∀k,k<m→l.getD k true=true)→∀a w,wpOp P ops Q m K a w→
   wpOp P ops Q m (wpAny P .any ops Q (ops.size - m - 1) (L.setIfInBounds m true)) a w:=by
  intro l L hl hL h1 h2 hall a w h
  refine wpOp_mono (fun a w hq=>hK _ (by simp [hL]) (fun i hi=> ?_) (fun i hi hi2=> ?_) a w hq) h
  ·rw [hge L m (by omega)]
   split
   ·rfl
   ·rw [h1 i (by omega)];exact hall i (by omega)
  ·rw [hge L m (by omega),if_neg (by omega)]
   exact h2 i (by omega) hi2
 have hallT:∀l:Array Bool,l.size=m→(∀k,k<m→l.getD k true=true)→unl l.toList=0:=by
  intro l hl hall
  refine jfe fun b hb=> ?_
  obtain ⟨k,hk1,hk2'⟩:=List.getElem_of_mem hb
  have hkm:k<m:=by simpa [hl] using hk1
  have:=hall k hkm
  have hlt:k<l.size:=by omega
  simp only [Array.getD_eq_getD_getElem?,Array.getElem?_eq_getElem hlt,Option.getD_some] at this
  rw [←hk2'];simpa using this
 intro fuel
 induction fuel with
 | zero=>
  intro l L a w hl hu hL h1 h2 hc h
  obtain ⟨g1,g2⟩:=h
  have hall:=Ju (ops:=(ops.toList.take m).toArray) (l:=l) (by simp [hl];omega) hdn' g1
  rw [show 0+(ops.size - m)=(ops.size - m - 1)+1 by omega]
  refine ⟨fun h3=>absurd h3 (hnot L hL h2),fun i hi=> ?_⟩
  rcases hready l L hl hL h1 h2 hc i hi with him | ⟨rfl,-⟩
  ·exfalso
   obtain ⟨o,e1,e2,-⟩:=ready_mem.1 hi
   rw [h1 i him,hall i] at e2
   cases e2
  ·exact hend l L hl hL h1 h2 (fun k _=>hall k) a w g2
 | succ fuel ih=>
  intro l L a w hl hu hL h1 h2 hc h
  obtain ⟨g1,g2⟩:=h
  rw [show fuel+1+(ops.size - m)=(fuel+(ops.size - m))+1 by omega]
  refine ⟨fun h3=>absurd h3 (hnot L hL h2),fun i hi=> ?_⟩
  rcases hready l L hl hL h1 h2 hc i hi with him | ⟨-,hall⟩
  ·obtain ⟨o,e1,e2,e3⟩:=ready_mem.1 hi
   have e2':l.getD i true=false:=by rw [h1 i him] at e2;exact e2
   have e3':∀e∈o.after.toList,Region.binds .any e=true→l.getD e.on false=true:=fun e he hb=>by
    have h5:=e3 e he hb
    have h6:=hdn i o e1 e he hb
    rw [zX (by omega)] at h5 ⊢
    rw [←h1 _ (by omega)];exact h5
   have hr:i∈Region.ready .any (ops.toList.take m).toArray l:=ready_mem.2 ⟨o,by rw [Qs hm,if_pos him];exact e1,e2',e3'⟩
   have h3:=g2 i hr
   have hgo:o.guard=none:=Jv hg o (List.mem_of_getElem? (i:=i) (by simpa using e1))
   have hstep:∀a w,wpAny P .any (ops.toList.take m).toArray (Exit.then (fun a w=>wpOp P ops Q m K a w) Q) fuel (l.setIfInBounds i true) a w→wpAny P .any ops Q (fuel+(ops.size - m)) (L.setIfInBounds i true) a w:=by
    intro a w h4
    have hli:l.toList[i]? = some false:=by
     have hlt:i<l.size:=by omega
     simp only [Array.getD_eq_getD_getElem?,Array.getElem?_eq_getElem hlt,Option.getD_some] at e2'
     rw [Array.getElem?_toList,Array.getElem?_eq_getElem hlt,e2']
    refine ih _ _ a w (by simp [hl]) (by
     have:=jfd hli
     rw [Array.toList_setIfInBounds];omega) (by simp [hL]) (fun j hj=> ?_) (fun j hj hj2=> ?_) (fun k o' hk1 hk2' hk3 e he hb=> ?_) h4
    ·rw [hge L i (by omega),hge l i (by omega)]
     split
     ·rfl
     ·exact h1 j hj
    ·rw [hge L i (by omega),if_neg (by omega)]
     exact h2 j hj hj2
    ·rw [hge l i (by omega)] at hk3 ⊢
     by_cases hki:k=i
     ·subst hki
      rw [e1] at hk1
      cases hk1
      by_cases he2:e.on=k
      ·rw [if_pos he2]
      ·rw [if_neg he2];exact e3' e he hb
     ·rw [if_neg hki] at hk3
      by_cases he2:e.on=i
      ·rw [if_pos he2]
      ·rw [if_neg he2];exact hc k o' hk1 hk2' hk3 e he hb
   unfold wpOp at h3 ⊢
   rw [Qs hm,if_pos him,e1] at h3
   rw [e1]
   simp only at h3 ⊢
   have w1:∀x,Region.wanted o x=true:=fun x=>by simp [Region.wanted,hgo]
   rw [if_pos (w1 _)] at h3 ⊢
   rcases h3 with h3 | h3
   ·exact .inl (Oper.wp_mono hstep (Yc h3))
   ·exact .inr h3
  ·exfalso
   have:=hallT l hl hall
   omega
end
section
variable {P:Program} {S:FuncId→Option SumK} {z:Md}
def jrZ (nb:Nat) (o:Oper):Rec:=⟨o,none,none,nb,[],jdV⟩
def jhx (nb:Nat):List Oper→List Rec
 | []=>[]
 | o::l=>jrZ nb o::jhx nb l
def jfg (sz:Nat):List Oper→Bool
 | []=>true
 | o::l=>match o.dst with
  | some d=>match Nat.blt d sz with
   | true=>jfg sz l
   | false=>false
  | none=>jfg sz l
def jqG:List Rec→List Rec→List Rec
 | [],m=>m
 | a::l,m=>a::jqG l m
def Yq (P:Program) (S:FuncId→Option SumK) (z:Md) (all:List Oper) (m:Nat) (s:St):Option St:=
 match yr P S z all (all.drop (m+1)) s [] with
 | some (s',acc)=>match QK all (kv all []) 0 [] (jqG (jhx s.nb (all.take (m+1))) (jjS acc [])),jfg s.sz (all.take (m+1)) with
  | true,true=>some s'
  | _,_=>none
 | none=>none
theorem jfh:∀l m:List Rec,jqG l m=l++m
 | [],_=>rfl
 | a::l,m=>by simp [jqG,jfh l m]
theorem jfi (nb:Nat):∀l:List Oper,(jhx nb l).map (·.o)=l
 | []=>rfl
 | o::l=>by simp [jhx,jrZ,jfi nb l]
theorem jhy (nb:Nat) (l:List Oper):(jhx nb l).length=l.length:=by
 have:=congrArg List.length (jfi nb l)
 simpa using this
theorem Qt {nb M:Nat}:∀{l:List Oper} {r:List Rec},JF nb r M→JF nb (jhx nb l++r) M
 | [],r,h=>h
 | o::l,r,h=>⟨Nat.le_refl _,by show JF (nb+0) _ M;exact Qt h⟩
theorem Yr {nb:Nat}:∀{l:List Oper} {r:Rec},r∈jhx nb l→∃o∈l,r=jrZ nb o
 | [],r,h=>by cases h
 | o::l,r,h=>by
  rcases List.mem_cons.1 h with rfl | h
  ·exact ⟨o,List.mem_cons_self ..,rfl⟩
  ·obtain ⟨o',h1,h2⟩:=Yr h;exact ⟨o',List.mem_cons_of_mem _ h1,h2⟩
theorem Qu {sz:Nat}:∀{l:List Oper},jfg sz l=true→∀o∈l,∀d,o.dst=some d→d<sz
 | [],_,o,ho=>by cases ho
 | x::l,h,o,ho=>by
  unfold jfg at h
  intro d hd
  split at h
  ·rename_i d' hd'
   split at h
   ·rename_i h1
    rcases List.mem_cons.1 ho with rfl | ho
    ·rw [hd'] at hd;cases hd;rw [zT] at h1;simpa using h1
    ·exact Qu h o ho d hd
   ·cases h
  ·rename_i hd'
   rcases List.mem_cons.1 ho with rfl | ho
   ·rw [hd'] at hd;cases hd
   ·exact Qu h o ho d hd
theorem ja1 (hB:Q8 P) (hS:AllOK P S) {ops:Array Oper} {m:Nat} {s s':St} (hm:m<ops.size) (hdown:xv 0 ops.toList=true) (h:Yq P S z ops.toList m s=some s') (hsz:s.sz≤60000) (hs:StOK s):
  (Good s'→Good s)∧StOK s'∧s'.sz=s.sz∧s.nb≤s'.nb∧(Good s'→∀(L:Array Bool),L.size=ops.size→(∀i,i≤m→L.getD i true=true)→(∀i,m<i→i<ops.size→L.getD i true=false)→
   ∀(E:Env) (a:Act) (w:World),R E s a w→∀Q:Exit→Act→World→Prop,(∀E' a' w',R E' s' a' w'→Ext w E s w' E' s'→Q .normal a' w')→wpAny P .any ops Q (ops.size - m - 1) L a w):=by
 unfold Yq at h
 split at h
 ·rename_i s1 acc hd
  split at h
  ·rename_i hfree hdst
   cases h
   obtain ⟨recs,e1,e2,e3,e4,e5,e6,e7,e8,e9⟩:=xG hd hsz hs
   refine ⟨fun hg=>(e9 hg).1,e8,e7,kM e5,fun hg L hL h1 h2 E a w hr Q hQ=> ?_⟩
   obtain ⟨g1,g2⟩:=e9 hg
   have hrev:jjS acc []=recs:=by rw [YV,e1];simp
   rw [hrev,jfh] at hfree
   have hlen:recs.length=ops.size - (m+1):=by have:=congrArg List.length e2;simpa using this
   have hdl:(jhx s.nb (ops.toList.take (m+1))).length=m+1:=by rw [jhy];simp;omega
   have hall:(jhx s.nb (ops.toList.take (m+1))++recs).map (·.o)=ops.toList:=by
    rw [List.map_append,jfi,e2,List.take_append_drop]
   have hrem:((List.range' (m+1) recs.length).zip recs).map (·.2)=recs:=by
    rw [List.map_snd_zip];simp
   refine QQ (z:=z) (N:=s.nb) (sz:=s.sz) (M:=s'.nb) hB hS hall hdown (fun i j x y hij hx hy hc=> ?_) (Qt e5) (fun r hr0=> ?_) (fun r hr0=> ?_) (ops.size - m - 1) ((List.range' (m+1) recs.length).zip recs) L s.as E (below s.nb) a w ?_ hL ⟨fun i r=> ?_, ?_⟩ ?_ ?_ ?_ ?_ ?_ ?_
   ·have:=xH hfree rfl j y hy i x (by omega) (by simpa using hx) hc
    simpa using this
   ·rcases List.mem_append.1 hr0 with hr0 | hr0
    ·obtain ⟨o,ho,rfl⟩:=Yr hr0
     exact Qu hdst o ho
    ·exact e6 r hr0
   ·rcases List.mem_append.1 hr0 with hr0 | hr0
    ·obtain ⟨o,ho,rfl⟩:=Yr hr0
     exact ⟨fun c hc=>(by cases hc),fun c hc=>(by cases hc)⟩
    ·exact g2 r hr0
   ·simp [hlen];omega
   ·constructor
    ·intro h
     obtain ⟨k,hk⟩:=List.mem_iff_getElem?.1 h
     rw [List.getElem?_zip_eq_some] at hk
     obtain ⟨k1,k2⟩:=hk
     have hkl:k<recs.length:=(List.getElem?_eq_some_iff.1 k2).1
     rw [List.getElem?_range' hkl] at k1
     simp only [Nat.one_mul,Option.some.injEq] at k1
     subst k1
     refine ⟨?_,h2 _ (by omega) (by omega)⟩
     rw [List.getElem?_append_right (by omega),hdl]
     rw [show m+1+k - (m+1)=k by omega]
     exact k2
    ·intro h
     obtain ⟨k1,k2⟩:=h
     have him:m<i:=by
      by_cases hh:m<i
      ·exact hh
      ·rw [h1 i (by omega)] at k2;cases k2
     rw [List.getElem?_append_right (by omega),hdl] at k1
     refine List.mem_iff_getElem?.2 ⟨i - (m+1), ?_⟩
     rw [List.getElem?_zip_eq_some]
     have hkl:i - (m+1)<recs.length:=(List.getElem?_eq_some_iff.1 k1).1
     refine ⟨?_,k1⟩
     rw [List.getElem?_range' hkl]
     simp only [Nat.one_mul,Option.some.injEq]
     omega
   ·have hp:(((List.range' (m+1) recs.length).zip recs).map (·.1)).Pairwise (· < ·):=by
     rw [List.map_fst_zip (by simp)]
     exact List.pairwise_lt_range'
    exact (List.pairwise_map.1 hp)
   ·intro k o hk hl e he hb
    have hks:k<ops.size:=(Array.getElem?_eq_some_iff.1 hk).1
    have hkm:k≤m:=by
     by_cases hh:k≤m
     ·exact hh
     ·rw [h2 k (by omega) hks] at hl;cases hl
    have h6:=qm hdown k o (by simpa using hk) e he hb
    rw [zX (by omega)]
    exact h1 _ (by omega)
   ·rw [hrem];exact e3
   ·exact ⟨hr.size,hr.tm,hr.defers,hr.okT,⟨fun i b hb=>hr.m.rel.blk i b hb,hr.m.rel.inj⟩,hs.okM'⟩
   ·intro i hi
    have:=kM e5
    simp only [below,decide_eq_true_eq] at hi
    omega
   ·intro i hi x hx
    obtain ⟨k,r⟩:=x
    have hr':r∈recs:=(List.of_mem_zip hx).2
    obtain ⟨q,hq⟩:=List.mem_iff_getElem?.1 hr'
    have:=(xw e5 q r hq).1
    simp only [below,decide_eq_true_eq] at hi
    simp only
    omega
   ·intro E' p' a' w' h1 h2 h3
    rw [hrem,e4] at h1 h3
    refine hQ E' a' w' ⟨h1.size.trans e7.symm,by rw [e7];exact hsz,h1.tm,h1.defers,e8.okT,⟨h1.rel,e8.okM,e8.uq⟩⟩ ?_
    exact ⟨kM e5,h3.agree,h3.os,h3.tape,h3.output,h3.size,h3.frame,h3.src⟩
  ·cases h
 ·cases h
end
section
variable {P:Program} {S:FuncId→Option SumK} {z:Md}
theorem Qv {p:PS2} {e:Ex} {mask:List Bool} {os:List (Bool×Bool)} {es:List Ob} {r:Option (Out×St)}
  (h:ql p e mask (ju (p.live.map (·.1)) (p.mem.map (·.1)) r)=some (os,es)) (hos:∀c∈os,c.1=c.2) (hes:AllOb es) (hB:∀s,KstOK (je s p)):
  ∃s',r=some (.ex e,s')∧Good s'∧∃s:Asg,(∀sz E a w,a.tmps.size=sz→sz≤60000→R E s' a w→KR E sz (je s p) a w)∧
   ∀w E st st2 w' E',st2.nb=st.nb→st2.mem=st.mem→st.nb≤p.nb→Ext w E st w' E' s'→Ext w E st2 w' E' (je s p).ms:=by
 cases hp:ju (p.live.map (·.1)) (p.mem.map (·.1)) r with
 | none=>rw [hp] at h;cases h
 | some q=>
  obtain ⟨e0,vs,bs,cs⟩:=q
  rw [hp] at h
  simp only [ql] at h
  split at h
  ·rename_i he
   split at h
   ·rename_i es1 hv
    split at h
    ·rename_i es2 hb
     split at h
     ·rename_i os' ho
      simp only [Option.some.injEq,Prod.mk.injEq] at h
      obtain ⟨rfl,rfl⟩:=h
      have hcs:=yp ho hos
      have:=jcX he
      subst this
      unfold ju at hp
      split at hp
      ·rename_i e' s'
       simp only [Option.some.injEq,Prod.mk.injEq] at hp
       obtain ⟨rfl,gv,gb,rfl⟩:=hp
       let s:Asg:=⟨fun k o=>iA (qd ((getM s'.mem k).elim [] (·.cells)) o),fun k o=>bA (qd ((getM s'.mem k).elim [] (·.cells)) o),fun k o=>iA (qd (qv (getT s'.tm k)) o),fun k o=>bA (qd (qv (getT s'.tm k)) o)⟩
       have e1:(p.live.map (·.1)).zip vs=Kw s p.live:=y9 (h:=getT s'.tm) hv hes.left gv fun k=>⟨rfl,rfl⟩
       obtain ⟨bs',rfl,e3⟩:=za (s:=s) (h:=getM s'.mem) hb hes.right gb fun k b hb=>⟨by show (fun o=>iA (qd ((getM s'.mem k).elim [] (·.cells)) o))=_;rw [hb];rfl,by show (fun o=>bA (qd ((getM s'.mem k).elim [] (·.cells)) o))=_;rw [hb];rfl⟩
       have hB':KstOK ⟨(p.live.map (·.1)).zip vs,(p.mem.map (·.1)).zip bs',p.nb⟩:=by rw [e1,e3];exact hB s
       have hsub:=xJ (p.mem.map (·.1)) bs' (getM s'.mem) gb
       have e5:je s p=⟨(p.live.map (·.1)).zip vs,(p.mem.map (·.1)).zip bs',p.nb⟩:=by rw [e1,e3];rfl
       refine ⟨s',rfl,hcs,s,fun sz E a w hsz hle hr'=> ?_,fun w E st st2 w' E' hn2 hm2 hnb hx=> ?_⟩
       ·rw [e5]
        refine ⟨hB',hsz,hle,hr'.defers,fun q hq=> ?_,⟨fun i b hib=>hr'.m.rel.blk i b (hsub i b hib),fun i j hi hj he=>hr'.m.rel.inj i j ?_ ?_ he⟩⟩
        ·rw [hr'.tm q.1,xK (p.live.map (·.1)) vs (getT s'.tm) gv q hq]
        ·obtain ⟨b,hib⟩:=Option.isSome_iff_exists.1 hi;simp [hsub i b hib]
        ·obtain ⟨b,hjb⟩:=Option.isSome_iff_exists.1 hj;simp [hsub j b hjb]
       ·have hx2:Ext w E st w' E' (je s p).ms:=by
         rw [e5]
         refine ⟨hnb,hx.agree,hx.os,hx.tape,hx.output,hx.size,hx.frame,fun i hi=>hx.src i ?_⟩
         obtain ⟨b,hib⟩:=Option.isSome_iff_exists.1 hi
         simp [hsub i b hib]
        exact ⟨by rw [hn2];exact hx2.nb,by rw [hn2];exact hx2.agree,hx2.os,hx2.tape,hx2.output,hx2.size,by rw [hm2];exact hx2.frame,by rw [hm2];exact hx2.src⟩
      ·cases hp
     ·cases h
    ·cases h
   ·cases h
  ·cases h
def jhz (m:Nat) (all:List Oper):Nat→Bool
 | 0=>true
 | j+1=>match ((kv all []).getD (m+1+j) 0).testBit m with
  | true=>jhz m all j
  | false=>false
theorem ZD {m:Nat} {all:List Oper}:∀{n:Nat},jhz m all n=true→∀j,m<j→j<m+1+n→((kv all []).getD j 0).testBit m=true
 | 0,_,j,h1,h2=>by omega
 | n+1,h,j,h1,h2=>by
  unfold jhz at h
  split at h
  ·rename_i h3
   by_cases hj:j=m+1+n
   ·subst hj;exact h3
   ·exact ZD h j h1 (by omega)
  ·cases h
end
end Go.Lr

/- A state told otherwise: new blocks by other numbers (raw blocks as they are), slices that were appended to as slices of unknown length. -/
namespace Go.Lr
open Go.RowKit
def jh7 (ρ:Nat→Nat) (R:List Nat):Mem→Mem
 | []=>[]
 | (i,b)::l=>match yH R i with
  | true=>(ρ i,b)::jh7 ρ R l
  | false=>(ρ i,jpC ρ b)::jh7 ρ R l
def Jx (R:List Nat) (m:Mem):Prop:=∀i b,(i,b)∈m→i∈R→okL noP b.cells=true
theorem qt {ρ:Nat→Nat} {R:List Nat}:∀{m:Mem},Jx R m→zG ρ m=jh7 ρ R m
 | [],_=>rfl
 | (i,b)::m,h=>by
  have ih:=qt (ρ:=ρ) (R:=R) (m:=m) fun j c hj=>h j c (List.mem_cons_of_mem _ hj)
  simp only [zG,jh7,ih]
  split
  ·rename_i h1
   have:jpC ρ b=b:=by
    unfold jpC
    rw [jc5 (h i b (List.mem_cons_self ..) (memB_iff.1 h1))]
   rw [this]
  ·rfl
theorem qu {R:List Nat} {m:Mem} (hu:uniq m) (h:∀i∈R,∀b,getM m i=some b→okL noP b.cells=true):Jx R m:=by
 intro i b hm hi
 refine h i hi b ?_
 induction m with
 | nil=>cases hm
 | cons q m ih=>
  obtain ⟨j,c⟩:=q
  rw [jm]
  rcases List.mem_cons.1 hm with e | hm
  ·cases e;rw [if_pos rfl]
  ·have:=ih hu.2 (fun i hi b hb=>h i hi b (by
    rw [jm,if_neg]
    ·exact hb
    ·intro e;subst e;rw [hu.1] at hb;cases hb)) hm
   rw [if_neg]
   ·exact this
   ·intro e;subst e;rw [hu.1] at this;cases this
theorem ToP.ren {P:Program} {sz:Nat} {c:Code} {A:Kst} {e:Ex} {B C:Kst→Prop} (h:ToP P sz c A e B) (l:List (Nat×Nat)) (hl:jjP A.nb l=true)
  (k:∀x,B x→∃nb,A.nb≤nb∧KstOK ⟨qF (swp l) x.live,zG (swp l) x.mem,nb⟩∧C ⟨qF (swp l) x.live,zG (swp l) x.mem,nb⟩):ToP P sz c A e C:=by
 intro E a w hr Q hQ
 refine h E a w hr Q fun B0 hB E' a' w' hr' hx=> ?_
 obtain ⟨nb,h0,h1,h2⟩:=k B0 hB
 refine hQ _ h2 (fun j=>E' (swq l j)) a' w' (hr'.ren l h1) ⟨h0,fun i hi=> ?_,hx.os,hx.tape,hx.output,hx.size,hx.frame,fun i hi=> ?_⟩
 ·show E' (swq l i)=E i
  rw [QJ hl i hi]
  exact hx.agree i hi
 ·have hi':(getM (zG (swp l) B0.mem) i).isSome:=hi
  rw [JB (J6 l) (z6 l),Option.isSome_map] at hi'
  exact hx.src _ hi'
def juZ:At→At
 | .slu b n=> .slv b n
 | a=>a
def jlq:List At→List At
 | []=>[]
 | a::l=>juZ a::jlq l
def jbk (R:List Nat):Mem→Mem
 | []=>[]
 | (i,b)::m=>match yH R i with
  | true=>(i,b)::jbk R m
  | false=>(i,⟨b.ty,b.fr,b.es,jlq b.cells⟩)::jbk R m
theorem jh8 (E:Env) (a:At):(juZ a).den E=a.den E:=by cases a <;> rfl
theorem jcN (E:Env):∀l,(jlq l).map (At.den E)=l.map (At.den E)
 | []=>rfl
 | a::l=>by simp only [jlq,List.map_cons,jh8,jcN E l]
theorem jcO:∀l,(jlq l).length=l.length
 | []=>rfl
 | a::l=>by simp only [jlq,List.length_cons,jcO l]
theorem KT (R:List Nat):∀(m:Mem) (i:Nat),getM (jbk R m) i=(getM m i).map fun b=>match yH R i with
  | true=>b
  | false=>⟨b.ty,b.fr,b.es,jlq b.cells⟩
 | [],i=>rfl
 | (j,b)::m,i=>by
  unfold jbk
  split
  ·rename_i h
   rw [jm,jm]
   split
   ·rename_i e;subst e;simp only [Option.map_some,h]
   ·exact KT R m i
  ·rename_i h
   rw [jm,jm]
   split
   ·rename_i e;subst e;simp only [Option.map_some,h]
   ·exact KT R m i
theorem ToP.slv {P:Program} {sz:Nat} {c:Code} {A:Kst} {e:Ex} {B C:Kst→Prop} (h:ToP P sz c A e B) (R:List Nat) (k:∀x,B x→KstOK ⟨x.live,jbk R x.mem,x.nb⟩∧C ⟨x.live,jbk R x.mem,x.nb⟩):ToP P sz c A e C:=by
 intro E a w hr Q hQ
 refine h E a w hr Q fun x hB E' a' w' hr' hx=> ?_
 obtain ⟨h1,h2⟩:=k x hB
 have hs:∀i,(getM (jbk R x.mem) i).isSome=(getM x.mem i).isSome:=fun i=>by rw [KT];simp
 refine hQ _ h2 E' a' w' ⟨h1,hr'.size,hr'.le,hr'.defers,hr'.tm,⟨fun i b hb=> ?_,fun i j hi hj he=>hr'.rel.inj i j ?_ ?_ he⟩⟩ (hx.of_some rfl rfl (fun i hi=>hi) fun i hi=> ?_)
 ·have hb:getM (jbk R x.mem) i=some b:=hb
  rw [KT] at hb
  obtain ⟨b0,h0,e0⟩:=Option.map_eq_some_iff.1 hb
  have hb0:=hr'.rel.blk i b0 h0
  split at e0
  ·rw [←e0];exact hb0
  ·subst e0
   unfold blkAt at hb0 ⊢
   simp only [jcN,jcO]
   exact hb0
 ·have hi:(getM (jbk R x.mem) i).isSome:=hi
  rw [hs] at hi;exact hi
 ·have hj:(getM (jbk R x.mem) j).isSome:=hj
  rw [hs] at hj;exact hj
 ·have hi:(getM (jbk R x.mem) i).isSome:=hi
  rw [hs] at hi;exact hi
def jfK (b n:Nat):At→At
 | .sl b' o l c=>match Nat.beq b' b,Nat.beq o 0,Nat.beq l n,Nat.beq c n with
  | true,true,true,true=> .slv b n
  | _,_,_,_=> .sl b' o l c
 | a=>a
def jdR (b:Nat):At→Bool
 | .slu b' _=> !(Nat.beq b' b)
 | .slv b' _=> !(Nat.beq b' b)
 | .slt b' _ _=> !(Nat.beq b' b)
 | _=>true
def jhc (b n:Nat):List At→List At
 | []=>[]
 | a::l=>jfK b n a::jhc b n l
def XM (b:Nat):List At→Bool
 | []=>true
 | a::l=>match jdR b a with
  | true=>XM b l
  | false=>false
def jpb (b n:Nat):LV→LV
 | .v (.one a)=> .v (.one (jfK b n a))
 | .v (.agg l)=> .v (.agg (jhc b n l))
 | .tup l=> .tup l
def jfL (b:Nat):LV→Bool
 | .v (.one a)=>jdR b a
 | .v (.agg l)=>XM b l
 | .tup _=>false
def jfM (b n:Nat):List (Nat×LV)→List (Nat×LV)
 | []=>[]
 | (i,v)::l=>(i,jpb b n v)::jfM b n l
def YA (b:Nat):List (Nat×LV)→Bool
 | []=>true
 | (_,v)::l=>match jfL b v with
  | true=>YA b l
  | false=>false
def jjG (b n s:Nat) (R:List Nat):Mem→Mem
 | []=>[]
 | (i,k)::m=>(i,match yH R i with
   | true=>k
   | false=>⟨k.ty,k.fr,(match Nat.beq i b with | true=>s | false=>k.es),jhc b n k.cells⟩)::jjG b n s R m
def jcP (b:Nat) (R:List Nat):Mem→Bool
 | []=>true
 | (i,k)::m=>match (match yH R i with | true=>true | false=>XM b k.cells) with
  | true=>jcP b R m
  | false=>false
section
variable {b n s:Nat} {E:Env}
def XN (b n:Nat) (E:Env):Env:=fun j=>if j=b then ⟨(E b).blk,n,(E b).pre,(E b).suf,(E b).ty⟩ else E j
theorem xr (j:Nat):(XN b n E j).1=(E j).1:=by unfold XN;split <;> simp_all
theorem qc (j:Nat):(XN b n E j).pre=(E j).pre:=by unfold XN;split <;> simp_all
theorem YB (j:Nat):(XN b n E j).suf=(E j).suf:=by unfold XN;split <;> simp_all
theorem jbl (j:Nat):(XN b n E j).ty=(E j).ty:=by unfold XN;split <;> simp_all
theorem Jy {j:Nat} (h:j≠b):(XN b n E j).2=(E j).2:=by unfold XN;rw [if_neg h]
theorem jcQ {a:At} (h:jdR b a=true):(jfK b n a).den (XN b n E)=a.den E:=by
 cases a with
 | slu b' k=>simp only [jdR,Bool.not_eq_true',kX,decide_eq_false_iff_not] at h;simp only [jfK,At.den,xr,qc,Jy h]
 | slv b' k=>simp only [jdR,Bool.not_eq_true',kX,decide_eq_false_iff_not] at h;simp only [jfK,At.den,xr,qc,Jy h]
 | slt b' o k=>simp only [jdR,Bool.not_eq_true',kX,decide_eq_false_iff_not] at h;simp only [jfK,At.den,xr,qc,Jy h]
 | sl b' o l c=>
  simp only [jfK]
  split
  ·rename_i h1 h2 h3 h4
   rw [kX] at h1 h2 h3 h4
   simp only [decide_eq_true_eq] at h1 h2 h3 h4
   subst h1;subst h2;subst h3;subst h4
   have e:(XN b' c E b').2=c:=by unfold XN;rw [if_pos rfl]
   simp only [At.den,xr,qc,e,Nat.zero_add]
  ·simp only [At.den,xr,qc]
 | fn f caps=>simp only [jfK,At.den,xr,qc]
 | ptr b' o=>simp only [jfK,At.den,xr,qc]
 | slx b' o l c=>simp only [jfK,At.den,xr,qc]
 | ptx b' o=>simp only [jfK,At.den,xr,qc]
 | _=>rfl
theorem KU:∀{l:List At},XM b l=true→(jhc b n l).map (At.den (XN b n E))=l.map (At.den E)
 | [],_=>rfl
 | a::l,h=>by
  unfold XM at h
  split at h
  ·rename_i h1
   simp only [jhc,List.map_cons,jcQ h1,KU h]
  ·cases h
theorem YC:∀l,(jhc b n l).length=l.length
 | []=>rfl
 | a::l=>by simp only [jhc,List.length_cons,YC l]
theorem jh9 {v:LV} (h:jfL b v=true):(jpb b n v).den (XN b n E)=v.den E:=by
 cases v with
 | v x=>
  cases x with
  | one a=>simp only [jpb,LV.den,V1.den,jcQ h]
  | agg l=>simp only [jpb,LV.den,V1.den,KU h]
 | tup l=>cases h
theorem ZO:∀{l:List (Nat×LV)},YA b l=true→∀q∈jfM b n l,∃v,(q.1,v)∈l∧q.2=jpb b n v∧jfL b v=true
 | [],_,q,hq=>by cases hq
 | (i,v)::l,h,q,hq=>by
  unfold YA at h
  split at h
  ·rename_i h1
   rcases List.mem_cons.1 hq with rfl | hq
   ·exact ⟨v,List.mem_cons_self ..,rfl,h1⟩
   ·obtain ⟨u,h2,h3⟩:=ZO h q hq
    exact ⟨u,List.mem_cons_of_mem _ h2,h3⟩
  ·cases h
theorem YD {R:List Nat}:∀{m:Mem},jcP b R m=true→∀i k',getM (jjG b n s R m) i=some k'→∃k,getM m i=some k∧((i∈R∧k'=k)∨(XM b k.cells=true∧k'=⟨k.ty,k.fr,(match Nat.beq i b with | true=>s | false=>k.es),jhc b n k.cells⟩))
 | [],_,i,k',h=>by simp [jjG,getM] at h
 | (j,k)::m,h,i,k',hk=>by
  unfold jcP at h
  split at h
  ·rename_i h1
   simp only [jjG] at hk
   rw [jm] at hk
   by_cases e:i=j
   ·rw [if_pos e] at hk
    subst e
    cases hk
    refine ⟨k,by rw [jm,if_pos rfl], ?_⟩
    split at h1
    ·rename_i h2;exact .inl ⟨memB_iff.1 h2,rfl⟩
    ·rename_i h2;exact .inr ⟨h1,rfl⟩
   ·rw [if_neg e] at hk
    obtain ⟨k0,h2,h3⟩:=YD h i k' hk
    exact ⟨k0,by rw [jm,if_neg e];exact h2,h3⟩
  ·cases h
end
theorem ZP:∀{m:Mem} {i:Nat} {b:Blk},getM m i=some b→(i,b)∈m
 | [],_,_,h=>by simp [getM] at h
 | (j,c)::m,i,b,h=>by
  rw [jm] at h
  split at h
  ·rename_i e;subst e;cases h;exact List.mem_cons_self ..
  ·exact List.mem_cons_of_mem _ (ZP h)
theorem jlr {E E':Env} {l:List At} (h:okL noP l=true):l.map (At.den E)=l.map (At.den E'):=jX (p:=noP) (fun i hi=>by cases hi) h
theorem ToP.cap {P:Program} {sz:Nat} {c:Code} {A:Kst} {e:Ex} {B C:Kst→Prop} (h:ToP P sz c A e B) (b n s:Nat) (R:List Nat) (hb:A.nb≤b) (hR:b ∉ R)
  (k:∀x,B x→YA b x.live=true∧jcP b R x.mem=true∧Jx R x.mem∧(∃ty l,getM x.mem b=some ⟨ty,(0,0),0,l⟩∧l.length=n*s)∧KstOK ⟨jfM b n x.live,jjG b n s R x.mem,x.nb⟩∧C ⟨jfM b n x.live,jjG b n s R x.mem,x.nb⟩):ToP P sz c A e C:=by
 intro E a w hr Q hQ
 refine h E a w hr Q fun x hB E' a' w' hr' hx=> ?_
 obtain ⟨k1,k2,k3,⟨ty,l,k4,k5⟩,k6,k7⟩:=k x hB
 have hsome:∀i,(getM (jjG b n s R x.mem) i).isSome→(getM x.mem i).isSome:=fun i hi=>by
  obtain ⟨k',hk'⟩:=Option.isSome_iff_exists.1 hi
  obtain ⟨k0,h0,-⟩:=YD k2 i k' hk'
  rw [h0];rfl
 refine hQ _ k7 (XN b n E') a' w' ⟨k6,hr'.size,hr'.le,hr'.defers,fun q hq=> ?_,⟨fun i k' hk'=> ?_,fun i j hi hj he=> ?_⟩⟩ ⟨hx.nb,fun i hi=> ?_,hx.os,hx.tape,hx.output,hx.size,hx.frame,fun i hi=> ?_⟩
 ·obtain ⟨v,h1,h2,h3⟩:=ZO k1 q hq
  rw [h2,jh9 h3]
  exact hr'.tm _ h1
 ·obtain ⟨k0,h0,h1⟩:=YD k2 i k' hk'
  obtain ⟨r,u1,u2,u3⟩:=hr'.rel.blk i k0 h0
  rcases h1 with ⟨hi,rfl⟩ | ⟨h1,rfl⟩
  ·have hib:i≠b:=fun e=>hR (e ▸ hi)
   refine ⟨r, ?_,u2,fun hz=>by rw [Jy hib];exact u3 hz⟩
   rw [xr,qc,YB,jbl,u1,jlr (k3 i k' (ZP h0) hi)]
  ·by_cases hib:i=b
   ·subst hib
    rw [k4] at h0
    cases h0
    have hr0:=u2 rfl
    subst hr0
    refine ⟨[], ?_,fun _=>rfl,fun hz=> ?_⟩
    ·rw [xr,qc,YB,jbl,u1]
     simp only [KU h1]
    ·show (jhc i n l).length+0=(XN i n E' i).2*_
     have e:(XN i n E' i).2=n:=by unfold XN;rw [if_pos rfl]
     have e2:Nat.beq i i=true:=by rw [kX];simp
     rw [YC,e,k5]
     simp only [e2]
     omega
   ·have e2:Nat.beq i b=false:=by rw [kX];simpa using hib
    simp only [e2]
    refine ⟨r, ?_,u2,fun hz=> ?_⟩
    ·rw [xr,qc,YB,jbl,u1]
     simp only [KU h1]
    ·rw [Jy hib]
     show (jhc b n k0.cells).length+r.length=_
     rw [YC];exact u3 hz
 ·rw [xr,xr] at he
  exact hr'.rel.inj i j (hsome i hi) (hsome j hj) he
 ·have hi2:i<A.nb:=hi
  unfold XN
  rw [if_neg (by omega)]
  exact hx.agree i hi
 ·rw [xr]
  exact hx.src i (hsome i hi)
theorem ToO.weak {P:Program} {sz:Nat} {ops:Array Oper} {k m:Nat} {A:Kst} {B C:Kst→Prop} (h:ToO P sz ops k m A B) (g:∀y,B y→∃x l,C x∧KstOK x∧y.live=l++x.live∧(∀i b,getM x.mem i=some b→getM y.mem i=some b)∧y.nb=x.nb):ToO P sz ops k m A C:=by
 intro E a w hk Q rest hQ
 refine h E a w hk Q rest fun y hy E' a' w' hr hx=> ?_
 obtain ⟨x,l,hc,hok,h1,hm,h3⟩:=g y hy
 have hs:∀i,(getM x.mem i).isSome→(getM y.mem i).isSome:=fun i hi=>by
  obtain ⟨b,hb⟩:=Option.isSome_iff_exists.1 hi
  rw [hm i b hb];rfl
 refine hQ x hc E' a' w' ⟨hok,hr.size,hr.le,hr.defers,fun q hq=>hr.tm q (by rw [h1];exact List.mem_append_right l hq),⟨fun i b hb=>hr.rel.blk i b (hm i b hb),fun i j hi hj=>hr.rel.inj i j (hs i hi) (hs j hj)⟩⟩ (hx.of_some rfl h3.symm (fun i hi=>hi) hs)
theorem QC {a b c:Mem} (hd:∀i,(getM b i).isSome→getM c i=none) (i:Nat):getM (a++(b++c)) i=getM ((a++c)++b) i:=by
 rw [jZ,jZ,jZ,jZ]
 cases h:getM a i with
 | some x=>rfl
 | none=>
  simp only
  cases hb:getM b i with
  | some y=>
   have:=hd i (by rw [hb];rfl)
   rw [this]
  | none=>
   cases hc:getM c i <;> rfl
def jjH:Code→Bool
 | .region _ _ true=>true
 | _=>false
theorem ToP.draw {P:Program} {sz:Nat} {c:Code} {A:Kst} {e:Ex} {B:Kst→Prop} (hc:jjH c=true) (h:∀id,ToP P sz (.region id (xL c) true) A e B):ToP P sz c A e B:=by
 unfold jjH at hc
 split at hc
 ·rename_i id o
  exact h id
 ·cases hc
end Go.Lr

/- A call in the middle of a drawn region, with more than one end; a walk beside blocks that it does not touch. -/
namespace Go.Lr
open Go.RowKit
section
variable {P:Program} {S:FuncId→Option SumK} {z:Md}
theorem ToP.drawCall3 (hs:Sound P S) {sz id m:Nat} {ops:Array Oper} {A:Kst} {p:PS2} {B C:Kst→Prop} {dec:List (Option Bool)} {mask:List Bool} {os:List (Bool×Bool)} {es:List Ob}
  (hm:Nat.blt m ops.size=true) (hg:ja0 ops.toList=true) (hd:xv 0 ops.toList=true) (hk:Nat.beq ((kv ops.toList []).getD m 0) (2 ^ m - 1)=true) (hk2:jhz m ops.toList (ops.size - (m+1))=true)
  (hrun:∀dead,ql p .normal mask (ju (p.live.map (·.1)) (p.mem.map (·.1)) (qe (xQ P S z (ops.toList.take m) (A.st sz dead dec))))=some (os,es))
  (hos:∀c∈os,c.1=c.2) (hes:AllOb es) (hB:∀s,KstOK (je s p)) (hnb:Nat.ble A.nb p.nb=true)
  (hcall:∀s,ToO P sz ops m 1 (je s p) C)
  (hrun2:∀x,C x→∃(p2:PS2) (dec2:List (Option Bool)) (mask2:List Bool) (os2:List (Bool×Bool)) (es2:List Ob),(∀dead,ql p2 .normal mask2 (ju (p2.live.map (·.1)) (p2.mem.map (·.1)) (qe (Yq P S z ops.toList m (x.st sz dead dec2))))=some (os2,es2))∧
   (∀c∈os2,c.1=c.2)∧AllOb es2∧(∀s,KstOK (je s p2))∧x.nb≤p2.nb∧∀y,jA p2 y→B y):ToP P sz (.region id ops true) A .normal B:=by
 have hm:m<ops.size:=by rw [zT] at hm;simpa using hm
 intro E a w hk1 Q hQ
 refine wp_region_any hs.mix ?_
 have hmt:(ops.toList.take m).toArray.size=m:=by simp;omega
 have efu:m+(ops.size - m)=ops.size:=by omega
 have main:wpAny P .any ops Q (m+(ops.size - m)) (Array.replicate ops.size false) a { w with drawn:=w.drawn+1 }:= ?_
 ·rw [efu] at main;exact main
 refine jdJ (K:=fun a' w'=>∃x E',C x∧KR E' sz x a' w'∧Ext w E A.ms w' E' x.ms) hm hg hd hk (fun j h1 h2=>ZD hk2 j h1 (by omega)) ?_ m (Array.replicate m false) _ a _ (by simp) (by simp [jff]) (by simp) ?_ ?_ ?_ ?_
 ·rintro L hL h1 h2 a' w' ⟨x,E',hx,hKR,hX⟩
  obtain ⟨p2,dec2,mask2,os2,es2,u1,u2,u3,u4,u5,u6⟩:=hrun2 x hx
  have hr:=hKR.toR dec2
  obtain ⟨s',hr2,hgood,s,f1,f2⟩:=Qv (u1 fun t=>a'.tmps.getD t undef) u2 u3 u4
  unfold qe at hr2
  split at hr2
  ·rename_i s1 hds
   simp only [Option.some.injEq,Prod.mk.injEq] at hr2
   obtain ⟨-,rfl⟩:=hr2
   obtain ⟨q1,q2,q3,q4,q5⟩:=ja1 (z9 P) hs.sums hm hd hds hKR.le hr.st
   refine q5 hgood L hL h1 h2 E' a' w' hr Q fun E'' a'' w'' hr' hx'=> ?_
   refine hQ (je s p2) (u6 _ ⟨s,rfl⟩) E'' a'' w'' (f1 sz E'' a'' w'' (hr'.size.trans q3) hk1.le hr') (hX.trans (f2 _ _ (x.st sz (fun t=>a'.tmps.getD t undef) dec2) x.ms _ _ rfl rfl u5 hx'))
  ·cases hr2
 ·intro i hi
  have e1:(Array.replicate ops.size false).getD i true=false:=by simp [show i<ops.size by omega]
  have e2:(Array.replicate m false).getD i true=false:=by simp [hi]
  rw [e1,e2]
 ·intro i hi hi2
  simp [hi2]
 ·intro k o h1 h2 h3
  exfalso
  simp [h2] at h3
 ·have hr:=hk1.toR dec
  obtain ⟨s',hr2,hgood,s,f1,f2⟩:=Qv (hrun fun t=>a.tmps.getD t undef) hos hes hB
  unfold qe at hr2
  split at hr2
  ·rename_i s1 hds
   simp only [Option.some.injEq,Prod.mk.injEq] at hr2
   obtain ⟨-,rfl⟩:=hr2
   obtain ⟨q1,q2,q3,q4,q6⟩:=Qr (ops:=(ops.toList.take m).toArray) (z9 P) hs.sums hds hk1.le hr.st
   have q7:=q6 hgood E a w hr
   rw [hmt] at q7
   refine q7 _ fun E' a' w' hr' hx=> ?_
   have hKR:=f1 sz E' a' w' (hr'.size.trans q3) hk1.le hr'
   have hX:=f2 _ _ (A.st sz (fun t=>a.tmps.getD t undef) dec) A.ms _ _ rfl rfl (Nat.le_of_ble_eq_true hnb) hx
   show wpOp P ops Q m (fun a' w'=>∃x E',C x∧KR E' sz x a' w'∧Ext w E A.ms w' E' x.ms) a' w'
   have:=hcall s E' a' w' hKR (Exit.then (fun a' w'=>∃x E',C x∧KR E' sz x a' w'∧Ext w E A.ms w' E' x.ms) Q) [] fun B0 hB0 E'' a'' w'' hr'' hx''=>by
    show ∃x E',C x∧KR E' sz x a'' w''∧Ext w E A.ms w'' E' x.ms
    exact ⟨B0,E'',hB0,hr'',hX.trans hx''⟩
   rw [List.append_nil] at this
   have e9:List.range' m 1=[m]:=rfl
   rw [e9,wpOps_cons] at this
   have hmm:∃o,ops[m]? = some o:=⟨ops[m],Array.getElem?_eq_getElem hm⟩
   obtain ⟨o,ho⟩:=hmm
   have hgo:o.guard=none:=Jv hg o (List.mem_of_getElem? (i:=m) (by simpa using ho))
   have w1:∀x,Region.wanted o x=true:=fun x=>by simp [Region.wanted,hgo]
   unfold wpOp at this ⊢
   rw [ho] at this ⊢
   simp only at this ⊢
   rw [if_pos (w1 _)] at this ⊢
   rcases this with h3 | h3
   ·exact .inl (Oper.wp_mono (fun a w h=>h) (Yc h3))
   ·exact .inr h3
  ·cases hr2
end
theorem jc6:∀{m m2:Mem},uniq (m++m2)→uniq m∧uniq m2∧∀i,(getM m2 i).isSome→getM m i=none
 | [],m2,h=>⟨trivial,h,fun i _=>rfl⟩
 | (j,b)::m,m2,h=>by
  obtain ⟨h1,h2⟩:=h
  have h1:getM (m++m2) j=none:=h1
  rw [jZ] at h1
  obtain ⟨k1,k2,k3⟩:=jc6 h2
  cases h3:getM m j with
  | some x=>rw [h3] at h1;cases h1
  | none=>
   rw [h3] at h1
   refine ⟨⟨h3,k1⟩,k2,fun i hi=> ?_⟩
   rw [jm,if_neg]
   ·exact k3 i hi
   ·intro e;subst e;rw [show getM m2 i=none from h1] at hi;cases hi
theorem jc7:∀{m m2:Mem},uniq m→uniq m2→(∀i,(getM m2 i).isSome→getM m i=none)→uniq (m++m2)
 | [],m2,_,h,_=>h
 | (j,b)::m,m2,h1,h2,h3=>by
  refine ⟨?_,jc7 h1.2 h2 fun i hi=> ?_⟩
  ·show getM (m++m2) j=none
   rw [jZ,h1.1]
   cases h4:getM m2 j with
   | none=>rfl
   | some x=>
    have:=h3 j (by rw [h4];rfl)
    rw [jm,if_pos rfl] at this
    cases this
  ·have:=h3 i hi
   rw [jm] at this
   split at this
   ·cases this
   ·exact this
theorem KstOK.beside {x:Kst} {m2:Mem} {live:List (Nat×LV)} (h:KstOK ⟨live,x.mem,x.nb⟩) (h2:∀i b,getM m2 i=some b→i<x.nb∧okL (below x.nb) b.cells=true) (hu:uniq m2) (hd:∀i,(getM m2 i).isSome→getM x.mem i=none):KstOK ⟨live,x.mem++m2,x.nb⟩:=by
 refine ⟨h.lt,h.nd,h.okT,fun i b hb=> ?_,jc7 h.uq hu hd⟩
 have hb:getM (x.mem++m2) i=some b:=hb
 rw [jZ] at hb
 cases h4:getM x.mem i with
 | some y=>rw [h4] at hb;cases hb;exact h.okM i _ h4
 | none=>rw [h4] at hb;exact h2 i b hb
theorem ToP.beside {P:Program} {sz:Nat} {c:Code} {live:List (Nat×LV)} {m m2:Mem} {nb:Nat} {e:Ex} {B:Kst→Prop} (h:ToP P sz c ⟨live,m,nb⟩ e B)
  (hB:∀x,B x→KstOK x∧x.nb=nb∧∀i,(getM x.mem i).isSome→(getM m i).isSome):ToP P sz c ⟨live,m++m2,nb⟩ e (fun y=>∃x,B x∧y=⟨x.live,x.mem++m2,x.nb⟩):=by
 intro E a w hk Q hQ
 have ho:=hk.ok
 obtain ⟨u1,u2,u3⟩:=jc6 ho.uq
 have h2:∀i b,getM m2 i=some b→i<nb∧okL (below nb) b.cells=true:=fun i b hb=>ho.okM i b (by
  show getM (m++m2) i=some b
  rw [jZ,u3 i (by rw [hb];rfl)]
  exact hb)
 refine ToP.frame h ⟨ho.lt,ho.nd,ho.okT,fun i b hb=>ho.okM i b (by
  show getM (m++m2) i=some b
  rw [jZ,hb]),u1⟩ u3 (fun x hx i hi=> ?_) (fun x hx=> ?_) E a w hk Q hQ
 ·obtain ⟨h3,h4,h5⟩:=hB x hx
  cases h6:getM x.mem i with
  | none=>rfl
  | some y=>
   have:=h5 i (by rw [h6];rfl)
   rw [u3 i hi] at this
   cases this
 ·obtain ⟨h3,h4,h5⟩:=hB x hx
  refine KstOK.beside h3 (by rw [h4];exact h2) u2 fun i hi=> ?_
  cases h6:getM x.mem i with
  | none=>rfl
  | some y=>
   have:=h5 i (by rw [h6];rfl)
   rw [u3 i hi] at this
   cases this
end Go.Lr

/- The local evaluator: what is not in the log of what was written lies as it lay. -/
namespace Go.Lr
structure Kept (s s':St):Prop where
 lg:∀i∈s.lg,i∈s'.lg
 nb:s.nb≤s'.nb
 mem:∀i,i<s.nb→i ∉ s'.lg→getM s'.mem i=getM s.mem i
theorem Kept.refl (s:St):Kept s s:=⟨fun _ h=>h,Nat.le_refl _,fun _ _ _=>rfl⟩
theorem Kept.trans {a b c:St} (h:Kept a b) (k:Kept b c):Kept a c:=
 ⟨fun i hi=>k.lg i (h.lg i hi),Nat.le_trans h.nb k.nb,fun i hi hn=>by rw [k.mem i (Nat.lt_of_lt_of_le hi h.nb) hn,h.mem i hi fun hh=>hn (k.lg i hh)]⟩
theorem Kept.of {a b a' b':St} (h:Kept a b) (h1:a'.lg=a.lg) (h2:a'.nb=a.nb) (h3:a'.mem=a.mem) (h4:b'.lg=b.lg) (h5:b'.nb=b.nb) (h6:b'.mem=b.mem):Kept a' b':=
 ⟨by rw [h1,h4];exact h.lg,by rw [h2,h5];exact h.nb,by rw [h2,h3,h4,h6];exact h.mem⟩
theorem Kt:∀(m:Mem) (i:Nat) (s:Option Blk) (j:Nat),j≠i→getM (jdx m i s) j=getM m j
 | [],i,s,j,h=>rfl
 | (k,b)::m,i,s,j,h=>by
  simp only [jdx,kX]
  by_cases hk:k=i
  ·subst hk
   simp only [decide_true]
   cases s with
   | none=>
    simp only
    rw [jm,if_neg h]
   | some c=>
    simp only
    rw [jm,jm,if_neg h,if_neg h]
  ·simp only [hk,decide_false]
   rw [jm,jm,Kt m i s j h]
theorem zQ:∀(l:List (Nat×Option Blk)) (m:Mem) (j:Nat),(∀x∈l,x.1≠j)→getM (qW m l) j=getM m j
 | [],m,j,_=>rfl
 | (i,s)::l,m,j,h=>by
  simp only [qW]
  rw [zQ l _ j fun x hx=>h x (List.mem_cons_of_mem _ hx),Kt m i s j (h (i,s) (List.mem_cons_self ..)).symm]
theorem zR:∀(l:List Blk) (m:Mem) (nb j:Nat),j<nb→getM (qX m nb l) j=getM m j
 | [],m,nb,j,_=>rfl
 | b::l,m,nb,j,h=>by
  simp only [qX]
  rw [zR l _ (nb+1) j (by omega),jm,if_neg (by omega)]
theorem XI {β:Type} {s:St} {dst:Option Tmp} {v:LV} {k:Tr→Option β} {r:β} (h:jdU s dst v k=some r):∃tm,k tm=some r:=by
 unfold jdU at h
 split at h
 ·split at h
  ·rw [JC] at h;exact ⟨_,h⟩
  ·cases h
 ·exact ⟨_,h⟩
theorem QA {β:Type} {z:Md} {s:St} {dst:Option Tmp} {d:Dl} {dec:List (Option Bool)} {cs:List (Bool×Bool)} {k:St→Option β} {r:β} (h:jio z s dst d dec cs k=some r):∃s1,k s1=some r∧Kept s s1:=by
 unfold jio at h
 rw [JD,JE] at h
 obtain ⟨tm,h1⟩:=XI h
 rw [Kh,Ki] at h1
 obtain ⟨lg',hlg,g1,g2⟩:=Y5 s.lg d.wr (fun lg=>csK z.z d.cs s.cs fun c1=>csK z.z cs c1 fun c2=>k ⟨tm,s.sz,qX (qW s.mem d.wr) s.nb d.nw,s.nb+d.nw.length,dec,c2,lg⟩)
 rw [hlg] at h1
 obtain ⟨c1,h3,-⟩:=kS h1
 obtain ⟨c2,h5,-⟩:=kS h3
 refine ⟨_,h5,⟨g1,Nat.le_add_right _ _,fun i hi hn=> ?_⟩⟩
 show getM (qX (qW s.mem d.wr) s.nb d.nw) i=_
 rw [zR _ _ _ _ hi,zQ]
 exact fun x hx e=>hn (e ▸ g2 x hx)
theorem Ku {P:Program} {S:FuncId→Option SumK} {z:Md} {all:List Oper}:∀(l:List Oper) (s:St) (acc:List Rec) (s':St) (acc':List Rec),yr P S z all l s acc=some (s',acc')→Kept s s'
 | [],s,acc,s',acc',h=>by simp only [yr,Option.some.injEq,Prod.mk.injEq] at h;rw [←h.1];exact .refl _
 | o::l,s,acc,s',acc',h=>by
  simp only [yr] at h
  split at h
  ·obtain ⟨s1,h1,h2⟩:=QA h
   exact h2.trans (Ku l s1 _ s' acc' h1)
  ·cases h
theorem jdQ {β:Type} {y:Bool} {nb:Nat} {v:LV} {m:Mem} {k:Mem→β} {r:β} (h:jf4 y nb v m k=r):∃m',k m'=r∧∀i,i<nb→getM m' i=getM m i:=by
 unfold jf4 at h
 split at h
 ·exact ⟨m,h,fun _ _=>rfl⟩
 ·split at h
  ·rw [QL] at h
   exact ⟨_,h,fun i hi=>by rw [xZ,if_pos hi]⟩
  ·exact ⟨m,h,fun _ _=>rfl⟩
theorem ZJ {P:Program} {S:FuncId→Option SumK} {z:Md}:∀(n:Nat) (c:Cmd) (s:St) (out:Out) (s':St),exec P S z n c s=some (out,s')→Kept s s'
 | 0,c,s,out,s',h=>by simp [exec] at h
 | n+1,c,s,out,s',h=>by
  have ih:=ZJ (P:=P) (S:=S) (z:=z) n
  simp only [exec,jby] at h
  cases c with
  | code c=>
   simp only at h
   cases c with
   | skip=>simp only [kP,Option.some.injEq,Prod.mk.injEq] at h;rw [←h.2];exact .refl _
   | region id ops draw=>
    cases draw with
    | false=>simp only [kP] at h;exact ih _ _ _ _ h
    | true=>
     simp only [kP] at h
     unfold qe at h
     split at h
     ·rename_i s1 hr
      simp only [Option.some.injEq,Prod.mk.injEq] at h
      rw [←h.2]
      unfold xQ at hr
      split at hr
      ·rename_i s2 acc hs2
       split at hr
       ·cases hr;exact Ku _ _ _ _ _ hs2
       ·cases hr
      ·cases hr
     ·cases h
   | seq a b=>
    simp only [kP] at h
    cases hq:exec P S z n (.code a) s with
    | none=>rw [hq] at h;cases h
    | some q=>
     obtain ⟨o1,s1⟩:=q
     have k1:=ih _ _ _ _ hq
     rw [hq] at h
     unfold xR at h
     split at h
     ·rename_i s2 he
      cases he
      exact k1.trans (ih _ _ _ _ h)
     ·cases h;exact k1
   | cond c a b=>
    simp only [kP] at h
    unfold YS at h
    split at h
    ·split at h
     ·split at h
      ·obtain ⟨c1,h1,-⟩:=kS h
       exact (ih _ _ _ _ h1).of rfl rfl rfl rfl rfl rfl
      ·obtain ⟨c1,h1,-⟩:=kS h
       exact (ih _ _ _ _ h1).of rfl rfl rfl rfl rfl rfl
      ·cases h
    ·cases h
   | block id a=>
    simp only [kP] at h
    cases hq:exec P S z n (.code a) s with
    | none=>rw [hq] at h;cases h
    | some q=>
     obtain ⟨o1,s1⟩:=q
     have k1:=ih _ _ _ _ hq
     rw [hq] at h
     unfold xX at h
     split at h
     ·rename_i i s2 he
      cases he
      split at h <;> (cases h;exact k1)
     ·cases h;exact k1
   | loop a=>
    simp only [kP] at h
    cases hq:exec P S z n (.code a) s with
    | none=>rw [hq] at h;cases h
    | some q=>
     obtain ⟨o1,s1⟩:=q
     have k1:=ih _ _ _ _ hq
     rw [hq] at h
     unfold xR at h
     split at h
     ·rename_i s2 he
      cases he
      exact k1.trans (ih _ _ _ _ h)
     ·cases h;exact k1
   | exit id=>simp only [kP,Option.some.injEq,Prod.mk.injEq] at h;rw [←h.2];exact .refl _
   | ret=>simp only [kP,Option.some.injEq,Prod.mk.injEq] at h;rw [←h.2];exact .refl _
   | _=>simp [kP] at h
  | ops all l=>
   simp only at h
   unfold YT at h
   split at h
   ·cases h;exact .refl _
   ·split at h
    split at h
    ·obtain ⟨s1,h1,h2⟩:=QA h
     exact h2.trans (ih _ _ _ _ h1)
    ·unfold jf6 at h
     split at h
     ·rename_i f args _
      obtain ⟨c1,h1,-⟩:=kS h
      unfold jbx at h1
      split at h1
      ·rename_i v s1 hq
       have k1:=ih _ _ _ _ hq
       rw [JE] at h1
       obtain ⟨tm,h2⟩:=XI h1
       obtain ⟨m',h3,h4⟩:=jdQ h2
       have k2:=ih _ _ _ _ h3
       refine Kept.trans (b:=⟨tm,s1.sz,m',s1.nb,s1.dec,s1.cs,s1.lg⟩) ⟨k1.lg,k1.nb,fun i hi hn=> ?_⟩ k2
       show getM m' i=_
       rw [h4 i hi,k1.mem i hi hn]
      ·cases h1
     ·split at h
      ·obtain ⟨s1,h1,h2⟩:=QA h
       exact h2.trans (ih _ _ _ _ h1)
      ·cases h
    ·cases h
  | body f args=>
   simp only at h
   unfold KY at h
   split at h
   ·rename_i fn _
    split at h
    ·rename_i c _
     split at h
     ·rw [JG] at h
      cases hq:exec P S z n (.code c) ⟨KL .nil 0 args,fn.ntmps,s.mem,s.nb,s.dec,s.cs,s.lg⟩ with
      | none=>rw [hq] at h;cases h
      | some q=>
       obtain ⟨o1,s1⟩:=q
       have k1:=(ih _ _ _ _ hq).of (a':=s) (b':=s1) rfl rfl rfl rfl rfl rfl
       rw [hq] at h
       unfold YU at h
       split at h
       ·rename_i s2 he
        cases he
        split at h
        ·cases h;exact k1.of rfl rfl rfl rfl rfl rfl
        ·cases h
       ·rename_i s2 he
        cases he
        split at h
        ·cases h;exact k1.of rfl rfl rfl rfl rfl rfl
        ·cases h
       ·cases h
     ·cases h
    ·cases h
   ·cases h
theorem jfG {P:Program} {S:FuncId→Option SumK} {z:Md} {n:Nat} {f:FuncId} {args:List LV} {m:Mem} {nb:Nat} {dec:List (Option Bool)} {v:LV} {m':Mem} {cs:List (Bool×Bool)} {lg:List Nat}
  (h:jtP P S z n f args m nb dec=some (v,m',cs,lg)):
  (∃s',exec P S z n (.body f args) ⟨.nil,0,m,nb,dec,[],[]⟩=some (.val v,s')∧s'.mem=m'∧s'.cs=cs)∧∀i,i<nb→i ∉ lg→getM m' i=getM m i:=by
 unfold jtP at h
 split at h
 ·rename_i v' s hq
  cases h
  exact ⟨⟨s,hq,rfl,rfl⟩,(ZJ _ _ _ _ _ hq).mem⟩
 ·cases h
end Go.Lr

/- The local evaluator: summaries of any functions, made by running them on all blocks that can be got at; new blocks are told by new numbers. -/
namespace Go.Lr
open Go.RowKit
def jhf (nb:Nat):List Nat→Bool
 | []=>true
 | a::l=>match Nat.blt a nb with
  | true=>jhf nb l
  | false=>false
def Km (p:Nat→Bool):List LV→Bool
 | []=>true
 | a::l=>match a.ok p with
  | true=>Km p l
  | false=>false
def jmH (j:Nat):Nat→List Nat→Option Nat
 | _,[]=>none
 | k,a::l=>match Nat.beq a j with
  | true=>some k
  | false=>jmH j (k+1) l
def nmG (seen keys:List Nat) (nb:Nat) (i:Nat):Option Nat:=
 match Nat.blt i nb with
 | true=>some i
 | false=>jmH i nb keys
def rnC (φ:Nat→Option Nat):List (Nat×Nat)→Option (List (Nat×Nat))
 | []=>some []
 | c::l=>match φ c.1,rnC φ l with
  | some b,some r=>some ((b,c.2)::r)
  | _,_=>none
def rnA (φ:Nat→Option Nat):At→Option At
 | .ptr b o=>match φ b with
  | some c=>some (.ptr c o)
  | none=>none
 | .sl b o n k=>match φ b with
  | some c=>some (.sl c o n k)
  | none=>none
 | .slu b n=>match φ b with
  | some c=>some (.slu c n)
  | none=>none
 | .slx b o n k=>match φ b with
  | some c=>some (.slx c o n k)
  | none=>none
 | .ptx b o=>match φ b with
  | some c=>some (.ptx c o)
  | none=>none
 | .slt b o n=>match φ b with
  | some c=>some (.slt c o n)
  | none=>none
 | .slv b n=>match φ b with
  | some c=>some (.slv c n)
  | none=>none
 | .fn f caps=>match rnC φ caps with
  | some c=>some (.fn f c)
  | none=>none
 | a=>some a
def rnL (φ:Nat→Option Nat):List At→Option (List At)
 | []=>some []
 | a::l=>match rnA φ a,rnL φ l with
  | some b,some r=>some (b::r)
  | _,_=>none
def jqy (φ:Nat→Option Nat):V1→Option V1
 | .one a=>match rnA φ a with
  | some b=>some (.one b)
  | none=>none
 | .agg l=>match rnL φ l with
  | some r=>some (.agg r)
  | none=>none
def jmI (φ:Nat→Option Nat):List V1→Option (List V1)
 | []=>some []
 | a::l=>match jqy φ a,jmI φ l with
  | some b,some r=>some (b::r)
  | _,_=>none
def jrj (φ:Nat→Option Nat):LV→Option LV
 | .v x=>match jqy φ x with
  | some y=>some (.v y)
  | none=>none
 | .tup l=>match jmI φ l with
  | some r=>some (.tup r)
  | none=>none
def rnB (φ:Nat→Option Nat) (b:Blk):Option Blk:=
 match rnL φ b.cells with
 | some l=>some ⟨b.ty,b.fr,b.es,l⟩
 | none=>none
def jmJ (φ:Nat→Option Nat):List Blk→Option (List Blk)
 | []=>some []
 | a::l=>match rnB φ a,jmJ φ l with
  | some b,some r=>some (b::r)
  | _,_=>none
def XA (nb:Nat):Mem→List Nat
 | []=>[]
 | (j,_)::m=>match Nat.ble nb j with
  | true=>j::XA nb m
  | false=>XA nb m
def jeB:List Nat→List Blk→Mem
 | i::l,k::ks=>(i,k)::jeB l ks
 | _,_=>[]
def jmK (φ:Nat→Option Nat) (m:Mem):List Nat→Option (List (Nat×Option Blk))
 | []=>some []
 | i::l=>match jmK φ m l with
  | some r=>match getM m i with
   | none=>some ((i,none)::r)
   | some b=>match rnB φ b with
    | some c=>some ((i,some c)::r)
    | none=>none
  | none=>none
def yL (lg:List Nat):List Nat→List Nat
 | []=>[]
 | i::l=>match yH lg i with
  | true=>i::yL lg l
  | false=>yL lg l
def juA (seen:List Nat) (nb:Nat) (v:LV) (m':Mem) (cs:List (Bool×Bool)) (keys lg:List Nat):Option Dl:=
 match xV keys,jz (getM m') keys with
 | true,some bs=>match jrj (nmG seen keys nb) v,jmK (nmG seen keys nb) m' (yL lg seen),jmJ (nmG seen keys nb) bs with
  | some v',some ws,some bs'=>some ⟨v',ws,bs',seen,cs⟩
  | _,_,_=>none
 | _,_=>none
def ltN (nb:Nat):Nat→Bool:=fun i=>Nat.blt i nb
def jcf (P:Program) (S:FuncId→Option SumK) (z:Md) (n:Nat) (f:FuncId) (dec:List (Option Bool)):List LV→List Nat→List Blk→Nat→Option Dl:=fun args seen ks nb=>
 match xV seen,jhf nb seen,Km (ltN nb) args,okBs (ltN nb) ks with
 | true,true,true,true=>match jtP P S z n f args (jeB seen ks) nb dec with
  | some (v,m',cs,lg)=>juA seen nb v m' cs (XA nb m') lg
  | none=>none
 | _,_,_,_=>none
def qn (P:Program) (S:FuncId→Option SumK) (z:Md) (n:Nat) (f:FuncId):List LV→List Nat→List Blk→Nat→Option Dl:=jcf P S z n f []
theorem keepIn_mem {lg:List Nat}:∀{l:List Nat} {i:Nat},i∈yL lg l↔i∈l∧i∈lg
 | [],i=>by simp [yL]
 | a::l,i=>by
  simp only [yL]
  split
  ·rename_i h
   have h:=memB_iff.1 h
   simp only [List.mem_cons,keepIn_mem (l:=l)]
   constructor
   ·rintro (rfl | h2)
    ·exact ⟨.inl rfl,h⟩
    ·exact ⟨.inr h2.1,h2.2⟩
   ·rintro ⟨rfl | h2,h3⟩
    ·exact .inl rfl
    ·exact .inr ⟨h2,h3⟩
  ·rename_i h
   have h:a ∉ lg:=fun hh=>by rw [memB_iff.2 hh] at h;cases h
   simp only [List.mem_cons,keepIn_mem (l:=l)]
   constructor
   ·exact fun h2=>⟨.inr h2.1,h2.2⟩
   ·rintro ⟨rfl | h2,h3⟩
    ·exact absurd h3 h
    ·exact ⟨h2,h3⟩
theorem yM {lg:List Nat}:∀{l:List Nat},l.Nodup→(yL lg l).Nodup
 | [],_=>by simp [yL]
 | a::l,h=>by
  simp only [List.nodup_cons] at h
  simp only [yL]
  split
  ·exact List.nodup_cons.2 ⟨fun hh=>h.1 (keepIn_mem.1 hh).1,yM h.2⟩
  ·exact yM h.2
theorem Zf {nb:Nat}:∀{l:List Nat},jhf nb l=true→∀i∈l,i<nb
 | [],_,i,hi=>by cases hi
 | a::l,h,i,hi=>by
  simp only [jhf,zT] at h
  split at h
  ·rename_i ha
   have ha':a<nb:=by simpa using ha
   rcases List.mem_cons.1 hi with rfl | hi
   ·exact ha'
   ·exact Zf h i hi
  ·cases h
theorem zo {p:Nat→Bool}:∀{l:List LV},Km p l=true→∀v∈l,v.ok p=true
 | [],_,i,hi=>by cases hi
 | a::l,h,i,hi=>by
  simp only [Km] at h
  split at h
  ·rename_i ha
   rcases List.mem_cons.1 hi with rfl | hi
   ·exact ha
   ·exact zo h i hi
  ·cases h
theorem Zg {j:Nat}:∀{l:List Nat} {k i:Nat},jmH j k l=some i→k≤i∧i<k+l.length∧l[i - k]? = some j
 | [],k,i,h=>by simp [jmH] at h
 | a::l,k,i,h=>by
  simp only [jmH,kX] at h
  split at h
  ·rename_i ha
   have ha':a=j:=by simpa using ha
   cases h
   subst ha'
   exact ⟨Nat.le_refl _,by simp,by simp⟩
  ·obtain ⟨h1,h2,h3⟩:=Zg h
   refine ⟨by omega,by simp;omega, ?_⟩
   rw [show i - k=(i - (k+1))+1 by omega,List.getElem?_cons_succ]
   exact h3
section
variable {φ:Nat→Option Nat} {E E':Env}
theorem jeJ (hφ:∀i c,φ i=some c→E' c=E i):∀{l r:List (Nat×Nat)},rnC φ l=some r→l.map (fun p=>Value.pointer (some ⟨(E p.1).1,p.2+(E p.1).pre.length,none⟩))=r.map (fun p=>Value.pointer (some ⟨(E' p.1).1,p.2+(E' p.1).pre.length,none⟩))
 | [],r,h=>by simp only [rnC] at h;cases h;rfl
 | c::l,r,h=>by
  simp only [rnC] at h
  split at h
  ·rename_i b r' hb hr
   cases h
   simp only [List.map_cons,hφ _ _ hb,jeJ hφ hr]
  ·cases h
theorem jeK (hφ:∀i c,φ i=some c→E' c=E i) {a b:At} (h:rnA φ a=some b):a.den E=b.den E':=by
 unfold rnA at h
 split at h
 ·split at h
  ·rename_i hc;cases h;simp only [At.den,hφ _ _ hc]
  ·cases h
 ·split at h
  ·rename_i hc;cases h;simp only [At.den,hφ _ _ hc]
  ·cases h
 ·split at h
  ·rename_i hc;cases h;simp only [At.den,hφ _ _ hc]
  ·cases h
 ·split at h
  ·rename_i hc;cases h;simp only [At.den,hφ _ _ hc]
  ·cases h
 ·split at h
  ·rename_i hc;cases h;simp only [At.den,hφ _ _ hc]
  ·cases h
 ·split at h
  ·rename_i hc;cases h;simp only [At.den,hφ _ _ hc]
  ·cases h
 ·split at h
  ·rename_i hc;cases h;simp only [At.den,hφ _ _ hc]
  ·cases h
 ·split at h
  ·rename_i hc;cases h;simp only [At.den,jeJ hφ hc]
  ·cases h
 ·rename_i h1 h2 h3 h4 h5 h7 h8 h6
  cases h
  cases a with
  | ptr b o=>exact absurd rfl (h1 b o)
  | sl b o n c=>exact absurd rfl (h2 b o n c)
  | slu b n=>exact absurd rfl (h3 b n)
  | slx b o n c=>exact absurd rfl (h4 b o n c)
  | ptx b o=>exact absurd rfl (h5 b o)
  | slt b o n=>exact absurd rfl (h7 b o n)
  | slv b n=>exact absurd rfl (h8 b n)
  | fn f c=>exact absurd rfl (h6 f c)
  | _=>rfl
theorem jaJ (hφ:∀i c,φ i=some c→E' c=E i):∀{l r:List At},rnL φ l=some r→l.map (At.den E)=r.map (At.den E')
 | [],r,h=>by simp only [rnL] at h;cases h;rfl
 | c::l,r,h=>by
  simp only [rnL] at h
  split at h
  ·rename_i b r' hb hr
   cases h
   simp only [List.map_cons,jeK hφ hb,jaJ hφ hr]
  ·cases h
theorem jeL:∀{l r:List At},rnL φ l=some r→r.length=l.length
 | [],r,h=>by simp only [rnL] at h;cases h;rfl
 | c::l,r,h=>by
  simp only [rnL] at h
  split at h
  ·rename_i b r' hb hr
   cases h
   simp only [List.length_cons,jeL hr]
  ·cases h
theorem jcg (hφ:∀i c,φ i=some c→E' c=E i) {a b:V1} (h:jqy φ a=some b):a.den E=b.den E':=by
 unfold jqy at h
 split at h
 ·split at h
  ·rename_i hb;cases h;exact jeK hφ hb
  ·cases h
 ·split at h
  ·rename_i hb;cases h;simp only [V1.den,jaJ hφ hb]
  ·cases h
theorem jch (hφ:∀i c,φ i=some c→E' c=E i):∀{l r:List V1},jmI φ l=some r→l.map (V1.den E)=r.map (V1.den E')
 | [],r,h=>by simp only [jmI] at h;cases h;rfl
 | c::l,r,h=>by
  simp only [jmI] at h
  split at h
  ·rename_i b r' hb hr
   cases h
   simp only [List.map_cons,jcg hφ hb,jch hφ hr]
  ·cases h
theorem jhg (hφ:∀i c,φ i=some c→E' c=E i) {a b:LV} (h:jrj φ a=some b):a.den E=b.den E':=by
 unfold jrj at h
 split at h
 ·split at h
  ·rename_i hb;cases h;exact jcg hφ hb
  ·cases h
 ·split at h
  ·rename_i hb;cases h;simp only [LV.den,jch hφ hb]
  ·cases h
theorem jjf (hφ:∀i c,φ i=some c→E' c=E i) {b c:Blk} {i j:Nat} {w:World} (h:rnB φ b=some c) (he:E' j=E i) (hb:blkAt E i b w):blkAt E' j c w:=by
 unfold rnB at h
 split at h
 ·rename_i l hl
  cases h
  obtain ⟨r,h1,h2,h3⟩:=hb
  refine ⟨r, ?_,h2,fun hz=> ?_⟩
  ·show w.heap[(E' j).1]? = some (.cells ((E' j).pre++l.map (At.den E')++r++(E' j).suf).toArray ((E' j).ty.getD b.ty) b.fr)
   rw [he,←jaJ hφ hl];exact h1
  ·show l.length+r.length=(E' j).2*b.es
   rw [he,jeL hl];exact h3 hz
 ·cases h
end
theorem jci {φ:Nat→Option Nat}:∀{l r:List Blk},jmJ φ l=some r→r.length=l.length∧∀(i:Nat) (c:Blk),r[i]? = some c→∃b,l[i]? = some b∧rnB φ b=some c
 | [],r,h=>by
  simp only [jmJ] at h;cases h
  exact ⟨rfl,fun i c hc=>by simp at hc⟩
 | b::l,r,h=>by
  simp only [jmJ] at h
  split at h
  ·rename_i c r' hb hr
   cases h
   obtain ⟨h1,h2⟩:=jci hr
   refine ⟨by simp [h1],fun i d hd=> ?_⟩
   cases i with
   | zero=>simp only [List.getElem?_cons_zero,Option.some.injEq] at hd ⊢;subst hd;exact ⟨b,rfl,hb⟩
   | succ i=>simp only [List.getElem?_cons_succ] at hd ⊢;exact h2 i d hd
  ·cases h
theorem zV {g:Nat→Option Blk}:∀{l:List Nat} {r:List Blk},jz g l=some r→r.length=l.length∧∀(i:Nat) (j:Nat),l[i]? = some j→∃b,r[i]? = some b∧g j=some b
 | [],r,h=>by
  simp only [jz] at h;cases h
  exact ⟨rfl,fun i c hc=>by simp at hc⟩
 | a::l,r,h=>by
  simp only [jz] at h
  split at h
  ·rename_i k r' hk hr
   cases h
   obtain ⟨h1,h2⟩:=zV hr
   refine ⟨by simp [h1],fun i j hj=> ?_⟩
   cases i with
   | zero=>simp only [List.getElem?_cons_zero,Option.some.injEq] at hj ⊢;subst hj;exact ⟨k,rfl,hk⟩
   | succ i=>simp only [List.getElem?_cons_succ] at hj ⊢;exact h2 i j hj
  ·cases h
theorem xm {g:Nat→Option Blk}:∀{l:List Nat} {ks:List Blk},jz g l=some ks→∀i,getM (jeB l ks) i=if i∈l then g i else none
 | [],ks,h,i=>by simp only [jz] at h;cases h;simp [jeB,getM]
 | a::l,ks,h,i=>by
  simp only [jz] at h
  split at h
  ·rename_i k r hk hr
   cases h
   simp only [jeB]
   rw [jm,xm hr]
   by_cases hi:i=a
   ·subst hi;simp [hk]
   ·simp [hi]
  ·cases h
theorem Qd {g:Nat→Option Blk}:∀{l:List Nat} {ks:List Blk},jz g l=some ks→l.Nodup→uniq (jeB l ks)
 | [],ks,h,_=>by simp only [jz] at h;cases h;trivial
 | a::l,ks,h,hn=>by
  simp only [jz] at h
  split at h
  ·rename_i k r hk hr
   cases h
   rw [List.nodup_cons] at hn
   refine ⟨?_,Qd hr hn.2⟩
   rw [xm hr,if_neg hn.1]
  ·cases h
theorem Qe (nb:Nat):∀(m:Mem),∀j∈XA nb m,nb≤j
 | [],j,hj=>by cases hj
 | (a,b)::m,j,hj=>by
  simp only [XA] at hj
  split at hj
  ·rename_i ha
   rcases List.mem_cons.1 hj with rfl | hj
   ·exact Nat.le_of_ble_eq_true ha
   ·exact Qe nb m j hj
  ·exact Qe nb m j hj
theorem Zh {φ:Nat→Option Nat} {m:Mem}:∀{l:List Nat} {ws:List (Nat×Option Blk)},jmK φ m l=some ws→ws.map (·.1)=l∧∀x∈ws,(x.2=none)∨∃b c,getM m x.1=some b∧rnB φ b=some c∧x.2=some c
 | [],ws,h=>by simp only [jmK] at h;cases h;exact ⟨rfl,fun x hx=>by cases hx⟩
 | i::l,ws,h=>by
  simp only [jmK] at h
  split at h
  ·rename_i r hr
   obtain ⟨h1,h2⟩:=Zh hr
   split at h
   ·cases h
    refine ⟨by simp [h1],fun x hx=> ?_⟩
    rcases List.mem_cons.1 hx with rfl | hx
    ·exact .inl rfl
    ·exact h2 x hx
   ·rename_i b hb
    split at h
    ·rename_i c hc
     cases h
     refine ⟨by simp [h1],fun x hx=> ?_⟩
     rcases List.mem_cons.1 hx with rfl | hx
     ·exact .inr ⟨b,c,hb,hc,rfl⟩
     ·exact h2 x hx
    ·cases h
  ·cases h
theorem jeM {g:Nat→Option Blk}:∀(l:List (Nat×Option Blk)),(l.map (·.1)).Nodup→∀x∈l,wrG g l x.1=x.2
 | [],_,x,hx=>by cases hx
 | (i,s)::l,hn,x,hx=>by
  simp only [List.map_cons,List.nodup_cons] at hn
  simp only [wrG]
  rcases List.mem_cons.1 hx with rfl | hx
  ·rw [qA]
   ·simp
   ·intro y hy e
    exact hn.1 (by have h:=List.mem_map_of_mem (f:=fun x:Nat×Option Blk=>x.1) hy;rw [e] at h;exact h)
  ·exact jeM l hn.2 x hx
theorem jcj {g:Nat→Option Blk}:∀(l:List Blk) (nb k:Nat),nb≤k→k<nb+l.length→nwG g nb l k=l[k - nb]?
 | [],nb,k,h1,h2=>by simp at h2;omega
 | b::l,nb,k,h1,h2=>by
  simp only [nwG]
  by_cases hk:k=nb
  ·subst hk
   rw [qC l (k+1) k (by omega)]
   simp
  ·rw [jcj l (nb+1) k (by omega) (by simp at h2;omega),show k - nb=(k - (nb+1))+1 by omega,List.getElem?_cons_succ]
section
variable {P:Program} {S:FuncId→Option SumK} {z:Md}
theorem Zi (hs:Sound P S) {n:Nat} {f:FuncId} {dec:List (Option Bool)} (ho:Own P f):Ke P f (jcf P S z n f dec):=by
 intro args seen ks g nb p d E w hl hd hnd hc hrel hg hargs hn
 unfold jcf at hd
 split at hd
 ·rename_i c1 c2 c3 c4
  have k1:=nodupB_iff.1 c1
  have k2:=Zf c2
  have k3:=zo c3
  have k4:=okBs_iff.1 c4
  split at hd
  ·rename_i v m' cs lg hrun
   unfold juA at hd
   split at hd
   ·rename_i bs hkd hbs
    split at hd
    ·rename_i v' ws bs' hv' hws hbs'
     cases hd
     have kn:=nodupB_iff.1 hkd
     obtain ⟨⟨s',h1,h2,h4⟩,hkept⟩:=jfG hrun
     have hsub:∀i c,getM (jeB seen ks) i=some c→i∈seen∧g i=some c:=by
      intro i c hc
      rw [xm hl] at hc
      split at hc
      ·rename_i hi;exact ⟨hi,hc⟩
      ·cases hc
     have hbel:∀i,ltN nb i=true→below nb i=true:=fun i hi=>by
      simp only [below,decide_eq_true_eq];simpa [ltN,zT] using hi
     have hcell:∀i c,getM (jeB seen ks) i=some c→i<nb∧okL (below nb) c.cells=true:=by
      intro i c hc
      obtain ⟨hi,hgi⟩:=hsub i c hc
      refine ⟨k2 i hi,jn hbel ?_⟩
      obtain ⟨_,h6⟩:=zV hl
      obtain ⟨t,ht,hti⟩:=List.getElem_of_mem hi
      obtain ⟨b,hb,hgb⟩:=h6 t i (by rw [List.getElem?_eq_getElem ht,hti])
      rw [hgi] at hgb
      cases hgb
      exact k4 c (List.mem_of_getElem? hb)
     obtain ⟨v0,b1,b2,b3,b4,b5,b6,b7,b8⟩:=(ki (z9 P) hs.sums hs.mix hs.ng n).2.2.2 f args _ _ s' h1 hcell (Qd hl k1) (fun u hu=>LV.ok_mono hbel (k3 u hu))
     cases b1
     have hmr:MRel E ⟨.nil,0,jeB seen ks,nb,dec,[],[]⟩ w:=⟨hrel.sub fun i b hb=>(hsub i b hb).2,hcell,Qd hl k1⟩
     have hcall:=b8 (by rw [Good,h4];exact hc) E w hmr
     obtain ⟨fn,f1,f2,f3⟩:=ho
     refine .inl ⟨fn,f1,f2,f3,hcall.mono ?_⟩
     rintro e w' ⟨Eo,rfl,hmr',hx⟩
     have hrel':=hmr'.rel
     rw [h2] at hrel'
     have hsrc:=hx.src
     rw [h2] at hsrc
     have hagr:∀i,i<nb→Eo i=E i:=hx.agree
     have hge:=Qe nb m'
     obtain ⟨l1,l2⟩:=zV hbs
     obtain ⟨q1,q2⟩:=jci hbs'
     obtain ⟨y1,y2⟩:=Zh hws
     generalize hK:XA nb m'=keys at *
     have hlen:bs'.length=keys.length:=by rw [q1,l1]
     generalize hE':(fun i=>if i<nb then E i else match keys[i - nb]? with
      | some j=>Eo j
      | none=>E i)=E'
     have Elt:∀i,i<nb→E' i=E i:=fun i hi=>by rw [←hE'];simp [hi]
     have Ege:∀i j,nb≤i→keys[i - nb]? = some j→E' i=Eo j:=fun i j hi hj=>by
      rw [←hE'];simp only [show ¬i<nb by omega,if_false,hj]
     have Eout:∀i,nb+bs'.length≤i→E' i=E i:=fun i hi=>by
      rw [←hE']
      simp only [show ¬i<nb by omega,if_false]
      rw [List.getElem?_eq_none (by omega)]
     have hφ:∀i c,nmG seen keys nb i=some c→E' c=Eo i:=by
      intro i c hic
      unfold nmG at hic
      split at hic
      ·rename_i hi
       cases hic
       have hlt:i<nb:=by simpa [zT] using hi
       rw [Elt _ hlt,hagr _ hlt]
      ·obtain ⟨p1,p2,p3⟩:=Zg hic
       exact Ege c i p1 p3
     have hsome:∀i∈seen,∃c,g i=some c:=fun i hi=>Option.isSome_iff_exists.1 (kh hl i hi)
     have hgnew:∀i c,g i=some c→i<nb∨nb+bs'.length≤i:=by
      intro i c hi
      by_cases h5:i<nb
      ·exact .inl h5
      ·by_cases h6:nb+bs'.length≤i
       ·exact .inr h6
       ·exfalso
        have:=(hg i c hi).1
        rw [hn i (by omega) (by show i<nb+bs'.length;omega)] at this
        cases this
     have Eold:∀i c,g i=some c→E' i=E i:=fun i c hi=>(hgnew i c hi).elim (Elt i) (Eout i)
     have hlt:∀i c,g i=some c→(E i).1<w.heap.size:=fun i c hi=>by
      obtain ⟨r,u1,-⟩:=hrel.blk i c hi
      exact (Array.getElem?_eq_some_iff.1 u1).1
     have hpE:∀i,p i=true→E' i=E i:=by
      intro i hi
      by_cases h5:i<nb
      ·exact Elt i h5
      ·refine Eout i ?_
       by_cases h6:nb+bs'.length≤i
       ·exact h6
       ·exfalso
        rw [hn i (by omega) (by show i<nb+bs'.length;omega)] at hi
        cases hi
     have hwk:(ws.map (·.1)).Nodup:=by rw [y1];exact yM k1
     have hat:∀i b,nwG (wrG g ws) nb bs' i=some b→
       (∃j b0,nb≤i∧i<nb+bs'.length∧keys[i - nb]? = some j∧getM m' j=some b0∧rnB (nmG seen keys nb) b0=some b)∨
       (i∈seen∧∃b0,getM m' i=some b0∧(rnB (nmG seen keys nb) b0=some b∨(b0=b∧g i=some b)))∨(i ∉ seen∧g i=some b):=by
      intro i b hb
      by_cases hi:nb≤i∧i<nb+bs'.length
      ·left
       rw [jcj _ _ _ hi.1 hi.2] at hb
       obtain ⟨b0,hb0,hr0⟩:=q2 _ _ hb
       have hkl:i - nb<keys.length:=by omega
       obtain ⟨b1,hb1,hg1⟩:=l2 (i - nb) keys[i - nb] (List.getElem?_eq_getElem hkl)
       rw [hb0] at hb1
       cases hb1
       exact ⟨keys[i - nb],b0,hi.1,hi.2,List.getElem?_eq_getElem hkl,hg1,hr0⟩
      ·right
       rw [qC _ _ _ (by omega)] at hb
       by_cases hs2:i∈seen
       ·left
        refine ⟨hs2, ?_⟩
        by_cases hlgi:i∈lg
        ·have hs3:=keepIn_mem.2 ⟨hs2,hlgi⟩
         rw [←y1] at hs3
         obtain ⟨x,hx1,hx2⟩:=List.mem_map.1 hs3
         rw [←hx2,jeM ws hwk x hx1] at hb
         rcases y2 x hx1 with hz | ⟨b0,c,z1,z2,z3⟩
         ·rw [hz] at hb;cases hb
         ·rw [z3] at hb
          cases hb
          exact ⟨b0,by rw [←hx2];exact z1,.inl z2⟩
        ·have hgi:g i=some b:=by
          rw [qA] at hb
          ·exact hb
          ·intro x hx1 e
           have:i∈yL lg seen:=by rw [←y1,←e];exact List.mem_map_of_mem hx1
           exact hlgi (keepIn_mem.1 this).2
         refine ⟨b, ?_,.inr ⟨rfl,hgi⟩⟩
         rw [hkept i (k2 i hs2) hlgi,xm hl,if_pos hs2]
         exact hgi
       ·right
        refine ⟨hs2, ?_⟩
        rw [qA] at hb
        ·exact hb
        ·intro x hx1 e
         have:i∈yL lg seen:=by rw [←y1,←e];exact List.mem_map_of_mem hx1
         exact hs2 (keepIn_mem.1 this).1
     have hframe:∀b,b<w.heap.size→(∀i∈seen,(E i).1≠b)→w'.heap[b]? = w.heap[b]? :=fun b hb hne=>hx.frame b hb fun i hi he=>by
      obtain ⟨c,hc⟩:=Option.isSome_iff_exists.1 hi
      exact hne i (hsub i c hc).1 he
     have hnew:∀j b0,getM m' j=some b0→w.heap.size≤(Eo j).1∨∃i∈seen,(Eo j).1=(E i).1:=by
      intro j b0 hj
      rcases hsrc j (by rw [hj];rfl) with h | ⟨i,hi,he⟩
      ·exact .inl h
      ·obtain ⟨c,hc⟩:=Option.isSome_iff_exists.1 hi
       exact .inr ⟨i,(hsub i c hc).1,he⟩
     have hcal:∀i b,nwG (wrG g ws) nb bs' i=some b→(∃j b0,getM m' j=some b0∧E' i=Eo j∧(nb≤i∧i<nb+bs'.length∧keys[i - nb]? = some j∨i∈seen∧j=i))∨(i ∉ seen∧g i=some b):=by
      intro i b hb
      rcases hat i b hb with ⟨j,b0,a1,a2,a3,a4,a5⟩ | ⟨a1,b0,a2,a3⟩ | ⟨a1,a2⟩
      ·exact .inl ⟨j,b0,a4,Ege i j a1 a3,.inl ⟨a1,a2,a3⟩⟩
      ·exact .inl ⟨i,b0,a2,by rw [Elt i (k2 i a1),hagr i (k2 i a1)],.inr ⟨a1,rfl⟩⟩
      ·exact .inr ⟨a1,a2⟩
     refine ⟨_,rfl,E',jhg hφ hv', ?_⟩
     refine ⟨fun i hi=> ?_,⟨fun i b hb=> ?_,fun i i2 hi hi2 he=> ?_⟩,hx.os,hx.tape,hx.output,hx.size,fun b hb hne=>hframe b hb fun i hi he=> ?_,fun i h5 h6=> ?_⟩
     ·rcases hi with hi | hi
      ·exact Elt i hi
      ·exact Eout i hi
     ·rcases hat i b hb with ⟨j,b0,a1,a2,a3,a4,a5⟩ | ⟨a1,b0,a2,a3⟩ | ⟨a1,a2⟩
      ·exact jjf hφ a5 (Ege i j a1 a3) (hrel'.blk j b0 a4)
      ·rcases a3 with a3 | ⟨rfl,a3⟩
       ·exact jjf hφ a3 (by rw [Elt i (k2 i a1),hagr i (k2 i a1)]) (hrel'.blk i b0 a2)
       ·have hce:=(hcell i b0 (by rw [xm hl,if_pos a1];exact a3)).2
        obtain ⟨r,u1,u2,u3⟩:=hrel'.blk i b0 a2
        have e1:E' i=Eo i:=by rw [Elt i (k2 i a1),hagr i (k2 i a1)]
        refine ⟨r, ?_,u2,fun hz=>by rw [e1];exact u3 hz⟩
        rw [e1,u1,jX (E:=Eo) (E':=E') (p:=below nb) (fun j hj=> ?_) hce]
        have hj':j<nb:=by simpa [below] using hj
        rw [Elt j hj',hagr j hj']
      ·obtain ⟨r,u1,u2,u3⟩:=hrel.blk i b a2
       refine ⟨r, ?_,u2,fun hz=>by rw [Eold i b a2];exact u3 hz⟩
       rw [Eold i b a2,hframe _ (hlt i b a2) (fun j hj e=> ?_),u1,jX (p:=p) hpE (hg i b a2).2]
       obtain ⟨c,hc2⟩:=hsome j hj
       have:=hrel.inj j i (by rw [hc2];rfl) (by rw [a2];rfl) e
       exact a1 (this ▸ hj)
     ·obtain ⟨b,hb⟩:=Option.isSome_iff_exists.1 hi
      obtain ⟨b2',hb2⟩:=Option.isSome_iff_exists.1 hi2
      have apart:∀(j:Nat) (b0:Blk) (t:Nat) (c:Blk),getM m' j=some b0→t ∉ seen→g t=some c→(Eo j).1≠(E t).1:=by
       intro j b0 t c hj ht hgt e
       rcases hnew j b0 hj with h | ⟨i0,hi0,e0⟩
       ·have:=hlt t c hgt;omega
       ·obtain ⟨c0,hc0⟩:=hsome i0 hi0
        have:=hrel.inj i0 t (by rw [hc0];rfl) (by rw [hgt];rfl) (by rw [←e0,e])
        exact ht (this ▸ hi0)
      rcases hcal i b hb with ⟨j,b0,a1,a2,a3⟩ | ⟨a1,a2⟩
      ·rcases hcal i2 b2' hb2 with ⟨j2,b3,d1,d2,d3⟩ | ⟨d1,d2⟩
       ·rw [a2,d2] at he
        have hjj:=hrel'.inj j j2 (by rw [a1];rfl) (by rw [d1];rfl) he
        subst hjj
        rcases a3 with ⟨e1,e2,e3⟩ | ⟨e1,e2⟩
        ·rcases d3 with ⟨g1,g2,g3⟩ | ⟨g1,g2⟩
         ·have h7:i - nb<keys.length:=by omega
          have h8:i2 - nb<keys.length:=by omega
          have e4:keys[i - nb]=j:=by rw [List.getElem?_eq_getElem h7] at e3;exact Option.some.inj e3
          have g4:keys[i2 - nb]=j:=by rw [List.getElem?_eq_getElem h8] at g3;exact Option.some.inj g3
          have:=(List.getElem_inj (h₀:=h7) (h₁:=h8) kn).1 (by rw [e4,g4])
          omega
         ·exfalso
          have h7:=hge j (List.mem_of_getElem? e3)
          have h8:=k2 i2 g1
          omega
        ·rcases d3 with ⟨g1,g2,g3⟩ | ⟨g1,g2⟩
         ·exfalso
          have h7:=hge j (List.mem_of_getElem? g3)
          have h8:=k2 i e1
          omega
         ·omega
       ·exfalso
        rw [a2,Eold i2 b2' d2] at he
        exact apart j b0 i2 b2' a1 d1 d2 he
      ·rcases hcal i2 b2' hb2 with ⟨j2,b3,d1,d2,d3⟩ | ⟨d1,d2⟩
       ·exfalso
        rw [d2,Eold i b a2] at he
        exact apart j2 b3 i b d1 a1 a2 he.symm
       ·rw [Eold i b a2,Eold i2 b2' d2] at he
        exact hrel.inj i i2 (by rw [a2];rfl) (by rw [d2];rfl) he
     ·obtain ⟨c,hc2⟩:=hsome i hi
      exact hne i (by rw [hc2];rfl) he
     ·have h6':i<nb+bs'.length:=h6
      have hkl:i - nb<keys.length:=by omega
      have hk:=List.getElem?_eq_getElem hkl
      obtain ⟨b1,hb1,hg1⟩:=l2 (i - nb) _ hk
      rw [Ege i _ h5 hk]
      rcases hnew _ b1 hg1 with h | ⟨i0,hi0,e0⟩
      ·exact .inl h
      ·obtain ⟨c,hc2⟩:=hsome i0 hi0
       exact .inr ⟨i0,by rw [hc2];rfl,e0⟩
    ·cases hd
   ·cases hd
  ·cases hd
 ·cases hd
theorem jP (hs:Sound P S) {n:Nat} {f:FuncId} (ho:Own P f):Ke P f (qn P S z n f):=Zi hs ho
end
def moreG (S:FuncId→Option SumK) (f:FuncId) (s:List LV→List Nat→List Blk→Nat→Option Dl):FuncId→Option SumK:=fun g=>
 match Nat.beq g f with
 | true=>some (.gen s)
 | false=>S g
section
variable {P:Program} {S:FuncId→Option SumK}
theorem Sound.moreG (h:Sound P S) {f:FuncId} {s:List LV→List Nat→List Blk→Nat→Option Dl} (hs:Ke P f s):Sound P (Go.Lr.moreG S f s):=by
 refine ⟨fun g t hg=> ?_,h.mix,h.ng⟩
 unfold Go.Lr.moreG at hg
 split at hg
 ·rename_i he
  cases hg
  rw [kX] at he
  have:g=f:=by simpa using he
  subst this
  exact hs
 ·exact h.sums g t hg
end
end Go.Lr

/- The local evaluator: summaries of methods on a flag, where the flag lies anywhere in a block. -/
namespace Go.Lr
open Go.RowKit
def jfF (ty:TypeId) (s:Sum):Sum:=fun args=>
 match args with
 | .v (.one (.ptr c o))::rest=>match Km (fun i=> !(Nat.beq i c)) rest,s (.v (.one (.ptr c 0))::rest) with
  | true,some t=>match t.wr with
   | [c']=>match Nat.beq c' c,yH t.rd c with
    | true,false=>some ⟨t.rd,[c],fun rdB wB nb=>match wB with
     | [⟨tt,(0,0),eb,l⟩]=>match atL l o,okBs noP rdB with
      | some (.bool h),true=>match t.go rdB [flag ty h] nb with
       | some ⟨v,[⟨t',(0,0),0,[.bool h']⟩],[],cs⟩=>match Nat.beq t' ty,v.ok noP with
        | true,true=>some ⟨v,[⟨tt,(0,0),eb,l.set o (.bool h')⟩],[],cs⟩
        | _,_=>none
       | _=>none
      | _,_=>none
     | _=>none⟩
    | _,_=>none
   | _=>none
  | _,_=>none
 | _=>none
section
variable {P:Program}
theorem xc {g g':Nat→Option Blk}:∀{l:List Nat} {r:List Blk},jz g l=some r→(∀(i:Nat) (b:Blk),i∈l→b∈r→g i=some b→g' i=some b)→jz g' l=some r
 | [],r,h,_=>h
 | a::l,r,h,hg=>by
  obtain ⟨k,r',h1,h2,rfl⟩:=jT h
  have e1:=hg a k (List.mem_cons_self ..) (List.mem_cons_self ..) h1
  have e2:=xc h2 fun i b hi hb=>hg i b (List.mem_cons_of_mem _ hi) (List.mem_cons_of_mem _ hb)
  simp only [jz,e1,e2]
open Classical in
noncomputable def gW (g:Nat→Option Blk) (c:Nat) (k:Blk):Nat→Option Blk:=fun i=>if i=c then some k else match g i with
 | some b=>if okL noP b.cells=true then some b else none
 | none=>none
def eW (E:Env) (c:Nat) (L:Loc):Env:=fun i=>if i=c then L else E i
theorem jjB {g:Nat→Option Blk} {c i:Nat} {k b:Blk} (h:gW g c k i=some b) (hi:i≠c):g i=some b∧okL noP b.cells=true:=by
 unfold gW at h
 rw [if_neg hi] at h
 split at h
 ·rename_i b' hb
  split at h
  ·rename_i ho;cases h;exact ⟨hb,ho⟩
  ·cases h
 ·cases h
theorem joX {g:Nat→Option Blk} {c i:Nat} {k b:Blk} (h:g i=some b) (ho:okL noP b.cells=true) (hi:i≠c):gW g c k i=some b:=by
 unfold gW
 rw [if_neg hi,h]
 simp only [ho,if_true]
theorem jsY {g:Nat→Option Blk} {c:Nat} {k:Blk}:gW g c k c=some k:=by unfold gW;rw [if_pos rfl]
theorem Yy {g:Nat→Option Blk} {c i:Nat} {k kc:Blk} (hc:g c=some kc) (h:(gW g c k i).isSome):(g i).isSome:=by
 by_cases hi:i=c
 ·rw [hi,hc];rfl
 ·obtain ⟨b,hb⟩:=Option.isSome_iff_exists.1 h
  rw [(jjB hb hi).1];rfl
theorem jjC {E:Env} {c i:Nat} {t:TypeId} {l:List At} {r:List Value} {o:Nat}:(eW E c (qf (E c) E t l r o) i).1=(E i).1:=by
 unfold eW
 by_cases hi:i=c
 ·rw [if_pos hi,hi];rfl
 ·rw [if_neg hi]
theorem Yz {f:FuncId} {ty:TypeId} {s:Sum} (hS:SumOK P f s):SumOK P f (jfF ty s):=by
 intro args t g nb p rdB wrB ans ws E w hs hr hw hnd hgo hz hc hrel hg hargs hn
 unfold jfF at hs
 split at hs
 ·rename_i c o rest
  split at hs
  ·rename_i t0 hrest ht0
   split at hs
   ·rename_i c' hwr
    split at hs
    ·rename_i hcc hmem
     cases hs
     rw [kX] at hcc
     have hcc':c'=c:=of_decide_eq_true hcc
     subst hcc'
     simp only at hgo hw hr hz
     split at hgo
     ·rename_i tt eb l
      split at hgo
      ·rename_i h hat hokr
       split at hgo
       ·rename_i v t' h' cs hgo0
        split at hgo
        ·rename_i hty hv
         cases hgo
         rw [kX] at hty
         have hty':t'=ty:=of_decide_eq_true hty
         subst hty'
         obtain ⟨kc,r',hkc,hr',hrr⟩:=jT hw
         cases kD hr'
         cases hrr
         simp only [Xi] at hz
         cases hz
         obtain ⟨r,g1,g2,g3⟩:=hrel.blk c' _ hkc
         have hlt:o<l.length:=jal hat
         generalize hL:qf (E c') E tt l r o=L
         have hLb:L.blk=(E c').blk:=by rw [←hL];rfl
         have hEb:∀i,(eW E c' L i).1=(E i).1:=fun i=>by rw [←hL];exact jjC
         have hEi:∀i,i≠c'→eW E c' L i=E i:=fun i hi=>by unfold eW;rw [if_neg hi]
         have hEc:eW E c' L c'=L:=by unfold eW;rw [if_pos rfl]
         have hok:∀i b,gW g c' (flag t' h) i=some b→i≠c'→g i=some b∧okL noP b.cells=true:=fun i b hb hi=>jjB hb hi
         have hrelW:Rel (eW E c' L) (gW g c' (flag t' h)) w:=by
          refine ⟨fun i b hb=> ?_,fun i j hi hj he=>hrel.inj i j (Yy hkc hi) (Yy hkc hj) (by rw [←hEb i,←hEb j];exact he)⟩
          by_cases hi:i=c'
          ·subst hi
           rw [jsY] at hb
           cases hb
           refine ⟨[], ?_,fun _=>rfl,fun hne=>absurd rfl hne⟩
           rw [hEc]
           have e:=xj (L:=E i) (E:=E) (t:=tt) (l:=l) (r:=r) (o:=o) t' (h:=h) hlt
           rw [YX hat,hL] at e
           show w.heap[L.blk]? = some (JI L t' h)
           rw [e,hLb];exact g1
          ·obtain ⟨q1,q2⟩:=hok i b hb hi
           exact kp q2 (hEi i hi) (hrel.blk i b q1)
         have hdenr:∀u∈rest,u.den E=u.den (eW E c' L):=fun u hu=>(LV.den_congr (p:=fun i=> !(Nat.beq i c')) (fun i hi=>hEi i (by
          intro e
          rw [e] at hi
          simp at hi)) (zo hrest u hu)).symm
         have hargs':((LV.v (V1.one (At.ptr c' o)))::rest).map (LV.den E)=((LV.v (V1.one (At.ptr c' 0)))::rest).map (LV.den (eW E c' L)):=by
          rw [List.map_cons,List.map_cons,List.map_congr_left hdenr]
          congr 1
          show Value.pointer (some ⟨(E c').1,o+(E c').pre.length,none⟩)=Value.pointer (some ⟨(eW E c' L c').1,0+(eW E c' L c').pre.length,none⟩)
          have e:(eW E c' L c').pre.length=o+(E c').pre.length:=by
           rw [hEc,←hL];unfold qf;simp;omega
          rw [e,hEb,Nat.zero_add]
         have hrd:jz (gW g c' (flag t' h)) t0.rd=some rdB:=xc hr fun i b hi hb hgi=>by
          refine joX hgi (okBs_iff.1 hokr b hb) fun e=> ?_
          subst e
          exact xl hmem hi
         have hwW:jz (gW g c' (flag t' h)) t0.wr=some [flag t' h]:=by
          rw [hwr];simp only [jz,jsY]
         have main:=hS _ t0 (gW g c' (flag t' h)) nb p rdB [flag t' h] ⟨v,[⟨t',(0,0),0,[.bool h']⟩],[],cs⟩ [(c',some (flag t' h'))] (eW E c' L) w ht0 hrd hwW (by rw [hwr];exact hnd) hgo0 (by rw [hwr];rfl) hc hrelW
          (fun i b hb=>by
           by_cases hi:i=c'
           ·subst hi;rw [jsY] at hb;cases hb;exact ⟨(hg i _ hkc).1,rfl⟩
           ·exact hg i b (hok i b hb hi).1)
          (fun u hu=>by
           rcases List.mem_cons.1 hu with rfl | hu
           ·exact (hg c' _ hkc).1
           ·exact hargs u (List.mem_cons_of_mem _ hu)) hn
         have conv:∀(E':Env) (w':World),Post w (eW E c' L) (gW g c' (flag t' h)) nb ⟨v,[(c',some (flag t' h'))],[],[],[]⟩ E' w'→Post w E g nb ⟨v,[(c',some ⟨tt,(0,0),eb,l.set o (.bool h')⟩)],[],[],[]⟩ E w':=by
          intro E' w' hp
          have hEE:∀i,E' i=eW E c' L i:=fun i=>hp.agree i (by simp;omega)
          have hEf:E'=eW E c' L:=funext hEE
          subst hEf
          have hfr:∀i b,i≠c'→g i=some b→gW g c' (flag t' h) i=none→w'.heap[(E i).1]? = w.heap[(E i).1]? :=fun i b hi hb hno=>by
           obtain ⟨r2,u1,-,-⟩:=hrel.blk i b hb
           refine hp.frame _ (Array.getElem?_eq_some_iff.1 u1).1 fun j hj he=> ?_
           rw [hEb] at he
           have:=hrel.inj j i (Yy hkc hj) (by rw [hb];rfl) he
           subst this
           rw [hno] at hj
           cases hj
          refine ⟨fun _ _=>rfl,⟨fun i b hb=> ?_,fun i j hi hj he=> ?_⟩,hp.os,hp.tape,hp.output,hp.size,fun k hk hne=>hp.frame k hk fun i hi=>by rw [hEb];exact hne i (Yy hkc hi),fun i i1 i2=>by simp at i2;omega⟩
          ·simp only [nwG,wrG] at hb
           by_cases hi:i=c'
           ·subst hi
            rw [if_pos rfl] at hb
            cases hb
            have hb2:=hp.rel.blk i (flag t' h') (by simp only [nwG,wrG,if_true])
            obtain ⟨r2,u1,u2,-⟩:=hb2
            rw [hEc,u2 rfl] at u1
            refine ⟨r, ?_,g2,fun hne=>by show (l.set o _).length+_=_;rw [List.length_set];exact g3 hne⟩
            have e:=xj (L:=E i) (E:=E) (t:=tt) (l:=l) (r:=r) (o:=o) t' (h:=h') hlt
            rw [hL] at e
            rw [←hLb]
            exact u1.trans (congrArg some e)
           ·rw [if_neg hi] at hb
            by_cases ho:okL noP b.cells=true
            ·have:=hp.rel.blk i b (by simp only [nwG,wrG,if_neg hi];exact joX hb ho hi)
             exact kp ho (hEi i hi).symm this
            ·obtain ⟨r2,u1,u2,u3⟩:=hrel.blk i b hb
             refine ⟨r2, ?_,u2,u3⟩
             rw [hfr i b hi hb]
             ·exact u1
             ·unfold gW
              rw [if_neg hi,hb]
              show (if okL noP b.cells=true then some b else none)=none
              rw [if_neg ho]
          ·simp only [nwG,wrG] at hi hj
           refine hrel.inj i j ?_ ?_ he
           ·by_cases h1:i=c'
            ·rw [h1,hkc];rfl
            ·simpa [if_neg h1] using hi
           ·by_cases h1:j=c'
            ·rw [h1,hkc];rfl
            ·simpa [if_neg h1] using hj
         rw [hargs']
         refine main.imp (fun ⟨fn,h1,h2,h3,h4⟩=>⟨fn,h1,h2,h3,h4.mono ?_⟩) (fun ⟨u,w',h1,E',h2,h3⟩=>⟨u,w',h1,E, ?_,conv E' w' h3⟩)
         ·rintro e w' ⟨u,rfl,E',rfl,h3⟩
          exact ⟨_,rfl,E,by rw [kg hv,kg (E:=E) hv],conv E' w' h3⟩
         ·rw [h2,kg hv,kg (E:=E) hv]
        ·cases hgo
       ·cases hgo
      ·cases hgo
     ·cases hgo
    ·cases hs
   ·cases hs
  ·cases hs
 ·cases hs
end
end Go.Lr

/- The local evaluator: summaries of methods on a flag that lies in a block of any type. -/
namespace Go.Lr
open Go.RowKit
section
variable {P:Program} {S:FuncId→Option SumK}
end
end Go.Lr

/- Numbers of 64 bits: what the machine's operations come to. Plain. -/
namespace Go.Lr
theorem kw {x:Int} (h0:0≤x) (h1:x<18446744073709551616):u64 x=x:=by unfold u64;omega
theorem q9 {x:Int} (h0: -9223372036854775808≤x) (h1:x<9223372036854775808):w64 x=x:=by unfold w64;omega
theorem zS (x:Int):wr .u64 x=u64 x:=rfl
theorem jls (x:Int):wr .i64 x=w64 x:=rfl
theorem KV:jk (min (Int.toNat 32) IntKind.u64.bits)=4294967296:=by decide
theorem jia:jk (min (Int.toNat 63) IntKind.i64.bits)=9223372036854775808:=by decide
theorem ZU (x:Int) (h0:0≤x) (h1:x<18446744073709551616):Int.ofNat ((u64 x).toNat.land (u64 4294967295).toNat)=x%4294967296:=by
 have e:(u64 4294967295).toNat=2 ^ 32 - 1:=by decide
 rw [kw h0 h1,e]
 show ((x.toNat &&& (2 ^ 32 - 1):Nat):Int)=_
 rw [Nat.and_two_pow_sub_one_eq_mod]
 omega
theorem jjI (x:Int) (h0:0≤x) (h1:x<18446744073709551616):Int.ofNat ((u64 (-1)).toNat.xor (u64 x).toNat)=18446744073709551615 - x:=by
 have e:(u64 (-1)).toNat=(BitVec.allOnes 64).toNat:=by decide
 rw [kw h0 h1,e]
 have hx:x.toNat<2 ^ 64:=by omega
 have h2:(BitVec.ofNat 64 x.toNat).toNat=x.toNat:=by rw [BitVec.toNat_ofNat];exact Nat.mod_eq_of_lt hx
 have h3:(BitVec.allOnes 64).toNat.xor x.toNat=(BitVec.allOnes 64 ^^^ BitVec.ofNat 64 x.toNat).toNat:=by rw [BitVec.toNat_xor,h2];rfl
 have h4:BitVec.allOnes 64 ^^^ BitVec.ofNat 64 x.toNat = ~~~BitVec.ofNat 64 x.toNat:=by rw [BitVec.xor_comm,BitVec.xor_allOnes]
 rw [h3,h4,BitVec.toNat_not,h2]
 show ((2 ^ 64 - 1 - x.toNat:Nat):Int)=_
 omega
theorem jtv (x y:Int) (hx0:0≤x) (hx1:x<18446744073709551616) (hy0:0≤y) (hy1:y<18446744073709551616):
  u64 (u64 (u64 (x/4294967296*(y/4294967296))+u64 (u64 (x/4294967296*(y%4294967296))+u64 (x%4294967296*(y%4294967296))/4294967296)/4294967296) +
   u64 ((u64 (u64 (x/4294967296*(y%4294967296))+u64 (x%4294967296*(y%4294967296))/4294967296))%4294967296+u64 (x%4294967296*(y/4294967296)))/4294967296)=x*y/18446744073709551616:=by
 have hb:∀a b:Int,0≤a→a≤4294967295→0≤b→b≤4294967295→0≤a*b∧a*b≤18446744065119617025:=by
  intro a b h1 h2 h3 h4
  refine ⟨Int.mul_nonneg h1 h3, ?_⟩
  calc a*b≤4294967295*b:=Int.mul_le_mul_of_nonneg_right h2 h3
   _≤4294967295*4294967295:=Int.mul_le_mul_of_nonneg_left h4 (by omega)
   _=18446744065119617025:=by decide
 have hprod:x*y=(x/4294967296*(y/4294967296))*18446744073709551616+((x/4294967296*(y%4294967296))+(x%4294967296*(y/4294967296)))*4294967296+x%4294967296*(y%4294967296):=by
  have ex:x=x/4294967296*4294967296+x%4294967296:=by omega
  have ey:y=y/4294967296*4294967296+y%4294967296:=by omega
  generalize x/4294967296=x1 at *
  generalize x%4294967296=x0 at *
  generalize y/4294967296=y1 at *
  generalize y%4294967296=y0 at *
  rw [ex,ey]
  clear hb ex ey hx0 hx1 hy0 hy1
  grind
 have b1:=hb (x/4294967296) (y/4294967296) (by omega) (by omega) (by omega) (by omega)
 have b2:=hb (x/4294967296) (y%4294967296) (by omega) (by omega) (by omega) (by omega)
 have b3:=hb (x%4294967296) (y/4294967296) (by omega) (by omega) (by omega) (by omega)
 have b4:=hb (x%4294967296) (y%4294967296) (by omega) (by omega) (by omega) (by omega)
 rw [hprod]
 generalize x/4294967296*(y/4294967296)=p11 at *
 generalize x/4294967296*(y%4294967296)=p10 at *
 generalize x%4294967296*(y/4294967296)=p01 at *
 generalize x%4294967296*(y%4294967296)=p00 at *
 clear hprod hb
 rw [kw (x:=p11) (by omega) (by omega),kw (x:=p10) (by omega) (by omega),kw (x:=p00) (by omega) (by omega),kw (x:=p01) (by omega) (by omega)]
 rw [kw (x:=p10+p00/4294967296) (by omega) (by omega)]
 rw [kw (x:=(p10+p00/4294967296)%4294967296+p01) (by omega) (by omega)]
 unfold u64
 omega
end Go.Lr

/- Numbers of 128 bits in two halves: what the operations on the halves come to. Plain. -/
namespace Go.Lr
def wHi (v:Int):Int:=v/18446744073709551616
def wLo (v:Int):Int:=v%18446744073709551616
def jc (h l:Int):Int:=h*18446744073709551616+l
theorem jJ (v:Int):jc (wHi v) (wLo v)=v:=by unfold jc wHi wLo;omega
theorem jlt (x y:Int) (h0:0≤y) (h1:y<18446744073709551616):wHi (jc x y)=x:=by unfold wHi jc;omega
theorem jlu (x y:Int) (h0:0≤y) (h1:y<18446744073709551616):wLo (jc x y)=y:=by unfold wLo jc;omega
theorem qk (v:Int):0≤wLo v∧wLo v<18446744073709551616:=by unfold wLo;omega
theorem jpe (v:Int) (h0:0≤v) (h1:v<340282366920938463463374607431768211456):0≤wHi v∧wHi v<18446744073709551616:=by unfold wHi;omega
theorem kL (v:Int) (h0: -170141183460469231731687303715884105728≤v) (h1:v<170141183460469231731687303715884105728): -9223372036854775808≤wHi v∧wHi v<9223372036854775808:=by unfold wHi;omega
theorem j4 (n:Nat):0<jk n:=by
 have:0<2 ^ n:=Nat.two_pow_pos n
 unfold jk;exact Int.ofNat_lt.2 this
theorem qT (m n:Nat):jk (m+n)=jk m*jk n:=by
 unfold jk;show ((2 ^ (m+n):Nat):Int)=((2 ^ m:Nat):Int)*((2 ^ n:Nat):Int)
 rw [Nat.pow_add];exact Int.natCast_mul _ _
theorem QE (n:Nat):jk (n+1)=2*jk n:=by rw [qT];show jk n*2=_;omega
theorem zZ:jk 64=18446744073709551616:=by decide
theorem jfO {m n:Nat} (h:m≤n):jk m≤jk n:=by
 unfold jk;exact Int.ofNat_le.2 (Nat.pow_le_pow_right (by omega) h)
theorem jbm {m n:Nat} (k:Int) (h:m≤n) (hk:jk n=k):jk m≤k:=hk ▸ jfO h
theorem jlv (a b:Nat) (s:Nat) (hb:b<2 ^ s):(2 ^ s*a).lor b=2 ^ s*a+b:=(Nat.two_pow_add_eq_or_of_lt hb a).symm
theorem jbn (a b:Int) (s:Nat) (ha:0≤a) (hb0:0≤b) (hb1:b<jk s) (hs:a*jk s+b<18446744073709551616):
  Int.ofNat ((u64 (a*jk s)).toNat.lor (u64 b).toNat)=a*jk s+b∧Int.ofNat ((u64 b).toNat.lor (u64 (a*jk s)).toNat)=a*jk s+b:=by
 obtain ⟨A,rfl⟩:=Int.eq_ofNat_of_zero_le ha
 obtain ⟨B,rfl⟩:=Int.eq_ofNat_of_zero_le hb0
 have hp:jk s=((2 ^ s:Nat):Int):=rfl
 rw [hp] at hb1 hs ⊢
 have hB:B<2 ^ s:=Int.ofNat_lt.1 hb1
 have e1:(A:Int)*((2 ^ s:Nat):Int)=((2 ^ s*A:Nat):Int):=by rw [Nat.mul_comm];exact (Int.natCast_mul _ _).symm
 rw [e1] at hs ⊢
 have l1:=jlv A B s hB
 generalize 2 ^ s*A=M at *
 rw [kw (by omega) (by omega),kw (by omega) (by omega)]
 simp only [Int.toNat_natCast]
 have l2:B.lor M=M+B:=by
  rw [←l1];exact Nat.or_comm _ _
 rw [l1,l2]
 exact ⟨Int.natCast_add _ _,Int.natCast_add _ _⟩
theorem qG {a k n r:Int} (h:a=k*n+r) (h0:0≤r) (h1:r<n):a%n=r:=by
 rw [h,Int.add_comm,Int.add_mul_emod_self_right];exact Int.emod_eq_of_lt h0 h1
theorem z0 {a k n r:Int} (h:a=k*n+r) (h0:0≤r) (h1:r<n):a/n=k:=by
 rw [h,Int.add_comm,Int.add_mul_ediv_right _ _ (by omega),Int.ediv_eq_zero_of_lt h0 h1];omega
theorem jjJ (x y p q:Int) (hq:0<q) (hp:0<p) (hpq:p*q=18446744073709551616) (hy0:0≤y) (hy1:y<18446744073709551616):
  wHi (jc x y*p%340282366920938463463374607431768211456)=(x%q)*p+y/q∧wLo (jc x y*p%340282366920938463463374607431768211456)=(y%q)*p∧
  u64 (x*p)=(x%q)*p∧u64 (y*p)=(y%q)*p∧0≤y/q∧y/q<p∧(x%q)*p+y/q<18446744073709551616∧0≤x%q:=by
 have hx:=Int.emod_add_mul_ediv x q
 have hy:=Int.emod_add_mul_ediv y q
 have x0:=Int.emod_nonneg x (show q≠0 by omega)
 have x1:=Int.emod_lt_of_pos x hq
 have y0:=Int.emod_nonneg y (show q≠0 by omega)
 have y1:=Int.emod_lt_of_pos y hq
 have d0:0≤y/q:=Int.ediv_nonneg hy0 (by omega)
 have d1:y/q<p:=Int.ediv_lt_of_lt_mul hq (by rw [hpq];exact hy1)
 generalize x%q=a at *
 generalize x/q=b at *
 generalize y%q=c at *
 generalize y/q=d at *
 have ha:a*p≤18446744073709551616 - p:=by
  have:a*p≤(q - 1)*p:=Int.mul_le_mul_of_nonneg_right (by omega) (by omega)
  have e:(q - 1)*p=p*q - p:=by grind
  omega
 have hc:c*p≤18446744073709551616 - p:=by
  have:c*p≤(q - 1)*p:=Int.mul_le_mul_of_nonneg_right (by omega) (by omega)
  have e:(q - 1)*p=p*q - p:=by grind
  omega
 have ha0:0≤a*p:=Int.mul_nonneg x0 (by omega)
 have hc0:0≤c*p:=Int.mul_nonneg y0 (by omega)
 have e1:jc x y*p=b*340282366920938463463374607431768211456+((a*p+d)*18446744073709551616+c*p):=by
  unfold jc
  rw [←hx,←hy]
  have e:(340282366920938463463374607431768211456:Int)=(p*q)*(p*q):=by rw [hpq];rfl
  rw [e,←hpq]
  grind
 have e2:jc x y*p%340282366920938463463374607431768211456=(a*p+d)*18446744073709551616+c*p:=qG e1 (by omega) (by omega)
 rw [e2]
 refine ⟨by unfold wHi;omega,by unfold wLo;omega, ?_, ?_,d0,d1,by omega,x0⟩
 ·refine qG (k:=b) ?_ (by omega) (by omega)
  rw [←hx,←hpq];grind
 ·refine qG (k:=d) ?_ (by omega) (by omega)
  rw [←hy,←hpq];grind
theorem jpf (x y p q:Int) (hq:0<q) (hp:0<p) (hpq:p*q=18446744073709551616) (hy0:0≤y) (hy1:y<18446744073709551616):
  wHi (jc x y/p)=x/p∧wLo (jc x y/p)=(x%p)*q+y/p∧u64 (x*q)=(x%p)*q∧0≤y/p∧y/p<q∧(x%p)*q+y/p<18446744073709551616∧0≤x%p:=by
 have hx:=Int.emod_add_mul_ediv x p
 have hy:=Int.emod_add_mul_ediv y p
 have x0:=Int.emod_nonneg x (show p≠0 by omega)
 have x1:=Int.emod_lt_of_pos x hp
 have y0:=Int.emod_nonneg y (show p≠0 by omega)
 have y1:=Int.emod_lt_of_pos y hp
 have d0:0≤y/p:=Int.ediv_nonneg hy0 (by omega)
 have d1:y/p<q:=Int.ediv_lt_of_lt_mul hp (by rw [Int.mul_comm,hpq];exact hy1)
 generalize x%p=a at *
 generalize x/p=b at *
 generalize y%p=c at *
 generalize y/p=d at *
 have ha:a*q≤18446744073709551616 - q:=by
  have:a*q≤(p - 1)*q:=Int.mul_le_mul_of_nonneg_right (by omega) (by omega)
  have e:(p - 1)*q=p*q - q:=by grind
  omega
 have ha0:0≤a*q:=Int.mul_nonneg x0 (by omega)
 have e1:jc x y=(b*18446744073709551616+(a*q+d))*p+c:=by
  unfold jc
  rw [←hx,←hy,←hpq]
  grind
 have e2:jc x y/p=b*18446744073709551616+(a*q+d):=z0 e1 y0 y1
 rw [e2]
 refine ⟨by unfold wHi;omega,by unfold wLo;omega, ?_,d0,d1,by omega,x0⟩
 refine qG (k:=b) ?_ (by omega) (by omega)
 rw [←hx,←hpq];grind
end Go.Lr

/- The scalars' operations in numbers: clamping, rounding, dividing, roots. Plain. -/
namespace Go.Lr
def jh (a:Int):Int:=if a<0 then -a else a
def sgn (neg:Bool) (x:Int):Int:=if neg then -x else x
theorem xt (a:Int):0≤jh a:=by unfold jh;split <;> omega
theorem zD {a:Int} (h:0≤a):jh a=a:=by unfold jh;rw [if_neg (by omega)]
theorem jlz (a:Int):jh a=a.natAbs:=by unfold jh;split <;> omega
theorem YH (a b:Int):jh (a*b)=jh a*jh b:=by
 simp only [jlz,Int.natAbs_mul];exact Int.natCast_mul _ _
theorem jbu (a:Int):jh (-a)=jh a:=by unfold jh;split <;> split <;> omega
theorem jfV (a:Int):sgn (decide (a<0)) (jh a)=a:=by
 unfold sgn jh;by_cases h:a<0 <;> simp [h]
theorem jfW (a b:Int):sgn (!(decide (a<0)==decide (b<0))) (jh a*jh b)=a*b:=by
 have hnn: -a * -b=a*b:=by grind
 have hn1: -(-a*b)=a*b:=by grind
 have hn2: -(a * -b)=a*b:=by grind
 unfold sgn jh
 by_cases h:a<0 <;> by_cases k:b<0 <;> simp only [h,k,decide_true,decide_false,if_true,if_false] <;> simp [hnn,hn1,hn2]
def jif (s:Nat):Int:=match s with
 | 0=>0
 | n+1=>jk n
def kZ (v:Int) (s:Nat):Int:=sgn (decide (v<0)) ((jh v+jif s)/jk s)
def jdT (a b:Int):Int:=if a%b≥b - a%b then a/b+1 else a/b
def yh (w d:Int):Int:=sgn (!(decide (w<0)==decide (d<0))) (jdT (jh w) (jh d))
theorem YI {a b k l:Int} (ha:jh a≤k) (hb:jh b≤l): -(k*l)≤a*b∧a*b≤k*l:=by
 have h0:=xt a
 have h1:=xt b
 have h2:jh a*jh b≤k*l:=Int.mul_le_mul ha hb h1 (by omega)
 rw [←YH] at h2
 have h3:=jfV (a*b)
 unfold jh at h2
 split at h2 <;> omega
def rtL:Nat→Int→Int→Int×Int
 | 0,p,r=>(p,r)
 | k+1,p,r=>match decide (p<r+jk (2*k)) with
  | true=>rtL k p (r/2)
  | false=>rtL k (p - (r+jk (2*k))) (r/2+jk (2*k))
def kf (v:Int):Int:=match rtL 64 v 0 with
 | (p,r)=>if r<p then r+1 else r
def RtInv (N:Int) (m:Nat) (p r:Int):Prop:=
 ∃Q:Int,0≤Q∧r=Q*jk m∧p=N - Q*Q∧Q*Q≤N∧N<(Q+jk m)*(Q+jk m)∧(Q=0∨jk m≤Q)
theorem jc2 (m:Nat):jk (2*m)=jk m*jk m:=by rw [Nat.two_mul,qT]
theorem RtInv.half {N:Int} {m:Nat} {p r:Int} (h:RtInv N (m+1) p r) (hlt:p<r+jk (2*m)):RtInv N m p (r/2):=by
 obtain ⟨Q,h0,rfl,rfl,h3,h4,h5⟩:=h
 have hp:=j4 m
 have hs:=QE m
 rw [jc2] at hlt
 rw [hs] at hlt h4 h5 ⊢
 have e:Q*(2*jk m)=2*(Q*jk m):=by grind
 refine ⟨Q,h0,by rw [e];omega,rfl,h3, ?_,by omega⟩
 have e2:(Q+jk m)*(Q+jk m)=Q*Q+2*(Q*jk m)+jk m*jk m:=by grind
 rw [e2];omega
theorem RtInv.take {N:Int} {m:Nat} {p r:Int} (h:RtInv N (m+1) p r) (hge:¬p<r+jk (2*m)):RtInv N m (p - (r+jk (2*m))) (r/2+jk (2*m)):=by
 obtain ⟨Q,h0,rfl,rfl,h3,h4,h5⟩:=h
 have hp:=j4 m
 have hs:=QE m
 rw [jc2] at hge ⊢
 rw [hs] at hge h4 h5 ⊢
 have e:Q*(2*jk m)=2*(Q*jk m):=by grind
 have e2:(Q+jk m)*(Q+jk m)=Q*Q+2*(Q*jk m)+jk m*jk m:=by grind
 have e3:(Q+jk m)*jk m=Q*jk m+jk m*jk m:=by grind
 have e4:(Q+jk m+jk m)*(Q+jk m+jk m)=(Q+2*jk m)*(Q+2*jk m):=by grind
 rw [e] at hge ⊢
 refine ⟨Q+jk m,by omega,by rw [e3];omega,by rw [e2];omega,by rw [e2];omega,by rw [e4];exact h4,by omega⟩
theorem RtInv.bd {N:Int} {m:Nat} {p r:Int} (h:RtInv N m p r):0≤p∧p≤N∧0≤r∧r≤N:=by
 obtain ⟨Q,h0,rfl,rfl,h3,h4,h5⟩:=h
 have hp:=j4 m
 have hq:0≤Q*Q:=Int.mul_nonneg h0 h0
 refine ⟨by omega,by omega,Int.mul_nonneg h0 (by omega), ?_⟩
 rcases h5 with rfl | h5
 ·omega
 ·have:Q*jk m≤Q*Q:=Int.mul_le_mul_of_nonneg_left h5 h0
  omega
theorem RtInv.start {N:Int} (h0:0≤N) (h1:N<340282366920938463463374607431768211456):RtInv N 64 N 0:=by
 refine ⟨0,by omega,by omega,by omega,by omega, ?_,.inl rfl⟩
 have:jk 64=18446744073709551616:=zZ
 rw [this];omega
theorem RtInv.run {N:Int}:∀{m:Nat} {p r:Int},RtInv N m p r→RtInv N 0 (rtL m p r).1 (rtL m p r).2
 | 0,p,r,h=>h
 | m+1,p,r,h=>by
  simp only [rtL]
  by_cases hlt:p<r+jk (2*m)
  ·rw [decide_eq_true hlt];exact (h.half hlt).run
  ·rw [decide_eq_false hlt];exact (h.take hlt).run
theorem XR {N:Int} (h0:0≤N) (h1:N<340282366920938463463374607431768211456):
  0≤kf N∧N≤kf N*kf N+kf N∧(kf N=0∨kf N*kf N - kf N+1≤N):=by
 have h:=(RtInv.start h0 h1).run
 unfold kf
 generalize rtL 64 N 0=q at h ⊢
 obtain ⟨p,r⟩:=q
 obtain ⟨Q,a0,a1,a2,a3,a4,-⟩:=h
 simp only at a1 a2 ⊢
 have e1:jk 0=1:=rfl
 rw [e1,Int.mul_one] at a1
 rw [e1] at a4
 have a1':Q=r:=a1.symm
 subst a1'
 subst a2
 have e2:(Q+1)*(Q+1)=Q*Q+2*Q+1:=by grind
 have hq:0≤Q*Q:=Int.mul_nonneg a0 a0
 split
 ·refine ⟨by omega,by rw [e2];omega,.inr (by rw [e2];omega)⟩
 ·refine ⟨a0,by omega, ?_⟩
  by_cases h':Q=0
  ·exact .inl h'
  ·right;omega
end Go.Lr

/- This seat's program: what the evaluator leans on; math/bits' two that the model answers. -/
namespace Go.Proofs.YtbpfipbhaagllaaGreat
open Go.Lr
theorem jrC:(Tryz.prog.funcs.toList.all fun fn=>fn.name != "runtime.NumGoroutine")=true:=by kernel_rfl
theorem ng:∀(f:FuncId) (fn:Func),Tryz.prog.funcs[f]? = some fn→fn.name≠ "runtime.NumGoroutine":=by
 intro f fn h
 have:=List.all_eq_true.1 jrC fn (by
  have h':Tryz.prog.funcs.toList[f]? = some fn:=by simpa using h
  exact List.mem_of_getElem? h')
 simpa using this
theorem mix:Tryz.prog.follows .mixedOrders=true:=by kernel_rfl
theorem jhi:SumOK Tryz.prog 181 (jq jrb):=jir Tryz.func181 (by kernel_rfl) (by kernel_rfl) (by kernel_rfl) (by kernel_rfl)
theorem jhj:SumOK Tryz.prog 216 (jq jrc):=jis Tryz.func216 (by kernel_rfl) (by kernel_rfl) (by kernel_rfl) (by kernel_rfl)
def S0:FuncId→Option SumK:=more (more (fun _=>none) 181 (jq jrb)) 216 (jq jrc)
theorem sound0:Sound Tryz.prog S0:=((Sound.none mix ng).more jhi).more jhj
def Zl:Md:=⟨false,true,false⟩
def Za:Md:=⟨false,true,true⟩
def I (n:Int):LV:= .v (.one (.int .i64 n))
def B (b:Bool):LV:= .v (.one (.bool b))
end Go.Proofs.YtbpfipbhaagllaaGreat

/- fx: Clamp, Sat; astrolabelaw2's awake. -/
namespace Go.Proofs.YtbpfipbhaagllaaGreat
open Go.Lr
def jw (a lo hi:Int):Int:=if lo>hi then lo else if a<lo then lo else if a>hi then hi else a
def jx (a lo hi:Int):Bool:=decide (lo>hi)||decide (a<lo)||decide (a>hi)
def jcu:List LV→Bool→Option (LV×Bool×List (Bool×Bool))
 | [.v (.one (.int .i64 a)),.v (.one (.int .i64 lo)),.v (.one (.int .i64 hi))],h=>some (I (jw a lo hi),h||jx a lo hi,[])
 | _,_=>none
abbrev kU (r:LV×Mem×Nat×List (Bool×Bool)):=(r.1,getM r.2.1 0,r.2.2.2)
theorem jnx (a lo hi:Int) (h:Bool):(jG Tryz.prog S0 Zl 200 72 [A0,I a,I lo,I hi] [(0,flag 63 h)] 1 [some true]).map kU=some (I lo,some (flag 63 true),[(decide (lo>hi),true)]):=by kernel_rfl
theorem jny (a lo hi:Int) (h:Bool):(jG Tryz.prog S0 Zl 200 72 [A0,I a,I lo,I hi] [(0,flag 63 h)] 1 [some false,some true]).map kU=some (I lo,some (flag 63 true),[(decide (a<lo),true),(decide (lo>hi),false)]):=by kernel_rfl
theorem jnz (a lo hi:Int) (h:Bool):(jG Tryz.prog S0 Zl 200 72 [A0,I a,I lo,I hi] [(0,flag 63 h)] 1 [some false,some false,some true]).map kU=some (I hi,some (flag 63 true),[(decide (a>hi),true),(decide (a<lo),false),(decide (lo>hi),false)]):=by kernel_rfl
theorem jnA (a lo hi:Int) (h:Bool):(jG Tryz.prog S0 Zl 200 72 [A0,I a,I lo,I hi] [(0,flag 63 h)] 1 [some false,some false,some false]).map kU=some (I a,some (flag 63 h),[(decide (a>hi),false),(decide (a<lo),false),(decide (lo>hi),false)]):=by kernel_rfl
theorem jcv:SumOK Tryz.prog 72 (js 63 jcu):=by
 refine jF (z:=Zl) sound0 (jl sound0 Tryz.func72 (by kernel_rfl)) fun args hb v h' cs hF _=> ?_
 unfold jcu at hF
 split at hF
 ·rename_i a lo hi
  cases hF
  refine ⟨rfl, ?_⟩
  by_cases h1:lo>hi
  ·rw [show jw a lo hi=lo by simp [jw,h1],show (hb||jx a lo hi)=true by simp [jx,h1]]
   exact ⟨200,[some true],_,jnx a lo hi hb,by simp [h1]⟩
  ·by_cases h2:a<lo
   ·rw [show jw a lo hi=lo by simp [jw,h2],show (hb||jx a lo hi)=true by simp [jx,h2]]
    exact ⟨200,[some false,some true],_,jny a lo hi hb,by simp [h2];omega⟩
   ·by_cases h3:a>hi
    ·rw [show jw a lo hi=hi by simp [jw,h1,h2,h3],show (hb||jx a lo hi)=true by simp [jx,h3]]
     exact ⟨200,[some false,some false,some true],_,jnz a lo hi hb,by simp [h3];omega⟩
    ·rw [show jw a lo hi=a by simp [jw,h1,h2,h3],show (hb||jx a lo hi)=hb by simp [jx,h1,h2,h3]]
     exact ⟨200,[some false,some false,some false],_,jnA a lo hi hb,by simp;omega⟩
 ·cases hF
def S2:FuncId→Option SumK:=more S0 72 (js 63 jcu)
theorem jjv:Sound Tryz.prog S2:=sound0.more jcv
def jf (a:Int):Int:=jw a (-1152921504606846976) 1152921504606846976
def jL (a:Int):Bool:=jx a (-1152921504606846976) 1152921504606846976
def jr3:List LV→Bool→Option (LV×Bool×List (Bool×Bool))
 | [.v (.one (.int .i64 a))],h=>some (I (jf a),h||jL a,[])
 | _,_=>none
theorem jvt (a:Int) (h:Bool):(jG Tryz.prog S2 Zl 200 73 [A0,I a] [(0,flag 63 h)] 1 []).map kU=some (I (jf a),some (flag 63 (h||jL a)),[]):=by kernel_rfl
theorem jnB:SumOK Tryz.prog 73 (js 63 jr3):=by
 refine jF (z:=Zl) jjv (jl jjv Tryz.func73 (by kernel_rfl)) fun args hb v h' cs hF _=> ?_
 unfold jr3 at hF
 split at hF
 ·rename_i a
  cases hF
  exact ⟨rfl,200,[],_,jvt a hb,by simp⟩
 ·cases hF
end Go.Proofs.YtbpfipbhaagllaaGreat

/- math/bits.Mul64, wide.Of, wide.Mul, by their runs. -/
namespace Go.Proofs.YtbpfipbhaagllaaGreat
open Go.Lr
theorem jiW (x y:Int):(jG Tryz.prog S0 Zl 200 124 [.v (.one (.int .u64 x)),.v (.one (.int .u64 y))] [] 0 []).map (fun r=>(r.1,r.2.2.2))=some (LV.tup [V1.one (At.int IntKind.u64 (wr IntKind.u64 (wr IntKind.u64 (wr IntKind.u64 (x/jk (min (Int.toNat 32) IntKind.u64.bits)*(y/jk (min (Int.toNat 32) IntKind.u64.bits)))+wr IntKind.u64 (wr IntKind.u64 (x/jk (min (Int.toNat 32) IntKind.u64.bits)*Int.ofNat ((u64 y).toNat.land (u64 4294967295).toNat))+wr IntKind.u64 (Int.ofNat ((u64 x).toNat.land (u64 4294967295).toNat)*Int.ofNat ((u64 y).toNat.land (u64 4294967295).toNat))/jk (min (Int.toNat 32) IntKind.u64.bits))/jk (min (Int.toNat 32) IntKind.u64.bits))+wr IntKind.u64 (Int.ofNat ((u64 (wr IntKind.u64 (wr IntKind.u64 (x/jk (min (Int.toNat 32) IntKind.u64.bits)*Int.ofNat ((u64 y).toNat.land (u64 4294967295).toNat))+wr IntKind.u64 (Int.ofNat ((u64 x).toNat.land (u64 4294967295).toNat)*Int.ofNat ((u64 y).toNat.land (u64 4294967295).toNat))/jk (min (Int.toNat 32) IntKind.u64.bits)))).toNat.land (u64 4294967295).toNat)+wr IntKind.u64 (Int.ofNat ((u64 x).toNat.land (u64 4294967295).toNat)*(y/jk (min (Int.toNat 32) IntKind.u64.bits))))/jk (min (Int.toNat 32) IntKind.u64.bits)))),V1.one (At.int IntKind.u64 (wr IntKind.u64 (x*y)))],[]):=by kernel_rfl
def isU (x:Int):Bool:=decide (0≤x)&&decide (x<18446744073709551616)
def isI (x:Int):Bool:=decide (-9223372036854775808≤x)&&decide (x<9223372036854775808)
theorem isU_iff {x:Int}:isU x=true↔0≤x∧x<18446744073709551616:=by simp [isU]
theorem isI_iff {x:Int}:isI x=true↔ -9223372036854775808≤x∧x<9223372036854775808:=by simp [isI]
def jgT:List LV→Option (LV×List (Bool×Bool))
 | [.v (.one (.int .u64 x)),.v (.one (.int .u64 y))]=>some (.tup [.one (.int .u64 (x*y/18446744073709551616)),.one (.int .u64 (x*y%18446744073709551616))],[(isU x,true),(isU y,true)])
 | _=>none
theorem jiX:SumOK Tryz.prog 124 (jq jgT):=by
 refine jC (z:=Zl) sound0 (jl sound0 Tryz.func124 (by kernel_rfl)) fun args v cs hF hc=> ?_
 unfold jgT at hF
 split at hF
 ·rename_i x y
  cases hF
  obtain ⟨hx0,hx1⟩:=isU_iff.1 (hc (isU x,true) (by simp))
  obtain ⟨hy0,hy1⟩:=isU_iff.1 (hc (isU y,true) (by simp))
  have h:=jiW x y
  simp only [zS,KV] at h
  have hm:0≤u64 (u64 (x/4294967296*Int.ofNat ((u64 y).toNat.land (u64 4294967295).toNat))+u64 (Int.ofNat ((u64 x).toNat.land (u64 4294967295).toNat)*Int.ofNat ((u64 y).toNat.land (u64 4294967295).toNat))/4294967296)∧
    u64 (u64 (x/4294967296*Int.ofNat ((u64 y).toNat.land (u64 4294967295).toNat))+u64 (Int.ofNat ((u64 x).toNat.land (u64 4294967295).toNat)*Int.ofNat ((u64 y).toNat.land (u64 4294967295).toNat))/4294967296)<18446744073709551616:=by
   generalize u64 (x/4294967296*Int.ofNat ((u64 y).toNat.land (u64 4294967295).toNat))+u64 (Int.ofNat ((u64 x).toNat.land (u64 4294967295).toNat)*Int.ofNat ((u64 y).toNat.land (u64 4294967295).toNat))/4294967296=t
   unfold u64;omega
  rw [ZU _ hm.1 hm.2,ZU x hx0 hx1,ZU y hy0 hy1,jtv x y hx0 hx1 hy0 hy1] at h
  exact ⟨200,[],[],h,by simp⟩
 ·cases hF
def W1 (v:Int):V1:= .agg [.int .i64 (wHi v),.int .u64 (wLo v)]
def S4:FuncId→Option SumK:=more S0 124 (jq jgT)
theorem sound4:Sound Tryz.prog S4:=sound0.more jiX
end Go.Proofs.YtbpfipbhaagllaaGreat

/- wide's helpers: abs64, signed, by their runs. -/
namespace Go.Proofs.YtbpfipbhaagllaaGreat
open Go.Lr
theorem jpQ (x y:Int):(jG Tryz.prog S4 Za 200 126 [.v (.agg [.int .u64 x,.int .u64 y]),B false] [] 0 []).map (fun r=>(r.1,r.2.2.2))=some (LV.tup [V1.agg [At.int .i64 (wr .i64 x),At.int IntKind.u64 y],V1.one (At.bool (x/jk (min (Int.toNat 63) IntKind.u64.bits)==0))],[]):=by kernel_rfl
theorem jpR (x y:Int):(jG Tryz.prog S4 Za 200 126 [.v (.agg [.int .u64 x,.int .u64 y]),B true] [] 0 [none]).map (fun r=>(r.1,r.2.2.2))=some (LV.tup [V1.agg [At.int .i64 (wr .i64 (wr IntKind.u64 (Int.ofNat ((u64 (-1)).toNat.xor (u64 x).toNat)+(Int.ofNat ((u64 (-1)).toNat.xor (u64 y).toNat)+1+0)/18446744073709551616))),At.int IntKind.u64 (u64 (Int.ofNat ((u64 (-1)).toNat.xor (u64 y).toNat)+1+0))],V1.one (At.bool (x==0&&(y==0&&true)))],[(decide (wr .i64 (wr IntKind.u64 (Int.ofNat ((u64 (-1)).toNat.xor (u64 x).toNat)+(Int.ofNat ((u64 (-1)).toNat.xor (u64 y).toNat)+1+0)/18446744073709551616))<0),false),(decide (wr .i64 (wr IntKind.u64 (Int.ofNat ((u64 (-1)).toNat.xor (u64 x).toNat)+(Int.ofNat ((u64 (-1)).toNat.xor (u64 y).toNat)+1+0)/18446744073709551616))<0),false),(decide (wr .i64 (wr IntKind.u64 (Int.ofNat ((u64 (-1)).toNat.xor (u64 x).toNat)+(Int.ofNat ((u64 (-1)).toNat.xor (u64 y).toNat)+1+0)/18446744073709551616))<0),false),(decide (wr .i64 (wr IntKind.u64 (Int.ofNat ((u64 (-1)).toNat.xor (u64 x).toNat)+(Int.ofNat ((u64 (-1)).toNat.xor (u64 y).toNat)+1+0)/18446744073709551616))<0),false),(decide (0≤Int.ofNat ((u64 (-1)).toNat.xor (u64 y).toNat))&&(decide (0≤1)&&(decide (0≤0)&&decide (0≤1))),true)]):=by kernel_rfl
theorem jpS (x y:Int):(jG Tryz.prog S4 Za 200 126 [.v (.agg [.int .u64 x,.int .u64 y]),B true] [] 0 [none,some true,some true,some true,some true,some true]).map (fun r=>(r.1,r.2.2.2))=some (LV.tup [V1.agg [At.int .i64 (wr .i64 (wr IntKind.u64 (Int.ofNat ((u64 (-1)).toNat.xor (u64 x).toNat)+(Int.ofNat ((u64 (-1)).toNat.xor (u64 y).toNat)+1+0)/18446744073709551616))),At.int IntKind.u64 (u64 (Int.ofNat ((u64 (-1)).toNat.xor (u64 y).toNat)+1+0))],V1.one (At.bool true)],[(decide (wr .i64 (wr IntKind.u64 (Int.ofNat ((u64 (-1)).toNat.xor (u64 x).toNat)+(Int.ofNat ((u64 (-1)).toNat.xor (u64 y).toNat)+1+0)/18446744073709551616))<0),true),(decide (wr .i64 (wr IntKind.u64 (Int.ofNat ((u64 (-1)).toNat.xor (u64 x).toNat)+(Int.ofNat ((u64 (-1)).toNat.xor (u64 y).toNat)+1+0)/18446744073709551616))<0),true),(decide (wr .i64 (wr IntKind.u64 (Int.ofNat ((u64 (-1)).toNat.xor (u64 x).toNat)+(Int.ofNat ((u64 (-1)).toNat.xor (u64 y).toNat)+1+0)/18446744073709551616))<0),true),(decide (wr .i64 (wr IntKind.u64 (Int.ofNat ((u64 (-1)).toNat.xor (u64 x).toNat)+(Int.ofNat ((u64 (-1)).toNat.xor (u64 y).toNat)+1+0)/18446744073709551616))<0),true),(decide (0≤Int.ofNat ((u64 (-1)).toNat.xor (u64 y).toNat))&&(decide (0≤1)&&(decide (0≤0)&&decide (0≤1))),true)]):=by kernel_rfl
theorem jpT (a:Int):(jG Tryz.prog S4 Zl 200 125 [I a] [] 0 [some true]).map (fun r=>(r.1,r.2.2.2))=some (LV.v (V1.one (At.int IntKind.u64 (wr IntKind.u64 (0 - wr IntKind.u64 a)))),[(decide (a<0),true)]):=by kernel_rfl
theorem jpU (a:Int):(jG Tryz.prog S4 Zl 200 125 [I a] [] 0 [some false]).map (fun r=>(r.1,r.2.2.2))=some (LV.v (V1.one (At.int IntKind.u64 (wr IntKind.u64 a))),[(decide (a<0),false)]):=by kernel_rfl
def jur:List LV→Option (LV×List (Bool×Bool))
 | [.v (.one (.int .i64 a))]=>some (.v (.one (.int .u64 (jh a))),[(isI a,true)])
 | _=>none
theorem jiY:SumOK Tryz.prog 125 (jq jur):=by
 refine jC (z:=Zl) sound4 (jl sound4 Tryz.func125 (by kernel_rfl)) fun args v cs hF hc=> ?_
 unfold jur at hF
 split at hF
 ·rename_i a
  cases hF
  obtain ⟨h0,h1⟩:=isI_iff.1 (hc (isI a,true) (by simp))
  by_cases ha:a<0
  ·rw [show jh a = -a from if_pos ha]
   have h:=jpT a
   rw [show wr .u64 (0 - wr .u64 a) = -a by simp only [zS];unfold u64;omega] at h
   exact ⟨200,[some true],_,h,by simp [ha]⟩
  ·rw [show jh a=a from if_neg ha]
   have h:=jpU a
   rw [show wr .u64 a=a by simp only [zS];unfold u64;omega] at h
   exact ⟨200,[some false],_,h,by simp;omega⟩
 ·cases hF
def isW (v:Int):Bool:=decide (-170141183460469231731687303715884105728≤v)&&decide (v<170141183460469231731687303715884105728)
def jce:List LV→Option (LV×List (Bool×Bool))
 | [.v (.agg [.int .u64 x,.int .u64 y]),.v (.one (.bool neg))]=>
  some (.tup [.agg [.int .i64 (w64 (wHi (sgn neg (jc x y)))),.int .u64 (wLo (sgn neg (jc x y)))],.one (.bool (isW (sgn neg (jc x y))))],[(isU x,true),(isU y,true)])
 | _=>none
theorem sgL {a a' b b':Int} {c c':Bool} (cs:List (Bool×Bool)) (h1:a=a') (h2:b=b') (h3:c=c'):
  some (LV.tup [V1.agg [At.int .i64 a,At.int .u64 b],V1.one (At.bool c)],cs)=some (LV.tup [V1.agg [At.int .i64 a',At.int .u64 b'],V1.one (At.bool c')],cs):=by
 subst h1;subst h2;subst h3;rfl
theorem isW_iff {v:Int}:isW v=true↔ -170141183460469231731687303715884105728≤v∧v<170141183460469231731687303715884105728:=by simp [isW]
theorem jj5 (x y:Int):
  u64 (18446744073709551615 - y+1+0)=wLo (-(jc x y)):=by unfold u64 wLo jc;omega
theorem jj6 (x y:Int):
  w64 (u64 (18446744073709551615 - x+(18446744073709551615 - y+1+0)/18446744073709551616))=w64 (wHi (-(jc x y))):=by unfold w64 u64 wHi jc;omega
theorem jpV (x y:Int) (hx0:0≤x) (hx1:x<18446744073709551616) (h0:0≤y) (h1:y<18446744073709551616)
  (h:w64 (wHi (-(jc x y)))<0): -170141183460469231731687303715884105728≤ -(jc x y)∧ -(jc x y)<170141183460469231731687303715884105728:=by
 revert h;unfold w64 wHi jc;omega
theorem jpW (x y:Int) (hx0:0≤x) (hx1:x<18446744073709551616) (h0:0≤y) (h1:y<18446744073709551616)
  (h:¬w64 (wHi (-(jc x y)))<0):(-170141183460469231731687303715884105728≤ -(jc x y)∧ -(jc x y)<170141183460469231731687303715884105728)↔(x=0∧y=0):=by
 revert h;unfold w64 wHi jc;omega
theorem jpX (x y:Int) (hx0:0≤x) (hx1:x<18446744073709551616) (h0:0≤y) (h1:y<18446744073709551616):
  x/9223372036854775808=0↔(-170141183460469231731687303715884105728≤jc x y∧jc x y<170141183460469231731687303715884105728):=by
 unfold jc;omega
theorem jgU:SumOK Tryz.prog 126 (jq jce):=by
 refine jC (z:=Za) sound4 (jl sound4 Tryz.func126 (by kernel_rfl)) fun args v cs hF hc=> ?_
 unfold jce at hF
 split at hF
 ·rename_i x y neg
  cases hF
  obtain ⟨hx0,hx1⟩:=isU_iff.1 (hc (isU x,true) (by simp))
  obtain ⟨hy0,hy1⟩:=isU_iff.1 (hc (isU y,true) (by simp))
  cases neg with
  | false=>
   have h:=jpQ x y
   refine ⟨200,[],[],h.trans (sgL [] ?_ ?_ ?_),by simp⟩
   ·show w64 x=w64 (wHi (jc x y));rw [jlt x y hy0 hy1]
   ·show y=wLo (jc x y);rw [jlu x y hy0 hy1]
   ·show (x/9223372036854775808==0)=isW (jc x y)
    rw [Bool.eq_iff_iff,isW_iff,beq_iff_eq]
    exact jpX x y hx0 hx1 hy0 hy1
  | true=>
   have hs:sgn true (jc x y) = -(jc x y):=rfl
   rw [hs]
   by_cases hn:w64 (wHi (-(jc x y)))<0
   ·have h:=jpS x y
    simp only [zS,jls,jjI x hx0 hx1,jjI y hy0 hy1,jj6 x y,jj5 x y] at h
    refine ⟨200,_,_,h.trans (sgL _ rfl rfl ?_), ?_⟩
    ·symm;exact isW_iff.2 (jpV x y hx0 hx1 hy0 hy1 hn)
    ·simp [hn];omega
   ·have h:=jpR x y
    simp only [zS,jls,jjI x hx0 hx1,jjI y hy0 hy1,jj6 x y,jj5 x y] at h
    refine ⟨200,_,_,h.trans (sgL _ rfl rfl ?_), ?_⟩
    ·show (x==0&&(y==0&&true))=isW (-(jc x y))
     rw [Bool.eq_iff_iff,isW_iff,jpW x y hx0 hx1 hy0 hy1 hn];simp
    ·simp [hn];omega
 ·cases hF
def S5:FuncId→Option SumK:=more (more S4 125 (jq jur)) 126 (jq jce)
theorem qD:Sound Tryz.prog S5:=(sound4.more jiY).more jgU
end Go.Proofs.YtbpfipbhaagllaaGreat

/- wide: the small functions, by every path of their runs (printed by contract.py). -/
namespace Go.Proofs.YtbpfipbhaagllaaGreat
open Go.Lr
theorem jpY (x y:Int):(jG Tryz.prog S5 Zl 2000 128 [.v (.agg [.int .i64 x,.int .u64 y])] [] 0 [some true]).map (fun r=>(r.1,r.2.2.2))=some (LV.tup [V1.agg [At.int IntKind.u64 (wr IntKind.u64 x),At.int IntKind.u64 y],V1.one (At.bool false)],[(decide (x≥0),true)]):=by kernel_rfl
theorem jpZ (x y:Int):(jG Tryz.prog S5 Zl 2000 128 [.v (.agg [.int .i64 x,.int .u64 y])] [] 0 [some false]).map (fun r=>(r.1,r.2.2.2))=some (LV.tup [V1.agg [At.int IntKind.u64 (wr IntKind.u64 (Int.ofNat ((u64 (-1)).toNat.xor (u64 (wr IntKind.u64 x)).toNat)+(Int.ofNat ((u64 (-1)).toNat.xor (u64 y).toNat)+1+0)/18446744073709551616)),At.int IntKind.u64 (u64 (Int.ofNat ((u64 (-1)).toNat.xor (u64 y).toNat)+1+0))],V1.one (At.bool true)],[(decide (0≤Int.ofNat ((u64 (-1)).toNat.xor (u64 y).toNat))&&(decide (0≤1)&&(decide (0≤0)&&decide (0≤1))),true),(decide (x≥0),false)]):=by kernel_rfl
def jp0 (x y:Int):Option (LV×List (Bool×Bool)):=
 bif (decide (x≥0)) then some (LV.tup [V1.agg [At.int IntKind.u64 (wr IntKind.u64 x),At.int IntKind.u64 y],V1.one (At.bool false)],[])
 else some (LV.tup [V1.agg [At.int IntKind.u64 (wr IntKind.u64 (Int.ofNat ((u64 (-1)).toNat.xor (u64 (wr IntKind.u64 x)).toNat)+(Int.ofNat ((u64 (-1)).toNat.xor (u64 y).toNat)+1+0)/18446744073709551616)),At.int IntKind.u64 (u64 (Int.ofNat ((u64 (-1)).toNat.xor (u64 y).toNat)+1+0))],V1.one (At.bool true)],[(decide (0≤Int.ofNat ((u64 (-1)).toNat.xor (u64 y).toNat))&&(decide (0≤1)&&(decide (0≤0)&&decide (0≤1))),true)])
def jp1:List LV→Option (LV×List (Bool×Bool))
 | [.v (.agg [.int .i64 x,.int .u64 y])]=>jp0 x y
 | _=>none
theorem sumwabs:SumOK Tryz.prog 128 (jq jp1):=by
 refine jC (z:=Zl) qD (jl qD Tryz.func128 (by kernel_rfl)) fun args v cs hF hc=> ?_
 unfold jp1 at hF
 split at hF
 ·rename_i x y
  unfold jp0 at hF
  rcases ji (decide (x≥0)) with h0 | h0
  ·rw [jy h0] at hF
   cases hF
   exact ⟨2000,[some true],_,jpY x y,ja (h0) (jd)⟩
  ·rw [jv h0] at hF
   cases hF
   exact ⟨2000,[some false],_,jpZ x y,ja (jt (hc)) (ja (h0) (jd))⟩
 ·cases hF
theorem jmm (x y x' y':Int):(jG Tryz.prog S5 Zl 2000 129 [.v (.agg [.int .u64 x,.int .u64 y]),.v (.agg [.int .u64 x',.int .u64 y'])] [] 0 []).map (fun r=>(r.1,r.2.2.2))=some (LV.v (V1.agg [At.int IntKind.u64 (u64 (x+x'+(y+y'+0)/18446744073709551616)),At.int IntKind.u64 (u64 (y+y'+0))]),[(decide (0≤x)&&(decide (0≤x')&&(decide (0≤(y+y'+0)/18446744073709551616)&&decide ((y+y'+0)/18446744073709551616≤1))),true),(decide (0≤y)&&(decide (0≤y')&&(decide (0≤0)&&decide (0≤1))),true)]):=by kernel_rfl
def jj7 (x y x' y':Int):Option (LV×List (Bool×Bool)):=some (LV.v (V1.agg [At.int IntKind.u64 (u64 (x+x'+(y+y'+0)/18446744073709551616)),At.int IntKind.u64 (u64 (y+y'+0))]),[(decide (0≤x)&&(decide (0≤x')&&(decide (0≤(y+y'+0)/18446744073709551616)&&decide ((y+y'+0)/18446744073709551616≤1))),true),(decide (0≤y)&&(decide (0≤y')&&(decide (0≤0)&&decide (0≤1))),true)])
def jj8:List LV→Option (LV×List (Bool×Bool))
 | [.v (.agg [.int .u64 x,.int .u64 y]),.v (.agg [.int .u64 x',.int .u64 y'])]=>jj7 x y x' y'
 | _=>none
theorem sumwplus:SumOK Tryz.prog 129 (jq jj8):=by
 refine jC (z:=Zl) qD (jl qD Tryz.func129 (by kernel_rfl)) fun args v cs hF hc=> ?_
 unfold jj8 at hF
 split at hF
 ·rename_i x y x' y'
  unfold jj7 at hF
  cases hF
  exact ⟨2000,[],_,jmm x y x' y',ja (jt (hc)) (ja (jt (jg (hc))) (jd))⟩
 ·cases hF
theorem jmn (x y x' y':Int):(jG Tryz.prog S5 Zl 2000 184 [.v (.agg [.int .u64 x,.int .u64 y]),.v (.agg [.int .u64 x',.int .u64 y'])] [] 0 [some true,some true,some true,some true,some true,some true,none,none,none,none,none,some true,none,some true]).map (fun r=>(r.1,r.2.2.2))=some (LV.v (V1.one (At.bool true)),[(decide (x<x'),true),(decide (x<x'),true),(decide (x<x'),true),(decide (x<x'),true),(decide (x<x'),true),(decide (x<x'),true),(decide (x<x'),true),(decide (x<x'),true)]):=by kernel_rfl
theorem jmo (x y x' y':Int):(jG Tryz.prog S5 Zl 2000 184 [.v (.agg [.int .u64 x,.int .u64 y]),.v (.agg [.int .u64 x',.int .u64 y'])] [] 0 [some false,some false,some false,some false,some false,some false,some true,some true,some true,some true,some true,some false,some true,some false]).map (fun r=>(r.1,r.2.2.2))=some (LV.v (V1.one (At.bool (decide (y<y')))),[(decide (x<x'),false),(decide (x<x'),false),(x==x',true),(x==x',true),(x==x',true),(x==x',true),(x==x',true),(x==x',true),(decide (x<x'),false),(decide (x<x'),false),(decide (x<x'),false),(decide (x<x'),false),(decide (x<x'),false),(decide (x<x'),false)]):=by kernel_rfl
theorem jmp (x y x' y':Int):(jG Tryz.prog S5 Zl 2000 184 [.v (.agg [.int .u64 x,.int .u64 y]),.v (.agg [.int .u64 x',.int .u64 y'])] [] 0 [some false,some false,some false,some false,some false,some false,some false,some false,some false,some false,some false,some false,some false,some false]).map (fun r=>(r.1,r.2.2.2))=some (LV.v (V1.one (At.bool false)),[(decide (x<x'),false),(decide (x<x'),false),(x==x',false),(x==x',false),(x==x',false),(x==x',false),(x==x',false),(x==x',false),(decide (x<x'),false),(decide (x<x'),false),(decide (x<x'),false),(decide (x<x'),false),(decide (x<x'),false),(decide (x<x'),false)]):=by kernel_rfl
def jj9 (x y x' y':Int):Option (LV×List (Bool×Bool)):=
 bif (decide (x<x')) then some (LV.v (V1.one (At.bool true)),[])
 else
  bif (x==x') then some (LV.v (V1.one (At.bool (decide (y<y')))),[])
  else some (LV.v (V1.one (At.bool false)),[])
def jka:List LV→Option (LV×List (Bool×Bool))
 | [.v (.agg [.int .u64 x,.int .u64 y]),.v (.agg [.int .u64 x',.int .u64 y'])]=>jj9 x y x' y'
 | _=>none
theorem sumwless:SumOK Tryz.prog 184 (jq jka):=by
 refine jC (z:=Zl) qD (jl qD Tryz.func184 (by kernel_rfl)) fun args v cs hF hc=> ?_
 unfold jka at hF
 split at hF
 ·rename_i x y x' y'
  unfold jj9 at hF
  rcases ji (decide (x<x')) with h0 | h0
  ·rw [jy h0] at hF
   cases hF
   exact ⟨2000,[some true,some true,some true,some true,some true,some true,none,none,none,none,none,some true,none,some true],_,jmn x y x' y',ja (h0) (ja (h0) (ja (h0) (ja (h0) (ja (h0) (ja (h0) (ja (h0) (ja (h0) (jd))))))))⟩
  ·rw [jv h0] at hF
   rcases ji (x==x') with h1 | h1
   ·rw [jy h1] at hF
    cases hF
    exact ⟨2000,[some false,some false,some false,some false,some false,some false,some true,some true,some true,some true,some true,some false,some true,some false],_,jmo x y x' y',ja (h0) (ja (h0) (ja (h1) (ja (h1) (ja (h1) (ja (h1) (ja (h1) (ja (h1) (ja (h0) (ja (h0) (ja (h0) (ja (h0) (ja (h0) (ja (h0) (jd))))))))))))))⟩
   ·rw [jv h1] at hF
    cases hF
    exact ⟨2000,[some false,some false,some false,some false,some false,some false,some false,some false,some false,some false,some false,some false,some false,some false],_,jmp x y x' y',ja (h0) (ja (h0) (ja (h1) (ja (h1) (ja (h1) (ja (h1) (ja (h1) (ja (h1) (ja (h0) (ja (h0) (ja (h0) (ja (h0) (ja (h0) (ja (h0) (jd))))))))))))))⟩
 ·cases hF
theorem jp2 (x y:Int) (n:Bool):(jG Tryz.prog S5 Zl 2000 131 [.v (.agg [.int .u64 x,.int .u64 y]),.v (.one (.bool n))] [] 0 [some true,some true]).map (fun r=>(r.1,r.2.2.2))=some (LV.tup [V1.one (At.int .i64 0),V1.one (At.bool false)],[(x != 0,true),(x != 0,true)]):=by kernel_rfl
theorem jp3 (x y:Int) (n:Bool):(jG Tryz.prog S5 Zl 2000 131 [.v (.agg [.int .u64 x,.int .u64 y]),.v (.one (.bool n))] [] 0 [some false,some true,some true,some true,some true,some true,some true]).map (fun r=>(r.1,r.2.2.2))=some (LV.tup [V1.one (At.int .i64 0),V1.one (At.bool false)],[(decide (y>9223372036854775807),true),(decide (y>9223372036854775807),true),(!n,true),(!n,true),(!n,true),(!n,true),(x != 0,false)]):=by kernel_rfl
theorem jp4 (x y:Int) (n:Bool):(jG Tryz.prog S5 Zl 2000 131 [.v (.agg [.int .u64 x,.int .u64 y]),.v (.one (.bool n))] [] 0 [some false,some true,some true,some true,some true,some false,some true,some true,some true,some true,some true]).map (fun r=>(r.1,r.2.2.2))=some (LV.tup [V1.one (At.int .i64 0),V1.one (At.bool false)],[(decide (y>9223372036854775808),true),(n,true),(n,true),(n,true),(n,true),(decide (y>9223372036854775807),false),(!n,true),(!n,true),(!n,true),(!n,true),(x != 0,false)]):=by kernel_rfl
theorem jp5 (x y:Int) (n:Bool):(jG Tryz.prog S5 Zl 2000 131 [.v (.agg [.int .u64 x,.int .u64 y]),.v (.one (.bool n))] [] 0 [some false,some true,some true,some true,some true,some false,some true,some true,some true,some true,some false,some true]).map (fun r=>(r.1,r.2.2.2))=some (LV.tup [V1.one (At.int .i64 (wr .i64 (wr IntKind.u64 (0 - y)))),V1.one (At.bool true)],[(n,true),(decide (y>9223372036854775808),false),(n,true),(n,true),(n,true),(n,true),(decide (y>9223372036854775807),false),(!n,true),(!n,true),(!n,true),(!n,true),(x != 0,false)]):=by kernel_rfl
theorem jp6 (x y:Int) (n:Bool):(jG Tryz.prog S5 Zl 2000 131 [.v (.agg [.int .u64 x,.int .u64 y]),.v (.one (.bool n))] [] 0 [some false,some true,some true,some true,some true,some false,some false,some false,some false,some false,none,some false]).map (fun r=>(r.1,r.2.2.2))=some (LV.tup [V1.one (At.int .i64 (wr .i64 y)),V1.one (At.bool true)],[(n,false),(n,false),(n,false),(n,false),(n,false),(decide (y>9223372036854775807),false),(!n,true),(!n,true),(!n,true),(!n,true),(x != 0,false)]):=by kernel_rfl
theorem jp7 (x y:Int) (n:Bool):(jG Tryz.prog S5 Zl 2000 131 [.v (.agg [.int .u64 x,.int .u64 y]),.v (.one (.bool n))] [] 0 [some false,some false,some false,some false,some false,none,some true,some true,some true,some true,some true]).map (fun r=>(r.1,r.2.2.2))=some (LV.tup [V1.one (At.int .i64 0),V1.one (At.bool false)],[(decide (y>9223372036854775808),true),(n,true),(n,true),(n,true),(n,true),(!n,false),(!n,false),(!n,false),(!n,false),(x != 0,false)]):=by kernel_rfl
theorem jp8 (x y:Int) (n:Bool):(jG Tryz.prog S5 Zl 2000 131 [.v (.agg [.int .u64 x,.int .u64 y]),.v (.one (.bool n))] [] 0 [some false,some false,some false,some false,some false,none,some true,some true,some true,some true,some false,some true]).map (fun r=>(r.1,r.2.2.2))=some (LV.tup [V1.one (At.int .i64 (wr .i64 (wr IntKind.u64 (0 - y)))),V1.one (At.bool true)],[(n,true),(decide (y>9223372036854775808),false),(n,true),(n,true),(n,true),(n,true),(!n,false),(!n,false),(!n,false),(!n,false),(x != 0,false)]):=by kernel_rfl
theorem jp9 (x y:Int) (n:Bool):(jG Tryz.prog S5 Zl 2000 131 [.v (.agg [.int .u64 x,.int .u64 y]),.v (.one (.bool n))] [] 0 [some false,some false,some false,some false,some false,none,some false,some false,some false,some false,none,some false]).map (fun r=>(r.1,r.2.2.2))=some (LV.tup [V1.one (At.int .i64 (wr .i64 y)),V1.one (At.bool true)],[(n,false),(n,false),(n,false),(n,false),(n,false),(!n,false),(!n,false),(!n,false),(!n,false),(x != 0,false)]):=by kernel_rfl
def jmq (x y:Int) (n:Bool):Option (LV×List (Bool×Bool)):=
 bif (x != 0) then some (LV.tup [V1.one (At.int .i64 0),V1.one (At.bool false)],[])
 else
  bif (!n) then
   bif (decide (y>9223372036854775807)) then some (LV.tup [V1.one (At.int .i64 0),V1.one (At.bool false)],[])
   else
    bif (n) then
     bif (decide (y>9223372036854775808)) then some (LV.tup [V1.one (At.int .i64 0),V1.one (At.bool false)],[])
     else some (LV.tup [V1.one (At.int .i64 (wr .i64 (wr IntKind.u64 (0 - y)))),V1.one (At.bool true)],[])
    else some (LV.tup [V1.one (At.int .i64 (wr .i64 y)),V1.one (At.bool true)],[])
  else
   bif (n) then
    bif (decide (y>9223372036854775808)) then some (LV.tup [V1.one (At.int .i64 0),V1.one (At.bool false)],[])
    else some (LV.tup [V1.one (At.int .i64 (wr .i64 (wr IntKind.u64 (0 - y)))),V1.one (At.bool true)],[])
   else some (LV.tup [V1.one (At.int .i64 (wr .i64 y)),V1.one (At.bool true)],[])
def jqa:List LV→Option (LV×List (Bool×Bool))
 | [.v (.agg [.int .u64 x,.int .u64 y]),.v (.one (.bool n))]=>jmq x y n
 | _=>none
theorem sumsg64:SumOK Tryz.prog 131 (jq jqa):=by
 refine jC (z:=Zl) qD (jl qD Tryz.func131 (by kernel_rfl)) fun args v cs hF hc=> ?_
 unfold jqa at hF
 split at hF
 ·rename_i x y n
  unfold jmq at hF
  rcases ji (x != 0) with h0 | h0
  ·rw [jy h0] at hF
   cases hF
   exact ⟨2000,[some true,some true],_,jp2 x y n,ja (h0) (ja (h0) (jd))⟩
  ·rw [jv h0] at hF
   rcases ji (!n) with h1 | h1
   ·rw [jy h1] at hF
    rcases ji (decide (y>9223372036854775807)) with h2 | h2
    ·rw [jy h2] at hF
     cases hF
     exact ⟨2000,[some false,some true,some true,some true,some true,some true,some true],_,jp3 x y n,ja (h2) (ja (h2) (ja (h1) (ja (h1) (ja (h1) (ja (h1) (ja (h0) (jd)))))))⟩
    ·rw [jv h2] at hF
     rcases ji (n) with h3 | h3
     ·rw [jy h3] at hF
      rcases ji (decide (y>9223372036854775808)) with h4 | h4
      ·rw [jy h4] at hF
       cases hF
       exact ⟨2000,[some false,some true,some true,some true,some true,some false,some true,some true,some true,some true,some true],_,jp4 x y n,ja (h4) (ja (h3) (ja (h3) (ja (h3) (ja (h3) (ja (h2) (ja (h1) (ja (h1) (ja (h1) (ja (h1) (ja (h0) (jd)))))))))))⟩
      ·rw [jv h4] at hF
       cases hF
       exact ⟨2000,[some false,some true,some true,some true,some true,some false,some true,some true,some true,some true,some false,some true],_,jp5 x y n,ja (h3) (ja (h4) (ja (h3) (ja (h3) (ja (h3) (ja (h3) (ja (h2) (ja (h1) (ja (h1) (ja (h1) (ja (h1) (ja (h0) (jd))))))))))))⟩
     ·rw [jv h3] at hF
      cases hF
      exact ⟨2000,[some false,some true,some true,some true,some true,some false,some false,some false,some false,some false,none,some false],_,jp6 x y n,ja (h3) (ja (h3) (ja (h3) (ja (h3) (ja (h3) (ja (h2) (ja (h1) (ja (h1) (ja (h1) (ja (h1) (ja (h0) (jd)))))))))))⟩
   ·rw [jv h1] at hF
    rcases ji (n) with h2 | h2
    ·rw [jy h2] at hF
     rcases ji (decide (y>9223372036854775808)) with h3 | h3
     ·rw [jy h3] at hF
      cases hF
      exact ⟨2000,[some false,some false,some false,some false,some false,none,some true,some true,some true,some true,some true],_,jp7 x y n,ja (h3) (ja (h2) (ja (h2) (ja (h2) (ja (h2) (ja (h1) (ja (h1) (ja (h1) (ja (h1) (ja (h0) (jd))))))))))⟩
     ·rw [jv h3] at hF
      cases hF
      exact ⟨2000,[some false,some false,some false,some false,some false,none,some true,some true,some true,some true,some false,some true],_,jp8 x y n,ja (h2) (ja (h3) (ja (h2) (ja (h2) (ja (h2) (ja (h2) (ja (h1) (ja (h1) (ja (h1) (ja (h1) (ja (h0) (jd)))))))))))⟩
    ·rw [jv h2] at hF
     cases hF
     exact ⟨2000,[some false,some false,some false,some false,some false,none,some false,some false,some false,some false,none,some false],_,jp9 x y n,ja (h2) (ja (h2) (ja (h2) (ja (h2) (ja (h2) (ja (h1) (ja (h1) (ja (h1) (ja (h1) (ja (h0) (jd))))))))))⟩
 ·cases hF
end Go.Proofs.YtbpfipbhaagllaaGreat

/- wide: shl, shr, minus, Of, add, by every path of their runs (printed by contract.py). -/
namespace Go.Proofs.YtbpfipbhaagllaaGreat
open Go.Lr
theorem jqb (x y s:Int):(jG Tryz.prog S5 Zl 2000 130 [.v (.agg [.int .u64 x,.int .u64 y]),.v (.one (.int .i64 s))] [] 0 [some true]).map (fun r=>(r.1,r.2.2.2))=some (LV.v (V1.agg [At.int IntKind.u64 (wr IntKind.u64 (y*jk (min (wr .i64 (s - 64)).toNat IntKind.u64.bits))),At.int IntKind.u64 0]),[(decide (wr .i64 (s - 64)<0),false),(decide (s≥64),true)]):=by kernel_rfl
theorem jqc (x y s:Int):(jG Tryz.prog S5 Zl 2000 130 [.v (.agg [.int .u64 x,.int .u64 y]),.v (.one (.int .i64 s))] [] 0 [some false]).map (fun r=>(r.1,r.2.2.2))=some (LV.v (V1.agg [At.int IntKind.u64 (Int.ofNat ((u64 (wr IntKind.u64 (x*jk (min s.toNat IntKind.u64.bits)))).toNat.lor (u64 (y/jk (min (wr .i64 (64 - s)).toNat IntKind.u64.bits))).toNat)),At.int IntKind.u64 (wr IntKind.u64 (y*jk (min s.toNat IntKind.u64.bits)))]),[(decide (s<0),false),(decide (wr .i64 (64 - s)<0),false),(decide (s<0),false),(decide (s≥64),false)]):=by kernel_rfl
def jqd (x y s:Int):Option (LV×List (Bool×Bool)):=
 bif (decide (s≥64)) then some (LV.v (V1.agg [At.int IntKind.u64 (wr IntKind.u64 (y*jk (min (wr .i64 (s - 64)).toNat IntKind.u64.bits))),At.int IntKind.u64 0]),[(decide (wr .i64 (s - 64)<0),false)])
 else some (LV.v (V1.agg [At.int IntKind.u64 (Int.ofNat ((u64 (wr IntKind.u64 (x*jk (min s.toNat IntKind.u64.bits)))).toNat.lor (u64 (y/jk (min (wr .i64 (64 - s)).toNat IntKind.u64.bits))).toNat)),At.int IntKind.u64 (wr IntKind.u64 (y*jk (min s.toNat IntKind.u64.bits)))]),[(decide (s<0),false),(decide (wr .i64 (64 - s)<0),false)])
def jqe:List LV→Option (LV×List (Bool×Bool))
 | [.v (.agg [.int .u64 x,.int .u64 y]),.v (.one (.int .i64 s))]=>jqd x y s
 | _=>none
theorem sumwshl:SumOK Tryz.prog 130 (jq jqe):=by
 refine jC (z:=Zl) qD (jl qD Tryz.func130 (by kernel_rfl)) fun args v cs hF hc=> ?_
 unfold jqe at hF
 split at hF
 ·rename_i x y s
  unfold jqd at hF
  rcases ji (decide (s≥64)) with h0 | h0
  ·rw [jy h0] at hF
   cases hF
   exact ⟨2000,[some true],_,jqb x y s,ja (jt (hc)) (ja (h0) (jd))⟩
  ·rw [jv h0] at hF
   cases hF
   exact ⟨2000,[some false],_,jqc x y s,ja (jt (hc)) (ja (jt (jg (hc))) (ja (jt (hc)) (ja (h0) (jd))))⟩
 ·cases hF
theorem jqf (x y s:Int):(jG Tryz.prog S5 Zl 2000 132 [.v (.agg [.int .u64 x,.int .u64 y]),.v (.one (.int .i64 s))] [] 0 [some true]).map (fun r=>(r.1,r.2.2.2))=some (LV.v (V1.agg [At.int IntKind.u64 0,At.int IntKind.u64 (x/jk (min (wr .i64 (s - 64)).toNat IntKind.u64.bits))]),[(decide (wr .i64 (s - 64)<0),false),(decide (s≥64),true)]):=by kernel_rfl
theorem jqg (x y s:Int):(jG Tryz.prog S5 Zl 2000 132 [.v (.agg [.int .u64 x,.int .u64 y]),.v (.one (.int .i64 s))] [] 0 [some false]).map (fun r=>(r.1,r.2.2.2))=some (LV.v (V1.agg [At.int IntKind.u64 (x/jk (min s.toNat IntKind.u64.bits)),At.int IntKind.u64 (Int.ofNat ((u64 (y/jk (min s.toNat IntKind.u64.bits))).toNat.lor (u64 (wr IntKind.u64 (x*jk (min (wr .i64 (64 - s)).toNat IntKind.u64.bits)))).toNat))]),[(decide (wr .i64 (64 - s)<0),false),(decide (s<0),false),(decide (s<0),false),(decide (s≥64),false)]):=by kernel_rfl
def jqh (x y s:Int):Option (LV×List (Bool×Bool)):=
 bif (decide (s≥64)) then some (LV.v (V1.agg [At.int IntKind.u64 0,At.int IntKind.u64 (x/jk (min (wr .i64 (s - 64)).toNat IntKind.u64.bits))]),[(decide (wr .i64 (s - 64)<0),false)])
 else some (LV.v (V1.agg [At.int IntKind.u64 (x/jk (min s.toNat IntKind.u64.bits)),At.int IntKind.u64 (Int.ofNat ((u64 (y/jk (min s.toNat IntKind.u64.bits))).toNat.lor (u64 (wr IntKind.u64 (x*jk (min (wr .i64 (64 - s)).toNat IntKind.u64.bits)))).toNat))]),[(decide (wr .i64 (64 - s)<0),false),(decide (s<0),false)])
def jqi:List LV→Option (LV×List (Bool×Bool))
 | [.v (.agg [.int .u64 x,.int .u64 y]),.v (.one (.int .i64 s))]=>jqh x y s
 | _=>none
theorem sumwshr:SumOK Tryz.prog 132 (jq jqi):=by
 refine jC (z:=Zl) qD (jl qD Tryz.func132 (by kernel_rfl)) fun args v cs hF hc=> ?_
 unfold jqi at hF
 split at hF
 ·rename_i x y s
  unfold jqh at hF
  rcases ji (decide (s≥64)) with h0 | h0
  ·rw [jy h0] at hF
   cases hF
   exact ⟨2000,[some true],_,jqf x y s,ja (jt (hc)) (ja (h0) (jd))⟩
  ·rw [jv h0] at hF
   cases hF
   exact ⟨2000,[some false],_,jqg x y s,ja (jt (hc)) (ja (jt (jg (hc))) (ja (jt (jg (hc))) (ja (h0) (jd))))⟩
 ·cases hF
theorem jiZ (x y x' y':Int):(jG Tryz.prog S5 Zl 2000 185 [.v (.agg [.int .u64 x,.int .u64 y]),.v (.agg [.int .u64 x',.int .u64 y'])] [] 0 []).map (fun r=>(r.1,r.2.2.2))=some (LV.v (V1.agg [At.int IntKind.u64 (u64 (x - x' - JK y y' 0)),At.int IntKind.u64 (u64 (y - y' - 0))]),[(decide (0≤x)&&(decide (0≤x')&&(decide (x'<18446744073709551616)&&(decide (0≤JK y y' 0)&&decide (JK y y' 0≤1)))),true),(decide (0≤y)&&(decide (0≤y')&&(decide (y'<18446744073709551616)&&(decide (0≤0)&&decide (0≤1)))),true)]):=by kernel_rfl
def jgV (x y x' y':Int):Option (LV×List (Bool×Bool)):=some (LV.v (V1.agg [At.int IntKind.u64 (u64 (x - x' - JK y y' 0)),At.int IntKind.u64 (u64 (y - y' - 0))]),[(decide (0≤x)&&(decide (0≤x')&&(decide (x'<18446744073709551616)&&(decide (0≤JK y y' 0)&&decide (JK y y' 0≤1)))),true),(decide (0≤y)&&(decide (0≤y')&&(decide (y'<18446744073709551616)&&(decide (0≤0)&&decide (0≤1)))),true)])
def jgW:List LV→Option (LV×List (Bool×Bool))
 | [.v (.agg [.int .u64 x,.int .u64 y]),.v (.agg [.int .u64 x',.int .u64 y'])]=>jgV x y x' y'
 | _=>none
theorem sumwminus:SumOK Tryz.prog 185 (jq jgW):=by
 refine jC (z:=Zl) qD (jl qD Tryz.func185 (by kernel_rfl)) fun args v cs hF hc=> ?_
 unfold jgW at hF
 split at hF
 ·rename_i x y x' y'
  unfold jgV at hF
  cases hF
  exact ⟨2000,[],_,jiZ x y x' y',ja (jt (hc)) (ja (jt (jg (hc))) (jd))⟩
 ·cases hF
theorem jus (a:Int):(jG Tryz.prog S5 Zl 2000 183 [.v (.one (.int .i64 a))] [] 0 []).map (fun r=>(r.1,r.2.2.2))=some (LV.v (V1.agg [At.int .i64 (a/jk (min (Int.toNat 63) IntKind.i64.bits)),At.int IntKind.u64 (wr IntKind.u64 a)]),[]):=by kernel_rfl
def ju7 (a:Int):Option (LV×List (Bool×Bool)):=some (LV.v (V1.agg [At.int .i64 (a/jk (min (Int.toNat 63) IntKind.i64.bits)),At.int IntKind.u64 (wr IntKind.u64 a)]),[])
def ju8:List LV→Option (LV×List (Bool×Bool))
 | [.v (.one (.int .i64 a))]=>ju7 a
 | _=>none
theorem sumwof:SumOK Tryz.prog 183 (jq ju8):=by
 refine jC (z:=Zl) qD (jl qD Tryz.func183 (by kernel_rfl)) fun args v cs hF hc=> ?_
 unfold ju8 at hF
 split at hF
 ·rename_i a
  unfold ju7 at hF
  cases hF
  exact ⟨2000,[],_,jus a,jd⟩
 ·cases hF
theorem jqj (x y x' y':Int):(jG Tryz.prog S5 Zl 2000 127 [.v (.agg [.int .i64 x,.int .u64 y]),.v (.agg [.int .i64 x',.int .u64 y'])] [] 0 [some true,some true,some true,some true,some true,some true,some true,some true]).map (fun r=>(r.1,r.2.2.2))=some (LV.tup [V1.agg [At.int .i64 (wr .i64 (u64 (wr IntKind.u64 x+wr IntKind.u64 x'+(y+y'+0)/18446744073709551616))),At.int IntKind.u64 (u64 (y+y'+0))],V1.one (At.bool true)],[(!decide (x<0)==decide (x'<0),true),(!decide (x<0)==decide (x'<0),true),(!decide (x<0)==decide (x'<0),true),(!decide (x<0)==decide (x'<0),true),(!decide (x<0)==decide (x'<0),true),(!decide (x<0)==decide (x'<0),true),(!decide (x<0)==decide (x'<0),true),(!decide (x<0)==decide (x'<0),true),(decide (0≤wr IntKind.u64 x)&&(decide (0≤wr IntKind.u64 x')&&(decide (0≤(y+y'+0)/18446744073709551616)&&decide ((y+y'+0)/18446744073709551616≤1))),true),(decide (0≤y)&&(decide (0≤y')&&(decide (0≤0)&&decide (0≤1))),true)]):=by kernel_rfl
theorem jqk (x y x' y':Int):(jG Tryz.prog S5 Zl 2000 127 [.v (.agg [.int .i64 x,.int .u64 y]),.v (.agg [.int .i64 x',.int .u64 y'])] [] 0 [some false,some false,some false,some false,some false,some false,some false,some false]).map (fun r=>(r.1,r.2.2.2))=some (LV.tup [V1.agg [At.int .i64 (wr .i64 (u64 (wr IntKind.u64 x+wr IntKind.u64 x'+(y+y'+0)/18446744073709551616))),At.int IntKind.u64 (u64 (y+y'+0))],V1.one (At.bool (decide (wr .i64 (u64 (wr IntKind.u64 x+wr IntKind.u64 x'+(y+y'+0)/18446744073709551616))<0)==decide (x<0)))],[(!decide (x<0)==decide (x'<0),false),(!decide (x<0)==decide (x'<0),false),(!decide (x<0)==decide (x'<0),false),(!decide (x<0)==decide (x'<0),false),(!decide (x<0)==decide (x'<0),false),(!decide (x<0)==decide (x'<0),false),(!decide (x<0)==decide (x'<0),false),(!decide (x<0)==decide (x'<0),false),(decide (0≤wr IntKind.u64 x)&&(decide (0≤wr IntKind.u64 x')&&(decide (0≤(y+y'+0)/18446744073709551616)&&decide ((y+y'+0)/18446744073709551616≤1))),true),(decide (0≤y)&&(decide (0≤y')&&(decide (0≤0)&&decide (0≤1))),true)]):=by kernel_rfl
def jql (x y x' y':Int):Option (LV×List (Bool×Bool)):=
 bif (!decide (x<0)==decide (x'<0)) then some (LV.tup [V1.agg [At.int .i64 (wr .i64 (u64 (wr IntKind.u64 x+wr IntKind.u64 x'+(y+y'+0)/18446744073709551616))),At.int IntKind.u64 (u64 (y+y'+0))],V1.one (At.bool true)],[(decide (0≤wr IntKind.u64 x)&&(decide (0≤wr IntKind.u64 x')&&(decide (0≤(y+y'+0)/18446744073709551616)&&decide ((y+y'+0)/18446744073709551616≤1))),true),(decide (0≤y)&&(decide (0≤y')&&(decide (0≤0)&&decide (0≤1))),true)])
 else some (LV.tup [V1.agg [At.int .i64 (wr .i64 (u64 (wr IntKind.u64 x+wr IntKind.u64 x'+(y+y'+0)/18446744073709551616))),At.int IntKind.u64 (u64 (y+y'+0))],V1.one (At.bool (decide (wr .i64 (u64 (wr IntKind.u64 x+wr IntKind.u64 x'+(y+y'+0)/18446744073709551616))<0)==decide (x<0)))],[(decide (0≤wr IntKind.u64 x)&&(decide (0≤wr IntKind.u64 x')&&(decide (0≤(y+y'+0)/18446744073709551616)&&decide ((y+y'+0)/18446744073709551616≤1))),true),(decide (0≤y)&&(decide (0≤y')&&(decide (0≤0)&&decide (0≤1))),true)])
def jqm:List LV→Option (LV×List (Bool×Bool))
 | [.v (.agg [.int .i64 x,.int .u64 y]),.v (.agg [.int .i64 x',.int .u64 y'])]=>jql x y x' y'
 | _=>none
theorem sumwadd:SumOK Tryz.prog 127 (jq jqm):=by
 refine jC (z:=Zl) qD (jl qD Tryz.func127 (by kernel_rfl)) fun args v cs hF hc=> ?_
 unfold jqm at hF
 split at hF
 ·rename_i x y x' y'
  unfold jql at hF
  rcases ji (!decide (x<0)==decide (x'<0)) with h0 | h0
  ·rw [jy h0] at hF
   cases hF
   exact ⟨2000,[some true,some true,some true,some true,some true,some true,some true,some true],_,jqj x y x' y',ja (h0) (ja (h0) (ja (h0) (ja (h0) (ja (h0) (ja (h0) (ja (h0) (ja (h0) (ja (jt (hc)) (ja (jt (jg (hc))) (jd))))))))))⟩
  ·rw [jv h0] at hF
   cases hF
   exact ⟨2000,[some false,some false,some false,some false,some false,some false,some false,some false],_,jqk x y x' y',ja (h0) (ja (h0) (ja (h0) (ja (h0) (ja (h0) (ja (h0) (ja (h0) (ja (h0) (ja (jt (hc)) (ja (jt (jg (hc))) (jd))))))))))⟩
 ·cases hF
end Go.Proofs.YtbpfipbhaagllaaGreat

/- wide: what the small functions come to, in numbers. -/
namespace Go.Proofs.YtbpfipbhaagllaaGreat
open Go.Lr
def B1 (v:Int):V1:= .agg [.int .u64 (wHi v),.int .u64 (wLo v)]
theorem jkb {k k':IntKind} {a a' b b':Int} (cs:List (Bool×Bool)) (h1:a=a') (h2:b=b'):
  some (LV.v (V1.agg [At.int k a,At.int k' b]),cs)=some (LV.v (V1.agg [At.int k a',At.int k' b']),cs):=by subst h1;subst h2;rfl
theorem jgX {k k':IntKind} {a a' b b':Int} {c c':Bool} (cs:List (Bool×Bool)) (h1:a=a') (h2:b=b') (h3:c=c'):
  some (LV.tup [V1.agg [At.int k a,At.int k' b],V1.one (At.bool c)],cs)=some (LV.tup [V1.agg [At.int k a',At.int k' b'],V1.one (At.bool c')],cs):=by subst h1;subst h2;subst h3;rfl
theorem jgY {k:IntKind} {a a':Int} {c c':Bool} (cs:List (Bool×Bool)) (h1:a=a') (h3:c=c'):
  some (LV.tup [V1.one (At.int k a),V1.one (At.bool c)],cs)=some (LV.tup [V1.one (At.int k a'),V1.one (At.bool c')],cs):=by subst h1;subst h3;rfl
theorem jut {c c':Bool} (cs:List (Bool×Bool)) (h3:c=c'):
  some (LV.v (V1.one (At.bool c)),cs)=some (LV.v (V1.one (At.bool c')),cs):=by subst h3;rfl
theorem Xz {s:Int} (h0:0≤s) (h1:s≤64):min s.toNat IntKind.u64.bits=s.toNat:=by
 have:IntKind.u64.bits=64:=rfl
 omega
theorem jgZ {s:Int} (h0: -1000≤s) (h1:s≤1000):wr .i64 s=s:=q9 (by omega) (by omega)
def juu:List LV→Option (LV×List (Bool×Bool))
 | [.v (.agg [.int .u64 x,.int .u64 y]),.v (.one (.int .i64 s))]=>some (.v (B1 (jc x y*jk s.toNat%340282366920938463463374607431768211456)),[(isU x,true),(isU y,true),(decide (0≤s)&&decide (s<128),true)])
 | _=>none
theorem jqn:SumOK Tryz.prog 130 (jq juu):=by
 refine sumwshl.pure_re fun args v cs hF hc=> ?_
 unfold juu at hF
 split at hF
 ·rename_i x y s
  cases hF
  simp only [jM,isU_iff,Bool.and_eq_true,decide_eq_true_eq] at hc
  obtain ⟨⟨hx0,hx1⟩,⟨hy0,hy1⟩,⟨hs0,hs1⟩,-⟩:=hc
  by_cases h:s≥64
  ·refine ⟨_,(jy (decide_eq_true h)).trans (jkb _ ?_ ?_), ?_⟩
   ·rw [jgZ (by omega) (by omega),Xz (by omega) (by omega),zS]
    have hs:s.toNat=(s - 64).toNat+64:=by omega
    rw [hs,qT,zZ]
    generalize jk (s - 64).toNat=p
    unfold wHi jc u64
    have e:(x*18446744073709551616+y)*(p*18446744073709551616)=x*p*340282366920938463463374607431768211456+(y*p)*18446744073709551616:=by grind
    rw [e];generalize x*p=a;generalize y*p=b;omega
   ·have hs:s.toNat=(s - 64).toNat+64:=by omega
    rw [hs,qT,zZ]
    generalize jk (s - 64).toNat=p
    unfold wLo jc
    have e:(x*18446744073709551616+y)*(p*18446744073709551616)=x*p*340282366920938463463374607431768211456+(y*p)*18446744073709551616:=by grind
    rw [e];generalize x*p=a;generalize y*p=b;omega
   ·rw [jgZ (by omega) (by omega)];simp;omega
  ·have hpq:jk s.toNat*jk (64 - s).toNat=18446744073709551616:=by rw [←qT,←zZ];congr 1;omega
   obtain ⟨g1,g2,g3,g4,g5,g6,g7,g8⟩:=jjJ x y (jk s.toNat) (jk (64 - s).toNat) (j4 _) (j4 _) hpq hy0 hy1
   refine ⟨_,(jv (decide_eq_false h)).trans (jkb _ ?_ ?_), ?_⟩
   ·rw [jgZ (by omega) (by omega),Xz (s:=s) (by omega) (by omega),Xz (s:=64 - s) (by omega) (by omega),zS,g1,g3]
    exact (jbn _ _ _ g8 g5 g6 g7).1
   ·rw [Xz (s:=s) (by omega) (by omega),zS,g2,g4]
   ·rw [jgZ (by omega) (by omega)];simp;omega
 ·cases hF
def juv:List LV→Option (LV×List (Bool×Bool))
 | [.v (.agg [.int .u64 x,.int .u64 y]),.v (.one (.int .i64 s))]=>some (.v (B1 (jc x y/jk s.toNat)),[(isU x,true),(isU y,true),(decide (0≤s)&&decide (s<128),true)])
 | _=>none
theorem jqo:SumOK Tryz.prog 132 (jq juv):=by
 refine sumwshr.pure_re fun args v cs hF hc=> ?_
 unfold juv at hF
 split at hF
 ·rename_i x y s
  cases hF
  simp only [jM,isU_iff,Bool.and_eq_true,decide_eq_true_eq] at hc
  obtain ⟨⟨hx0,hx1⟩,⟨hy0,hy1⟩,⟨hs0,hs1⟩,-⟩:=hc
  by_cases h:s≥64
  ·have hs:s.toNat=64+(s - 64).toNat:=by omega
   have e:jc x y/jk s.toNat=x/jk (s - 64).toNat:=by
    rw [hs,qT,zZ,←Int.ediv_ediv_of_nonneg (by omega)]
    congr 1;unfold jc;omega
   have q0:0≤x/jk (s - 64).toNat:=Int.ediv_nonneg hx0 (Int.le_of_lt (j4 _))
   have q1:x/jk (s - 64).toNat≤x:=Int.ediv_le_self _ hx0
   refine ⟨_,(jy (decide_eq_true h)).trans (jkb _ ?_ ?_), ?_⟩
   ·rw [e];unfold wHi;omega
   ·rw [jgZ (by omega) (by omega),Xz (by omega) (by omega),e];unfold wLo;omega
   ·rw [jgZ (by omega) (by omega)];simp;omega
  ·have hpq:jk s.toNat*jk (64 - s).toNat=18446744073709551616:=by rw [←qT,←zZ];congr 1;omega
   obtain ⟨g1,g2,g3,g5,g6,g7,g8⟩:=jpf x y (jk s.toNat) (jk (64 - s).toNat) (j4 _) (j4 _) hpq hy0 hy1
   refine ⟨_,(jv (decide_eq_false h)).trans (jkb _ ?_ ?_), ?_⟩
   ·rw [Xz (s:=s) (by omega) (by omega),g1]
   ·rw [jgZ (by omega) (by omega),Xz (s:=s) (by omega) (by omega),Xz (s:=64 - s) (by omega) (by omega),zS,g2,g3]
    exact (jbn _ _ _ g8 g5 g6 g7).2
   ·rw [jgZ (by omega) (by omega)];simp;omega
 ·cases hF
def jmr:List LV→Option (LV×List (Bool×Bool))
 | [.v (.agg [.int .u64 x,.int .u64 y]),.v (.agg [.int .u64 x',.int .u64 y'])]=>some (.v (B1 ((jc x y+jc x' y')%340282366920938463463374607431768211456)),[(isU x,true),(isU y,true),(isU x',true),(isU y',true)])
 | _=>none
theorem jms:SumOK Tryz.prog 129 (jq jmr):=by
 refine sumwplus.pure_re fun args v cs hF hc=> ?_
 unfold jmr at hF
 split at hF
 ·rename_i x y x' y'
  cases hF
  simp only [jM,isU_iff,Bool.and_eq_true,decide_eq_true_eq] at hc
  obtain ⟨⟨hx0,hx1⟩,⟨hy0,hy1⟩,⟨hx0',hx1'⟩,⟨hy0',hy1'⟩,-⟩:=hc
  refine ⟨_,jkb (a:=u64 _) _ ?_ ?_, ?_⟩
  ·unfold u64 wHi jc;omega
  ·unfold u64 wLo jc;omega
  ·simp;omega
 ·cases hF
def jg0:List LV→Option (LV×List (Bool×Bool))
 | [.v (.agg [.int .u64 x,.int .u64 y]),.v (.agg [.int .u64 x',.int .u64 y'])]=>some (.v (B1 ((jc x y - jc x' y')%340282366920938463463374607431768211456)),[(isU x,true),(isU y,true),(isU x',true),(isU y',true)])
 | _=>none
theorem ji0:SumOK Tryz.prog 185 (jq jg0):=by
 refine sumwminus.pure_re fun args v cs hF hc=> ?_
 unfold jg0 at hF
 split at hF
 ·rename_i x y x' y'
  cases hF
  simp only [jM,isU_iff,Bool.and_eq_true,decide_eq_true_eq] at hc
  obtain ⟨⟨hx0,hx1⟩,⟨hy0,hy1⟩,⟨hx0',hx1'⟩,⟨hy0',hy1'⟩,-⟩:=hc
  have hb:JK y y' 0=if y<y' then 1 else 0:=by unfold JK;simp
  refine ⟨_,jkb (a:=u64 _) _ ?_ ?_, ?_⟩
  ·rw [hb];unfold u64 wHi jc;split <;> omega
  ·unfold u64 wLo jc;omega
  ·rw [hb];split <;> simp <;> omega
 ·cases hF
def jmt:List LV→Option (LV×List (Bool×Bool))
 | [.v (.agg [.int .u64 x,.int .u64 y]),.v (.agg [.int .u64 x',.int .u64 y'])]=>some (.v (.one (.bool (decide (jc x y<jc x' y')))),[(isU y,true),(isU y',true)])
 | _=>none
theorem jmu:SumOK Tryz.prog 184 (jq jmt):=by
 refine sumwless.pure_re fun args v cs hF hc=> ?_
 unfold jmt at hF
 split at hF
 ·rename_i x y x' y'
  cases hF
  simp only [jM,isU_iff,Bool.and_eq_true,decide_eq_true_eq] at hc
  obtain ⟨⟨hy0,hy1⟩,⟨hy0',hy1'⟩,-⟩:=hc
  by_cases h1:x<x'
  ·refine ⟨_,(jy (decide_eq_true h1)).trans (jut _ ?_),jd⟩
   symm;rw [decide_eq_true_eq];unfold jc;omega
  ·by_cases h2:x=x'
   ·refine ⟨_,(jv (decide_eq_false h1)).trans ((jy (by simpa using h2)).trans (jut _ ?_)),jd⟩
    rw [decide_eq_decide];subst h2;unfold jc;omega
   ·refine ⟨_,(jv (decide_eq_false h1)).trans ((jv (by simpa using h2)).trans (jut _ ?_)),jd⟩
    symm;rw [decide_eq_false_iff_not];unfold jc;omega
 ·cases hF
def juw:List LV→Option (LV×List (Bool×Bool))
 | [.v (.agg [.int .i64 x,.int .u64 y])]=>some (.tup [B1 (jh (jc x y)),.one (.bool (decide (jc x y<0)))],[(isI x,true),(isU y,true)])
 | _=>none
theorem jqp:SumOK Tryz.prog 128 (jq juw):=by
 refine sumwabs.pure_re fun args v cs hF hc=> ?_
 unfold juw at hF
 split at hF
 ·rename_i x y
  cases hF
  simp only [jM,isU_iff,isI_iff,Bool.and_eq_true,decide_eq_true_eq] at hc
  obtain ⟨⟨hx0,hx1⟩,⟨hy0,hy1⟩,-⟩:=hc
  by_cases h:x≥0
  ·have hn:¬jc x y<0:=by unfold jc;omega
   refine ⟨_,(jy (decide_eq_true h)).trans (jgX _ ?_ ?_ ?_),jd⟩
   ·rw [zS];unfold jh;rw [if_neg hn];unfold u64 wHi jc;omega
   ·unfold jh;rw [if_neg hn];unfold wLo jc;omega
   ·simpa using hn
  ·have hn:jc x y<0:=by unfold jc;omega
   have hux:0≤u64 x∧u64 x<18446744073709551616:=by unfold u64;omega
   refine ⟨_,(jv (decide_eq_false h)).trans (jgX _ ?_ ?_ ?_), ?_⟩
   ·simp only [zS];rw [jjI y hy0 hy1,jjI (u64 x) hux.1 hux.2];unfold jh;rw [if_pos hn];unfold u64 wHi jc;omega
   ·rw [jjI y hy0 hy1];unfold jh;rw [if_pos hn];unfold u64 wLo jc;omega
   ·simpa using hn
   ·rw [jjI y hy0 hy1];simp;omega
 ·cases hF
def jmv:List LV→Option (LV×List (Bool×Bool))
 | [.v (.agg [.int .u64 x,.int .u64 y]),.v (.one (.bool neg))]=>some (.tup [.one (.int .i64 (if isI (sgn neg (jc x y))=true then sgn neg (jc x y) else 0)),.one (.bool (isI (sgn neg (jc x y))))],[(isU x,true),(isU y,true)])
 | _=>none
theorem jmw:SumOK Tryz.prog 131 (jq jmv):=by
 refine sumsg64.pure_re fun args v cs hF hc=> ?_
 unfold jmv at hF
 split at hF
 ·rename_i x y n
  cases hF
  simp only [jM,isU_iff,Bool.and_eq_true,decide_eq_true_eq] at hc
  obtain ⟨⟨hx0,hx1⟩,⟨hy0,hy1⟩,-⟩:=hc
  show ∃cs',jmq x y n=_∧_
  have hm:wr .i64 (wr .u64 (0 - y))=w64 (-y):=by rw [zS,jls];unfold w64 u64;omega
  by_cases h1:x=0
  ·subst h1
   have hv:jc 0 y=y:=by unfold jc;omega
   rw [hv]
   cases n with
   | false=>
    have hs:sgn false y=y:=rfl
    rw [hs]
    by_cases h2:y>9223372036854775807
    ·have hi:isI y=false:=by unfold isI;simp;omega
     refine ⟨[],(jv rfl).trans ((jy rfl).trans ((jy (decide_eq_true h2)).trans (jgY _ ?_ hi.symm))),jd⟩
     rw [hi];rfl
    ·have hi:isI y=true:=isI_iff.2 (by omega)
     refine ⟨[],(jv rfl).trans ((jy rfl).trans ((jv (decide_eq_false h2)).trans ((jv rfl).trans (jgY _ ?_ hi.symm)))),jd⟩
     rw [hi,if_pos rfl,jls];unfold w64;omega
   | true=>
    have hs:sgn true y = -y:=rfl
    rw [hs]
    by_cases h2:y>9223372036854775808
    ·have hi:isI (-y)=false:=by unfold isI;simp;omega
     refine ⟨[],(jv rfl).trans ((jv rfl).trans ((jy rfl).trans ((jy (decide_eq_true h2)).trans (jgY _ ?_ hi.symm)))),jd⟩
     rw [hi];rfl
    ·have hi:isI (-y)=true:=isI_iff.2 (by omega)
     refine ⟨[],(jv rfl).trans ((jv rfl).trans ((jy rfl).trans ((jv (decide_eq_false h2)).trans (jgY _ ?_ hi.symm)))),jd⟩
     rw [hi,if_pos rfl,hm];unfold w64;omega
  ·have hi:isI (sgn n (jc x y))=false:=by
    rw [←Bool.not_eq_true,isI_iff]
    cases n <;> unfold sgn jc <;> simp <;> omega
   refine ⟨[],(jy (by simpa using h1)).trans (jgY _ ?_ hi.symm),jd⟩
   rw [hi];rfl
 ·cases hF
def ofS:List LV→Option (LV×List (Bool×Bool))
 | [.v (.one (.int .i64 a))]=>some (.v (W1 a),[(isI a,true)])
 | _=>none
theorem jux:SumOK Tryz.prog 183 (jq ofS):=by
 refine sumwof.pure_re fun args v cs hF hc=> ?_
 unfold ofS at hF
 split at hF
 ·rename_i a
  cases hF
  simp only [jM,isU_iff,isI_iff,Bool.and_eq_true,decide_eq_true_eq] at hc
  obtain ⟨⟨hx0,hx1⟩,-⟩:=hc
  refine ⟨_,jkb (a:=a/_) _ ?_ ?_,jd⟩
  ·rw [jia];unfold wHi;omega
  ·rfl
 ·cases hF
def juy:List LV→Option (LV×List (Bool×Bool))
 | [.v (.agg [.int .i64 x,.int .u64 y]),.v (.agg [.int .i64 x',.int .u64 y'])]=>
  some (.tup [.agg [.int .i64 (w64 (wHi (jc x y+jc x' y'))),.int .u64 (wLo (jc x y+jc x' y'))],.one (.bool (isW (jc x y+jc x' y')))],[(isI x,true),(isU y,true),(isI x',true),(isU y',true)])
 | _=>none
theorem jmx:SumOK Tryz.prog 127 (jq juy):=by
 refine sumwadd.pure_re fun args v cs hF hc=> ?_
 unfold juy at hF
 split at hF
 ·rename_i x y x' y'
  cases hF
  simp only [jM,isU_iff,isI_iff,Bool.and_eq_true,decide_eq_true_eq] at hc
  obtain ⟨⟨hx0,hx1⟩,⟨hy0,hy1⟩,⟨hx0',hx1'⟩,⟨hy0',hy1'⟩,-⟩:=hc
  have e1:w64 (u64 (u64 x+u64 x'+(y+y'+0)/18446744073709551616))=w64 (wHi (jc x y+jc x' y')):=by unfold w64 u64 wHi jc;omega
  have e2:u64 (y+y'+0)=wLo (jc x y+jc x' y'):=by unfold u64 wLo jc;omega
  have e3:0≤u64 x∧0≤u64 x':=by unfold u64;omega
  by_cases h:(!decide (x<0)==decide (x'<0))=true
  ·have h':¬(x<0↔x'<0):=by
    by_cases a:x<0 <;> by_cases b:x'<0 <;> simp [a,b] at h ⊢
   refine ⟨_,(jy h).trans (jgX _ e1 e2 ?_), ?_⟩
   ·symm;rw [isW_iff];unfold jc;omega
   ·refine ja ?_ (ja ?_ jd) <;> simp only [Bool.and_eq_true,decide_eq_true_eq] <;> (try simp only [zS]) <;> omega
  ·have h':(x<0↔x'<0):=by
    by_cases a:x<0 <;> by_cases b:x'<0 <;> simp [a,b] at h ⊢
   refine ⟨_,(jv (by simpa using h)).trans (jgX _ e1 e2 ?_), ?_⟩
   ·rw [Bool.eq_iff_iff,isW_iff,beq_iff_eq,decide_eq_decide]
    show (w64 (u64 (u64 x+u64 x'+(y+y'+0)/18446744073709551616))<0↔_)↔_
    rw [e1]
    unfold w64 wHi jc;omega
   ·refine ja ?_ (ja ?_ jd) <;> simp only [Bool.and_eq_true,decide_eq_true_eq] <;> (try simp only [zS]) <;> omega
 ·cases hF
def S6:FuncId→Option SumK:=more (more (more (more (more (more (more (more (more (S5) 130 (jq juu)) 132 (jq juv)) 129 (jq jmr)) 185 (jq jg0)) 184 (jq jmt)) 128 (jq juw)) 131 (jq jmv)) 183 (jq ofS)) 127 (jq juy)
theorem sound6:Sound Tryz.prog S6:=(((((((((qD).more jqn).more jqo).more jms).more ji0).more jmu).more jqp).more jmw).more jux).more jmx
end Go.Proofs.YtbpfipbhaagllaaGreat
