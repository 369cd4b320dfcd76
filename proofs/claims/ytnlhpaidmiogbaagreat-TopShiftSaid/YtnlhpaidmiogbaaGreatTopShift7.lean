/- Joined texts. What each part proves stands ahead of it; no condition. -/
import Derived.Test.YtnlhpaidmiogbaaGreatLrM6

/- A region in pieces: what lies ahead of a call, the call (walked into in pieces of its own), what lies behind it. -/
set_option linter.unusedVariables false
namespace Go.Lr
open Go.RowKit
theorem jkf {P:Program} {o:Oper} {a:Act} {w:World} {next K:Act→World→Prop} {Q:Exit→Act→World→Prop} (h:o.wp P a w next (Exit.then K Q)):o.wp P a w next Q:=by
 unfold Oper.wp at *
 generalize (execOp a.eval o).run P w=r at *
 cases r with
 | ok n w'=>cases n <;> exact h
 | halt e w'=>cases e <;> exact h
theorem zM {P:Program} {ops:Array Oper} {Q:Exit→Act→World→Prop} {rest:List Nat}:∀(l:List Nat) (a:Act) (w:World),
  wpOps P ops (Exit.then (wpOps P ops Q rest) Q) l a w→wpOps P ops Q (l++rest) a w
 | [],a,w,h=>h
 | i::l,a,w,h=>by
  rw [List.cons_append,wpOps_cons]
  rw [wpOps_cons] at h
  unfold wpOp at *
  cases ho:ops[i]? with
  | none=>rw [ho] at h;exact zM l a w h
  | some o=>
   rw [ho] at h
   simp only at h ⊢
   split
   ·rename_i hw
    rw [if_pos hw] at h
    rcases h with h | h
    ·exact .inl (Oper.wp_mono (fun a w=>zM l a w) (jkf h))
    ·exact .inr h
   ·rename_i hw
    rw [if_neg hw] at h
    exact zM l _ w h
def yB (n:Nat):List Oper→Bool
 | []=>true
 | o::l=>match o.guard with
  | none=>yB n l
  | some (j,_)=>match Nat.blt j n with
   | true=>yB n l
   | false=>false
theorem Jp {n:Nat}:∀{l:List Oper} {o:Oper} {j:Nat} {b:Bool},yB n l=true→o∈l→o.guard=some (j,b)→j<n
 | [],_,_,_,_,h,_=>by cases h
 | x::l,o,j,b,h,hm,hg=>by
  unfold yB at h
  rcases List.mem_cons.1 hm with rfl | hm
  ·rw [hg] at h
   simp only at h
   split at h
   ·rename_i h1;rw [Ko] at h1;simpa using h1
   ·cases h
  ·split at h
   ·exact Jp h hm hg
   ·split at h
    ·exact Jp h hm hg
    ·cases h
theorem zN {P:Program} {ops:Array Oper} {n:Nat} {Q:Exit→Act→World→Prop} (hg:yB n (ops.toList.take n)=true):∀(l:List Nat) (a:Act) (w:World),(∀i∈l,i<n)→
  wpOps P (ops.toList.take n).toArray Q l a w→wpOps P ops Q l a w
 | [],a,w,_,h=>h
 | i::l,a,w,hl,h=>by
  have hget:∀j,j<n→(ops.toList.take n).toArray[j]? = ops[j]? :=by
   intro j hj
   rw [List.getElem?_toArray,List.getElem?_take_of_lt hj]
   simp
  have hi:=hl i (List.mem_cons_self ..)
  have hl':∀i∈l,i<n:=fun i hi=>hl i (List.mem_cons_of_mem _ hi)
  rw [wpOps_cons] at *
  unfold wpOp at *
  rw [hget i hi] at h
  cases ho:ops[i]? with
  | none=>rw [ho] at h;exact zN hg l a w hl' h
  | some o=>
   rw [ho] at h
   simp only at h ⊢
   have hw:Region.wanted o (yielded (ops.toList.take n).toArray a.tmps)=Region.wanted o (yielded ops a.tmps):=by
    unfold Region.wanted
    cases hgd:o.guard with
    | none=>rfl
    | some q=>
     obtain ⟨j,b⟩:=q
     have hmem:o∈ops.toList.take n:=by
      have:(ops.toList.take n)[i]? = some o:=by rw [List.getElem?_take_of_lt hi];simpa using ho
      exact List.mem_of_getElem? this
     have hj:=Jp hg hmem hgd
     simp only [yielded,hget j hj]
   rw [hw] at h
   split
   ·rename_i hx
    rw [if_pos hx] at h
    rcases h with h | h
    ·exact .inl (Oper.wp_mono (fun a w h=>zN hg l a w hl' h) h)
    ·exact .inr h
   ·rename_i hx
    rw [if_neg hx] at h
    exact zN hg l _ w hl' h
def ToO (P:Program) (sz:Nat) (ops:Array Oper) (k m:Nat) (A:Kst) (B:Kst→Prop):Prop:=
 ∀E a w,KR E sz A a w→∀(Q:Exit→Act→World→Prop) (rest:List Nat),(∀B0,B B0→∀E' a' w',KR E' sz B0 a' w'→Ext w E A.ms w' E' B0.ms→wpOps P ops Q rest a' w')→wpOps P ops Q (List.range' k m++rest) a w
section
variable {P:Program} {S:FuncId→Option SumK} {z:Md} {sz:Nat}
theorem ToO.seq {ops:Array Oper} {k m m':Nat} {A:Kst} {B C:Kst→Prop} (h:ToO P sz ops k m A B) (g:∀x,B x→ToO P sz ops (k+m) m' x C):ToO P sz ops k (m+m') A C:=by
 intro E a w hr Q rest hQ
 have e:List.range' k (m+m')++rest=List.range' k m++(List.range' (k+m) m'++rest):=by
  rw [←List.append_assoc,List.range'_append_1]
 rw [e]
 refine h E a w hr Q _ fun B0 hB E' a' w' hr' hx=> ?_
 exact g B0 hB E' a' w' hr' Q rest fun C0 hC E'' a'' w'' hr'' hx''=>hQ C0 hC E'' a'' w'' hr'' (hx.trans hx'')
theorem ToO.mono {ops:Array Oper} {k m:Nat} {A:Kst} {B C:Kst→Prop} (h:ToO P sz ops k m A B) (g:∀x,B x→C x):ToO P sz ops k m A C:=
 fun E a w hr Q rest hQ=>h E a w hr Q rest fun B0 hB=>hQ B0 (g B0 hB)
def qK:Code→Array Oper
 | .region _ o _=>o
 | _=> #[]
def jkg:Code→Bool
 | .region _ _ false=>true
 | _=>false
theorem ToP.of_ToO {c:Code} {n:Nat} {A:Kst} {B:Kst→Prop} (hc:jkg c=true) (hn:Nat.beq (qK c).toList.length n=true) (h:ToO P sz (qK c) 0 n A B):ToP P sz c A .normal B:=by
 unfold jkg at hc
 split at hc
 ·rename_i id o
  intro E a w hr Q hQ
  refine wp_region ?_
  have hn':o.size=n:=by have:=Nat.eq_of_beq_eq_true hn;simpa [qK] using this
  have:=h E a w hr Q [] fun B0 hB E' a' w' hr' hx=>by
   show Q .normal a' w'
   exact hQ B0 hB E' a' w' hr' hx
  rw [List.append_nil] at this
  rw [List.range_eq_range',hn']
  exact this
 ·cases hc
theorem ToO.run2 (hs:Sound P S) {ops:Array Oper} {k m:Nat} {A:Kst} {p:PS2} {n:Nat} {dec:List (Option Bool)} {mask:List Bool} {os:List (Bool×Bool)} {es:List Ob}
  (hg:yB (k+m) (ops.toList.take (k+m))=true) (hm:Nat.beq ((ops.toList.take (k+m)).drop k).length m=true)
  (hrun:∀dead,XT p .normal mask (jI (p.live.map (·.1)) (p.mem.map (·.1)) (Go.Lr.exec P S z n (.ops (ops.toList.take (k+m)) ((ops.toList.take (k+m)).drop k)) (A.st sz dead dec)))=some (os,es))
  (hos:∀c∈os,c.1=c.2) (hes:AllOb es) (hB:∀s,KstOK (j8 s p)) (hnb:Nat.ble A.nb p.nb=true):ToO P sz ops k m A (zX p):=by
 intro E a w hk Q rest hQ
 have hr:=hk.toR dec
 have h:=hrun fun t=>a.tmps.getD t undef
 cases hp:jI (p.live.map (·.1)) (p.mem.map (·.1)) (Go.Lr.exec P S z n (.ops (ops.toList.take (k+m)) ((ops.toList.take (k+m)).drop k)) (A.st sz (fun t=>a.tmps.getD t undef) dec)) with
 | none=>rw [hp] at h;cases h
 | some q=>
  obtain ⟨e0,vs,bs,cs⟩:=q
  rw [hp] at h
  simp only [XT] at h
  split at h
  ·rename_i he
   split at h
   ·rename_i es1 hv
    split at h
    ·rename_i es2 hb
     split at h
     ·rename_i os' ho
      simp only [Option.some.injEq,Prod.mk.injEq] at h
      obtain ⟨rfl,rfl⟩:=h
      have hcs:=zW ho hos
      have:=jfk he
      subst this
      unfold jI at hp
      split at hp
      ·rename_i e' s' hex
       simp only [Option.some.injEq,Prod.mk.injEq] at hp
       obtain ⟨rfl,gv,gb,rfl⟩:=hp
       obtain ⟨q1,q2,q3,q4,q5,q6⟩:=(kD (QZ P) hs.sums hs.mix hs.ng n).2.2.1 _ _ _ _ s' hex hk.le hr.st
       let s:Asg:=⟨fun k o=>iA (xe ((getM s'.mem k).elim [] (·.cells)) o),fun k o=>bA (xe ((getM s'.mem k).elim [] (·.cells)) o),fun k o=>iA (xe (xZ (getT s'.tm k)) o),fun k o=>bA (xe (xZ (getT s'.tm k)) o)⟩
       have e1:(p.live.map (·.1)).zip vs=XS s p.live:=QO (h:=getT s'.tm) hv hes.left gv fun k=>⟨rfl,rfl⟩
       obtain ⟨bs',rfl,e3⟩:=QP (s:=s) (h:=getM s'.mem) hb hes.right gb fun k b hb=>⟨by show (fun o=>iA (xe ((getM s'.mem k).elim [] (·.cells)) o))=_;rw [hb];rfl,by show (fun o=>bA (xe ((getM s'.mem k).elim [] (·.cells)) o))=_;rw [hb];rfl⟩
       have hB':KstOK ⟨(p.live.map (·.1)).zip vs,(p.mem.map (·.1)).zip bs',p.nb⟩:=by rw [e1,e3];exact hB s
       have hnb':=Nat.le_of_ble_eq_true hnb
       have hm':=Nat.eq_of_beq_eq_true hm
       refine zM _ a w (zN hg _ a w (fun i hi=>by have:=List.mem_range'_1.1 hi;omega) ?_)
       have q7:=q6 hcs (ops.toList.take (k+m)).toArray k (by simp) rfl E a w hr
       rw [hm'] at q7
       refine q7 _ fun E' a' w' hr' hx=> ?_
       have hsub:=Jb (p.mem.map (·.1)) bs' (getM s'.mem) gb
       show wpOps P ops Q rest a' w'
       refine hQ (j8 s p) ⟨s,rfl⟩ E' a' w' ?_ ?_
       ·have:j8 s p=⟨(p.live.map (·.1)).zip vs,(p.mem.map (·.1)).zip bs',p.nb⟩:=by rw [e1,e3];rfl
        rw [this]
        refine ⟨hB',hr'.size.trans q4,hk.le,hr'.defers,fun q hq=> ?_,⟨fun i b hib=>hr'.m.rel.blk i b (hsub i b hib),fun i j hi hj he=>hr'.m.rel.inj i j ?_ ?_ he⟩⟩
        ·rw [hr'.tm q.1,Jc (p.live.map (·.1)) vs (getT s'.tm) gv q hq]
        ·obtain ⟨b,hib⟩:=Option.isSome_iff_exists.1 hi;simp [hsub i b hib]
        ·obtain ⟨b,hjb⟩:=Option.isSome_iff_exists.1 hj;simp [hsub j b hjb]
       ·have:(j8 s p).ms=(Kst.mk ((p.live.map (·.1)).zip vs) ((p.mem.map (·.1)).zip bs') p.nb).ms:=by rw [e1,e3];rfl
        rw [this]
        refine ⟨hnb',hx.agree,hx.os,hx.tape,hx.output,hx.size,hx.frame,fun i hi=>hx.src i ?_⟩
        obtain ⟨b,hib⟩:=Option.isSome_iff_exists.1 hi
        simp [hsub i b hib]
      ·cases hp
     ·cases h
    ·cases h
   ·cases h
  ·cases h
theorem Zp {f:FuncId} {fn:Func} {c:Code} {args:List LV} {m:Mem} {nb:Nat} {B:Kst→Prop} {e:Ex} {v:Kst→LV} (hf:P.funcs[f]? = some fn) (hb:fn.body=some c)
  (hle:fn.ntmps≤60000) (hargs:args.length≤fn.ntmps) (hA:∀u∈args,u.ok (below nb)=true) (hm:∀i b,getM m i=some b→i<nb∧okL (below nb) b.cells=true) (hu:uniq m)
  (h:ToP P fn.ntmps c ⟨kC 0 args,m,nb⟩ e B) (he:e = .normal∨e = .ret)
  (hres:∀x,B x→∀dead,kx P fn.results.toList (getT (x.tm dead)) x.mem=some (v x)) (E:Env) (w:World) (hrel:Rel E (getM m) w):
  Calls P f (args.map (LV.den E)).toArray w fun e w'=>∃x E',B x∧e = .returned ((v x).den E')∧MRel E' x.ms w'∧Ext w E (Kst.ms ⟨kC 0 args,m,nb⟩) w' E' x.ms:=by
 refine calls_of_wp hf hb (h E _ w ⟨⟨fun q hq=> ?_,(zL args 0).1,fun q hq=> ?_,hm,hu⟩,by simp;omega,hle,rfl,fun q hq=> ?_,hrel⟩ _ fun B0 hB E' a' w' hr' hx'=> ?_)
 ·have:=(kK args 0 q).1 hq
  have:=(List.getElem?_eq_some_iff.1 this.2).1
  omega
 ·exact hA q.2 (List.mem_of_getElem? ((kK args 0 q).1 hq).2)
 ·have:=((kK args 0 q).1 hq).2
  simp only [Nat.sub_zero] at this
  have hlt:=(List.getElem?_eq_some_iff.1 this).1
  simp only [Array.getD_eq_getD_getElem?,Array.getElem?_append,List.size_toArray,List.length_map]
  rw [if_pos hlt]
  simp [this]
 ·have hR:=hr'.toR []
  have hpost:bodyPost P fn (fun e w'=>∃x E',B x∧e = .returned ((v x).den E')∧MRel E' x.ms w'∧Ext w E (Kst.ms ⟨kC 0 args,m,nb⟩) w' E' x.ms) .ret a' w':=
   ⟨hr'.defers,(v B0).den E',qV hR.m.rel hR.tm (hres B0 hB _),B0,E',hB,rfl,⟨hr'.rel,hr'.ok.okM,hr'.ok.uq⟩,hx'⟩
  rcases he with rfl | rfl
  ·exact hpost
  ·exact hpost
def jb1 (o:Option Oper):Option (Call×Tmp):=match o with
 | some o=>match o.op,o.dst,o.guard with
  | .call c,some t,none=>some (c,t)
  | _,_,_=>none
 | none=>none
theorem ToO.call (hs:Sound P S) {ops:Array Oper} {k:Nat} {A:Kst} {B:Kst→Prop} {cl:Call} {t:Tmp} {f:FuncId} {fn:Func} {c:Code} {args:List LV} {e:Ex} {v:Kst→LV} {live:List (Nat×LV)}
  (ho:jb1 ops[k]? = some (cl,t)) (hcal:∀dead,callee (getT (A.tm dead)) cl=some (f,args)) (hf:P.funcs[f]? = some fn) (hb:fn.body=some c)
  (hle:Nat.ble fn.ntmps 60000=true) (hargs:Nat.ble (jls args) fn.ntmps=true) (hlt:Nat.blt t sz=true)
  (h:ToP P fn.ntmps c ⟨kC 0 args,A.mem,A.nb⟩ e B) (he:e = .normal∨e = .ret)
  (hres:∀x,B x→∀dead,kx P fn.results.toList (getT (x.tm dead)) x.mem=some (v x))
  (hl:∀q∈live,q∈A.live∧q.1≠t) (hB:∀x,B x→KstOK ⟨(t,v x)::live,x.mem,x.nb⟩):
  ToO P sz ops k 1 A (fun y=>∃x,B x∧y=⟨(t,v x)::live,x.mem,x.nb⟩):=by
 intro E a w hk Q rest hQ
 have hr:=hk.toR []
 rw [List.range'_one,List.singleton_append,wpOps_cons]
 unfold wpOp
 unfold jb1 at ho
 cases hoo:ops[k]? with
 | none=>rw [hoo] at ho;cases ho
 | some o=>
  rw [hoo] at ho
  simp only at ho ⊢
  split at ho
  ·rename_i c0 t0 h1 h2 h3
   cases ho
   have hw:Region.wanted o (yielded ops a.tmps)=true:=by unfold Region.wanted;rw [h3]
   rw [if_pos hw]
   have hcal':=hcal fun t=>a.tmps.getD t undef
   have hao:∀u∈args,u.ok (below A.nb)=true:=zH (fun t=>hr.okT t) hcal'
   have hle':=Nat.le_of_ble_eq_true hle
   have hargs':=Nat.le_of_ble_eq_true hargs
   rw [jbt] at hargs'
   have hlt':t<sz:=by rw [Ko] at hlt;simpa using hlt
   refine .inl (CallOK.wp (R:=fun u w'=>∃x E',B x∧u=(v x).den E'∧MRel E' x.ms w'∧Ext w E (Kst.ms ⟨kC 0 args,A.mem,A.nb⟩) w' E' x.ms) h1 (J7 hr.tm) hcal' (.inl ⟨fn,hf,hs.ng f fn hf,by rw [hb];rfl, ?_⟩) ?_)
   ·refine (Zp hf hb hle' hargs' hao hk.ok.okM hk.ok.uq h he hres E w hk.rel).mono fun e w' he=> ?_
    obtain ⟨x,E',g1,g2,g3,g4⟩:=he
    exact ⟨_,g2,x,E',g1,rfl,g3,g4⟩
   ·rintro u w' ⟨x,E',g1,rfl,g3,g4⟩
    have hag:∀i,below A.nb i=true→E' i=E i:=fun j hj=>g4.agree j (show j<A.nb by simpa [below] using hj)
    refine hQ _ ⟨x,g1,rfl⟩ E' _ w' ⟨hB x g1, ?_,hk.le, ?_,fun q hq=> ?_,g3.rel⟩ ?_
    ·rw [h2];simp [Act.put,hk.size]
    ·rw [h2];exact hk.defers
    ·rw [h2]
     simp only [Act.put]
     rw [J6 _ _ _ _ (by rw [hk.size];exact hlt')]
     rcases List.mem_cons.1 hq with rfl | hq
     ·simp
     ·obtain ⟨l1,l2⟩:=hl q hq
      rw [if_neg l2,hk.tm q l1,LV.den_congr hag (hk.ok.okT q l1)]
    ·exact ⟨g4.nb,g4.agree,g4.os,g4.tape,g4.output,g4.size,g4.frame,g4.src⟩
  ·cases ho
end
end Go.Lr

/- A walk in pieces beside blocks that it does not touch. -/
set_option linter.unusedVariables false
namespace Go.Lr
open Go.RowKit
theorem zO:∀(m m2:Mem) (i:Nat),getM (m++m2) i=match getM m i with
  | some b=>some b
  | none=>getM m2 i
 | [],m2,i=>rfl
 | (j,c)::m,m2,i=>by
  rw [List.cons_append,jz,jz]
  by_cases h:i=j
  ·rw [if_pos h,if_pos h]
  ·rw [if_neg h,if_neg h];exact zO m m2 i
section
variable {P:Program} {sz:Nat}
theorem ToP.frame {c:Code} {live:List (Nat×LV)} {m m2:Mem} {nb:Nat} {e:Ex} {B:Kst→Prop} (h:ToP P sz c ⟨live,m,nb⟩ e B)
  (hA:KstOK ⟨live,m,nb⟩) (hd:∀i,(getM m2 i).isSome→getM m i=none) (hx:∀x,B x→∀i,(getM m2 i).isSome→getM x.mem i=none) (hB:∀x,B x→KstOK ⟨x.live,x.mem++m2,x.nb⟩):
  ToP P sz c ⟨live,m++m2,nb⟩ e (fun y=>∃x,B x∧y=⟨x.live,x.mem++m2,x.nb⟩):=by
 intro E a w hk Q hQ
 have hsub:∀i b,getM m i=some b→getM (m++m2) i=some b:=fun i b hi=>by rw [zO,hi]
 have hsub2:∀i b,getM m2 i=some b→getM (m++m2) i=some b:=fun i b hi=>by rw [zO,hd i (by rw [hi];rfl)];exact hi
 have hrel:Rel E (getM (m++m2)) w:=hk.rel
 have hk1:KR E sz ⟨live,m,nb⟩ a w:=⟨hA,hk.size,hk.le,hk.defers,hk.tm,hrel.sub hsub⟩
 refine h E a w hk1 Q fun x hxB E' a' w' hr hx'=> ?_
 refine hQ _ ⟨x,hxB,rfl⟩ E' a' w' ?_ ?_
 ·have hlt:∀i b,getM m2 i=some b→i<nb∧okL (below nb) b.cells=true:=fun i b hi=>hk.ok.okM i b (hsub2 i b hi)
  have hag:∀i,i<nb→E' i=E i:=hx'.agree
  have hblk2:∀i b,getM m2 i=some b→blkAt E' i b w':=by
   intro i b hi
   obtain ⟨l1,l2⟩:=hlt i b hi
   obtain ⟨r,u1,u2,u3⟩:=hrel.blk i b (hsub2 i b hi)
   refine ⟨r, ?_,u2,fun hz=>by rw [hag i l1];exact u3 hz⟩
   rw [hag i l1,hx'.frame _ (Array.getElem?_eq_some_iff.1 u1).1 fun q hq hqe=> ?_]
   ·rw [u1,kk (E:=E) (E':=E') (p:=below nb) (fun t ht=>hag t (by simpa [below] using ht)) l2]
   ·obtain ⟨bq,hbq⟩:=Option.isSome_iff_exists.1 hq
    have hbq':getM m q=some bq:=hbq
    have:=hrel.inj q i (by rw [hsub q bq hbq'];rfl) (by rw [hsub2 i b hi];rfl) hqe
    subst this
    have:=hd q (by rw [hi];rfl)
    rw [hbq'] at this
    cases this
  have cross:∀i j,(getM x.mem i).isSome→(getM m2 j).isSome→(E' i).1=(E' j).1→False:=by
   intro i j hi hj he
   obtain ⟨b,hb⟩:=Option.isSome_iff_exists.1 hj
   obtain ⟨l1,l2⟩:=hlt j b hb
   obtain ⟨r,u1,u2,u3⟩:=hrel.blk j b (hsub2 j b hb)
   rw [hag j l1] at he
   rcases hx'.src i hi with hz | ⟨q,hq,hqe⟩
   ·have:=(Array.getElem?_eq_some_iff.1 u1).1
    omega
   ·obtain ⟨bq,hbq⟩:=Option.isSome_iff_exists.1 hq
    have hbq':getM m q=some bq:=hbq
    have:=hrel.inj q j (by rw [hsub q bq hbq'];rfl) (by rw [hsub2 j b hb];rfl) (hqe.symm.trans he)
    subst this
    have:=hd q hj
    rw [hbq'] at this
    cases this
  refine ⟨hB x hxB,hr.size,hr.le,hr.defers,hr.tm,⟨fun i b hi=> ?_,fun i j hi hj he=> ?_⟩⟩
  ·have hi':getM (x.mem++m2) i=some b:=hi
   rw [zO] at hi'
   cases hxi:getM x.mem i with
   | some c=>rw [hxi] at hi';cases hi';exact hr.rel.blk i _ hxi
   | none=>rw [hxi] at hi';exact hblk2 i b hi'
  ·have hi':(getM (x.mem++m2) i).isSome:=hi
   have hj':(getM (x.mem++m2) j).isSome:=hj
   rw [zO] at hi' hj'
   cases hxi:getM x.mem i with
   | some c=>
    cases hxj:getM x.mem j with
    | some c2=>exact hr.rel.inj i j (by rw [hxi];rfl) (by rw [hxj];rfl) he
    | none=>rw [hxj] at hj';exact (cross i j (by rw [hxi];rfl) hj' he).elim
   | none=>
    rw [hxi] at hi'
    cases hxj:getM x.mem j with
    | some c2=>exact (cross j i (by rw [hxj];rfl) hi' he.symm).elim
    | none=>
     rw [hxj] at hj'
     obtain ⟨b1,h1⟩:=Option.isSome_iff_exists.1 hi'
     obtain ⟨b2,h2⟩:=Option.isSome_iff_exists.1 hj'
     rw [hag i (hlt i b1 h1).1,hag j (hlt j b2 h2).1] at he
     exact hrel.inj i j (by rw [hsub2 i b1 h1];rfl) (by rw [hsub2 j b2 h2];rfl) he
 ·refine ⟨hx'.nb,hx'.agree,hx'.os,hx'.tape,hx'.output,hx'.size,fun b hb hn=>hx'.frame b hb fun i hi=> ?_,fun i hi=> ?_⟩
  ·obtain ⟨c,hc⟩:=Option.isSome_iff_exists.1 hi
   refine hn i ?_
   show (getM (m++m2) i).isSome
   rw [hsub i c hc];rfl
  ·have hi':(getM (x.mem++m2) i).isSome:=hi
   rw [zO] at hi'
   cases hxi:getM x.mem i with
   | some c=>
    rcases hx'.src i (by show (getM x.mem i).isSome;rw [hxi];rfl) with hz | ⟨q,hq,hqe⟩
    ·exact .inl hz
    ·obtain ⟨c2,hc2⟩:=Option.isSome_iff_exists.1 hq
     refine .inr ⟨q, ?_,hqe⟩
     show (getM (m++m2) q).isSome
     rw [hsub q c2 hc2];rfl
   | none=>
    rw [hxi] at hi'
    obtain ⟨b1,h1⟩:=Option.isSome_iff_exists.1 hi'
    refine .inr ⟨i, ?_, ?_⟩
    ·show (getM (m++m2) i).isSome
     rw [hsub2 i b1 h1];rfl
    ·rw [hx'.agree i (hk.ok.okM i b1 (hsub2 i b1 h1)).1]
variable {S:FuncId→Option SumK}
def jb2 (τ:Nat→LV) (o:Option Oper):Option (FuncId×List LV×Tmp):=match jb1 o with
 | some (c,t)=>match callee τ c with
  | some (f,args)=>some (f,args,t)
  | none=>none
 | none=>none
def KF (t:Nat) (ks:List Nat):List (Nat×LV)→List (Nat×LV)
 | []=>[]
 | q::l=>match Jg ks q.1 with
  | true=>match Nat.beq q.1 t with
   | true=>KF t ks l
   | false=>q::KF t ks l
  | false=>KF t ks l
theorem zP {t:Nat} {ks:List Nat}:∀{l:List (Nat×LV)},∀q∈KF t ks l,q∈l∧q.1≠t
 | [],q,h=>by cases h
 | x::l,q,h=>by
  unfold KF at h
  split at h
  ·split at h
   ·obtain ⟨a,b⟩:=zP q h
    exact ⟨List.mem_cons_of_mem _ a,b⟩
   ·rename_i hb
    rcases List.mem_cons.1 h with rfl | h
    ·exact ⟨List.mem_cons_self ..,fun e=>by rw [e] at hb;simp at hb⟩
    ·obtain ⟨a,b⟩:=zP q h
     exact ⟨List.mem_cons_of_mem _ a,b⟩
  ·obtain ⟨a,b⟩:=zP q h
   exact ⟨List.mem_cons_of_mem _ a,b⟩
theorem ToO.callK (hs:Sound P S) {ops:Array Oper} {k:Nat} {A:Kst} {B:Kst→Prop} {t:Tmp} {f:FuncId} {fn:Func} {c:Code} {args:List LV} {e:Ex} {v:Kst→LV} (ks:List Nat)
  (hcal:∀dead,jb2 (getT (A.tm dead)) ops[k]? = some (f,args,t)) (hf:P.funcs[f]? = some fn) (hb:fn.body=some c)
  (hle:Nat.ble fn.ntmps 60000=true) (hargs:Nat.ble (jls args) fn.ntmps=true) (hlt:Nat.blt t sz=true)
  (h:ToP P fn.ntmps c ⟨kC 0 args,A.mem,A.nb⟩ e B) (he:e = .normal∨e = .ret)
  (hres:∀x,B x→∀dead,kx P fn.results.toList (getT (x.tm dead)) x.mem=some (v x))
  (hB:∀x,B x→KstOK ⟨(t,v x)::KF t ks A.live,x.mem,x.nb⟩):
  ToO P sz ops k 1 A (fun y=>∃x,B x∧y=⟨(t,v x)::KF t ks A.live,x.mem,x.nb⟩):=by
 cases ho:jb1 ops[k]? with
 | none=>
  have:=hcal fun _=>undef
  unfold jb2 at this
  rw [ho] at this
  cases this
 | some q=>
  obtain ⟨cl,t'⟩:=q
  have key:∀dead,callee (getT (A.tm dead)) cl=some (f,args)∧t'=t:=by
   intro dead
   have:=hcal dead
   unfold jb2 at this
   rw [ho] at this
   simp only at this
   split at this
   ·rename_i f' args' h1
    simp only [Option.some.injEq,Prod.mk.injEq] at this
    obtain ⟨rfl,rfl,rfl⟩:=this
    exact ⟨h1,rfl⟩
   ·cases this
  obtain rfl:=(key fun _=>undef).2
  exact ToO.call hs ho (fun dead=>(key dead).1) hf hb hle hargs hlt h he hres (fun q hq=>zP q hq) hB
end
end Go.Lr

/- astrolabetop.awake: stage by stage; numbers behind the tilt do not matter. -/
namespace Go.Proofs.YtnlhpaidmiogbaaGreat
open Go.Lr
set_option linter.unusedVariables false
def zF:Md:=⟨false,false,false⟩
def XG:List Go.Lr.P1:=[pI 8000,pI 40000,pI 16]++rp 7 (pI 5)++[pI 1000000,pI 1000000,pI 1000000,pI 1000000,pI 1000000,pI 1000000,pI 1048576,pI 1048576,pI 1048576,pI 1048576,pI 17179869184,pI 17179869184,pI 17179869184,pI 16384,pI 16384,pI 16384,pI 1024,pI 1024,pI 1024,pI 65536,pI 65536,pI 65536,pI 16384,pI 16384,pI 16384,pI 16384,pI 16384,pI 16384,pI 17179869184,pI 17179869184,pI 68719476736,pI 68719476736,pI 68719476736,pI 68719476736,pI 17592186044416,pI 17592186044416,pI 17592186044416,pI 17592186044416,pI 17592186044416,pI 17592186044416,pI 67108864,pI 67108864,pI 67108864,pI 4294967296,pI 4294967296,pI 4294967296,pI 17179869184,pI 17179869184,pI 17179869184,pI 17179869184,pI 17179869184,pI 17179869184,pI 17592186044416,pI 17592186044416,pI 5000000,pI 68719476736,pI 1,pI 268435456,pI 32,pI 0,pI 0,pI 0]
def Zo:List Go.Lr.P1:=[pI 68719476736,pI 68719476736,pI 68719476736,pI 68719476736,pI 17592186044416,pI 17592186044416,pI 17592186044416,pI 17592186044416,pI 17592186044416,pI 17592186044416,pI 67108864,pI 67108864,pI 67108864,pI 4294967296,pI 4294967296,pI 4294967296,pI 17179869184,pI 17179869184,pI 17179869184,pI 17179869184,pI 17179869184,pI 17179869184,pI 17592186044416,pI 17592186044416]
def jC2:List Go.Lr.P1:=[pI 0,pI 0,pB false,pI 0,pI 1000000,pI 5,pI 0,pI 0,pB false,pI 1,pI 1000000,pI 5,pI 0,pI 0,pB false,pI 2,pI 1000000,pI 5,pI 0,pI 0,pB false,pI 3,pI 1000000,pI 5,pI 0,pI 0,pB false,pI 4,pI 1000000,pI 5,pI 0,pI 0,pB false,pI 5,pI 1000000,pI 5,pI 0]
def kT:List Go.Lr.P1:=[pI 8000,pI 0,pI 0,pI 0,pI 0,pI 0,pI (-84238486)]
def XH:List Go.Lr.P1:=[pL (.ptr 20 0),pL (.ptr 21 0),pL (.ptr 22 0),pL (.ptr 23 0),pL (.ptr 24 0),pL (.ptr 25 0),pL (.ptr 18 0)]
def XI:List Go.Lr.P1:=[pI 1073741824]++rp 9 (pI 0)++[pL .nilsl]
def wFr:Nat×PB:=(16,⟨129,(0,0),0,[pI 0,pI 0,pI 0,pI 12157770197,pI 12239707452]⟩)
def wMo:Nat×PB:=(18,⟨184,(0,0),0,jC2⟩)
def XJ (h:Int):List (Nat×PB):=[(20,⟨171,(0,0),0,[pI 0,pI 0,pI 0,pI 0,pI 0,pI 16,pL .nilsl,pI h]⟩),(21,⟨171,(0,0),0,[pI 0,pI 0,pI 0,pI 0,pI 0,pI 16,pL .nilsl,pI h]⟩),(22,⟨171,(0,0),0,[pI 0,pI 0,pI 0,pI 0,pI 0,pI 16,pL .nilsl,pI h]⟩),(23,⟨171,(0,0),0,[pI 0,pI 0,pI 0,pI 0,pI 0,pI 16,pL .nilsl,pI h]⟩),(24,⟨171,(0,0),0,[pI 0,pI 0,pI 0,pI 0,pI 0,pI 16,pL .nilsl,pI h]⟩),(25,⟨171,(0,0),0,[pI 0,pI 0,pI 0,pI 0,pI 0,pI 16,pL .nilsl,pI h]⟩)]
def jnv:PS:=⟨[],[],0⟩
theorem jv3 (s:Asg):ToP Tryz.prog 44 (c1 (jk Tryz.prog 9)) (⟨[],[],0⟩:Kst) .normal (Fil jnv):=ToP.run (z:=zF) (n:=20000) (dec:=[]) soundK37u (fun dead=>by kernel_rfl) (fun s=>by kernel_rfl) (by kernel_rfl)
def jnw:PS:=⟨[(1,.one (pL (.ptr 9 0))),(2,.one (pI 0))],[(9,⟨97,(0,0),0,XG++[pB false,pI 1073741824]++rp 299 (pI 0)++Zo++[pL (.ptr 16 0),pL (.ptr 17 0),pL .nilsl]++XH++[pI 0,pI 0,pB false,pB false,pL (.ptr 19 0),pB false,pI 0,pI 0,pI 0,pI 0,pB false,pB false,pB false,pI 0,pI 0,pI 0]++XI⟩),wFr,(17,⟨207,(0,0),0,[pI 8000]++rp 8 (pI 0)++[pB false]⟩),wMo,(19,⟨210,(0,0),0,[pI 32,pI 268435456,pL .nilsl]⟩)]++XJ (-9223372036854775808),26⟩
theorem jv4 (s:Asg):ToP Tryz.prog 44 (c1 (c2 (jk Tryz.prog 9))) (Ke s jnv) .normal (Fil jnw):=ToP.run (z:=zF) (n:=20000) (dec:=[]) soundK37u (fun dead=>by kernel_rfl) (fun s=>by kernel_rfl) (by kernel_rfl)
def jnx:PS:=⟨[(1,.one (pL (.ptr 9 0)))],[(9,⟨97,(0,0),0,XG++[pB false,pI 1073741824]++rp 299 (pI 0)++Zo++[pL (.ptr 16 0),pL (.ptr 17 0),pL .nilsl]++XH++[pI 0,pI 0,pB false,pB false,pL (.ptr 19 0),pB false,pI 0,pI 0,pI 0,pI 0,pB false,pB false,pB false,pI 0,pI 0,pI 0]++XI⟩),wFr,(17,⟨207,(0,0),0,[pI 8000]++rp 8 (pI 0)++[pB false]⟩),wMo,(19,⟨210,(0,0),0,[pI 32,pI 268435456,pL .nilsl]⟩)]++XJ (-9223372036854775808),26⟩
theorem jv5 (s:Asg):ToP Tryz.prog 44 (c1 (c2 (c2 (jk Tryz.prog 9)))) (Ke s jnw) .normal (Fil jnx):=ToP.run (z:=zF) (n:=20000) (dec:=[]) soundK37u (fun dead=>by kernel_rfl) (fun s=>by kernel_rfl) (by kernel_rfl)
def jkd:PS:=⟨[(1,.one (pL (.ptr 9 0))),(3,.one (pI 1))],[(9,⟨97,(0,0),0,XG++[pB false,pI 1073741824]++rp 299 (pI 0)++Zo++[pL (.ptr 16 0),pL (.ptr 17 0),pL .nilsl]++XH++[pI 0,pI 0,pB false,pB false,pL (.ptr 19 0),pB false,pI 0,pI 0,pI 0,pI 0,pB false,pB false,pB false,pI 0,pI 0,pI 0]++XI⟩),wFr,(17,⟨207,(0,0),0,[pI 8000]++rp 8 (pI 0)++[pB false]⟩),wMo,(19,⟨210,(0,0),0,[pI 32,pI 268435456,pL .nilsl]⟩)]++XJ (-9223372036854775808),26⟩
theorem jv6 (s:Asg):ToP Tryz.prog 44 (c1 (c1 (c2 (c2 (c2 (jk Tryz.prog 9)))))) (Ke s jnx) .normal (Fil jkd):=ToP.run (z:=zF) (n:=20000) (dec:=[]) soundK37u (fun dead=>by kernel_rfl) (fun s=>by kernel_rfl) (by kernel_rfl)
def jny:PS:=⟨[(1,.one (pL (.ptr 9 0))),(3,.one (pI 2))],[(9,⟨97,(0,0),0,XG++[pB false,pI 1073741824]++rp 299 (pI 0)++Zo++[pL (.ptr 16 0),pL (.ptr 17 0),pL (.slu 32 1)]++XH++[pI 0,pI 0,pB false,pB false,pL (.ptr 19 0),pB false,pI 0,pI 0,pI 0,pI 0,pB false,pB false,pB false,pI 0,pI 0,pI 0]++XI⟩),wFr,(17,⟨207,(0,0),0,[pI 8000,pI 8000]++rp 7 (pI 0)++[pB true]⟩),wMo,(19,⟨210,(0,0),0,[pI 32,pI 268435456,pL .nilsl]⟩)]++XJ (-9223372036854775808)++[(32,⟨66,(0,0),8,[pI 8000]++kT⟩)],33⟩
theorem jv7 (s:Asg):ToP Tryz.prog 44 (c1 (c1 (c2 (c1 (c2 (c2 (c2 (jk Tryz.prog 9)))))))) (Ke s jkd) .normal (Fil jny):=ToP.run (z:=zF) (n:=20000) (dec:=[]) soundK37u (fun dead=>by kernel_rfl) (fun s=>by kernel_rfl) (by kernel_rfl)
def jnz:PS:=⟨[(1,.one (pL (.ptr 9 0))),(3,.one (pI 3))],[(9,⟨97,(0,0),0,XG++[pB false,pI 1073741824]++rp 299 (pI 0)++Zo++[pL (.ptr 16 0),pL (.ptr 17 0),pL (.slu 39 2)]++XH++[pI 0,pI 0,pB false,pB false,pL (.ptr 19 0),pB false,pI 0,pI 0,pI 0,pI 0,pB false,pB false,pB false,pI 0,pI 0,pI 0]++XI⟩),wFr,(17,⟨207,(0,0),0,[pI 8000,pI 16000]++rp 7 (pI 0)++[pB true]⟩),wMo,(19,⟨210,(0,0),0,[pI 32,pI 268435456,pL .nilsl]⟩)]++XJ (-9223372036854775808)++[(39,⟨66,(0,0),8,[pI 8000]++kT++[pI 16000]++kT⟩)],40⟩
theorem jv8 (s:Asg):ToP Tryz.prog 44 (c1 (c1 (c2 (c1 (c2 (c2 (c2 (jk Tryz.prog 9)))))))) (Ke s jny) .normal (Fil jnz):=ToP.run (z:=zF) (n:=20000) (dec:=[]) soundK37u (fun dead=>by kernel_rfl) (fun s=>by kernel_rfl) (by kernel_rfl)
def jnA:PS:=⟨[(1,.one (pL (.ptr 9 0))),(3,.one (pI 4))],[(9,⟨97,(0,0),0,XG++[pB false,pI 1073741824]++rp 299 (pI 0)++Zo++[pL (.ptr 16 0),pL (.ptr 17 0),pL (.slu 46 3)]++XH++[pI 0,pI 0,pB false,pB false,pL (.ptr 19 0),pB false,pI 0,pI 0,pI 0,pI 0,pB false,pB false,pB false,pI 0,pI 0,pI 0]++XI⟩),wFr,(17,⟨207,(0,0),0,[pI 8000,pI 24000]++rp 7 (pI 0)++[pB true]⟩),wMo,(19,⟨210,(0,0),0,[pI 32,pI 268435456,pL .nilsl]⟩)]++XJ (-9223372036854775808)++[(46,⟨66,(0,0),8,[pI 8000]++kT++[pI 16000]++kT++[pI 24000]++kT⟩)],47⟩
theorem jv9 (s:Asg):ToP Tryz.prog 44 (c1 (c1 (c2 (c1 (c2 (c2 (c2 (jk Tryz.prog 9)))))))) (Ke s jnz) .normal (Fil jnA):=ToP.run (z:=zF) (n:=20000) (dec:=[]) soundK37u (fun dead=>by kernel_rfl) (fun s=>by kernel_rfl) (by kernel_rfl)
def jnB:PS:=⟨[(1,.one (pL (.ptr 9 0))),(3,.one (pI 5))],[(9,⟨97,(0,0),0,XG++[pB false,pI 1073741824]++rp 299 (pI 0)++Zo++[pL (.ptr 16 0),pL (.ptr 17 0),pL (.slu 53 4)]++XH++[pI 0,pI 0,pB false,pB false,pL (.ptr 19 0),pB false,pI 0,pI 0,pI 0,pI 0,pB false,pB false,pB false,pI 0,pI 0,pI 0]++XI⟩),wFr,(17,⟨207,(0,0),0,[pI 8000,pI 32000]++rp 7 (pI 0)++[pB true]⟩),wMo,(19,⟨210,(0,0),0,[pI 32,pI 268435456,pL .nilsl]⟩)]++XJ (-9223372036854775808)++[(53,⟨66,(0,0),8,[pI 8000]++kT++[pI 16000]++kT++[pI 24000]++kT++[pI 32000]++kT⟩)],54⟩
theorem jwa (s:Asg):ToP Tryz.prog 44 (c1 (c1 (c2 (c1 (c2 (c2 (c2 (jk Tryz.prog 9)))))))) (Ke s jnA) .normal (Fil jnB):=ToP.run (z:=zF) (n:=20000) (dec:=[]) soundK37u (fun dead=>by kernel_rfl) (fun s=>by kernel_rfl) (by kernel_rfl)
def jnC:PS:=⟨[(1,.one (pL (.ptr 9 0))),(3,.one (pI 6))],[(9,⟨97,(0,0),0,XG++[pB false,pI 1073741824]++rp 299 (pI 0)++Zo++[pL (.ptr 16 0),pL (.ptr 17 0),pL (.slu 60 5)]++XH++[pI 0,pI 0,pB false,pB false,pL (.ptr 19 0),pB false,pI 0,pI 0,pI 0,pI 0,pB false,pB false,pB false,pI 0,pI 0,pI 0]++XI⟩),wFr,(17,⟨207,(0,0),0,[pI 8000,pI 40000]++rp 7 (pI 0)++[pB true]⟩),wMo,(19,⟨210,(0,0),0,[pI 32,pI 268435456,pL .nilsl]⟩)]++XJ (-9223372036854775808)++[(60,⟨66,(0,0),8,[pI 8000]++kT++[pI 16000]++kT++[pI 24000]++kT++[pI 32000]++kT++[pI 40000]++kT⟩)],61⟩
theorem jwb (s:Asg):ToP Tryz.prog 44 (c1 (c1 (c2 (c1 (c2 (c2 (c2 (jk Tryz.prog 9)))))))) (Ke s jnB) .normal (Fil jnC):=ToP.run (z:=zF) (n:=20000) (dec:=[]) soundK37u (fun dead=>by kernel_rfl) (fun s=>by kernel_rfl) (by kernel_rfl)
def jnD:PS:=⟨[(1,.one (pL (.ptr 9 0))),(3,.one (pI 7))],[(9,⟨97,(0,0),0,XG++[pB false,pI 1073741824]++rp 299 (pI 0)++Zo++[pL (.ptr 16 0),pL (.ptr 17 0),pL (.slu 69 5)]++XH++[pI 0,pI 0,pB false,pB false,pL (.ptr 19 0),pB false,pI 1,pI 0,pI 0,pI (-84238486),pB false,pB false,pB false,pI 0,pI 8000,pI 0]++XI⟩),wFr,(17,⟨207,(0,0),0,[pI 8000,pI 48000]++rp 7 (pI 0)++[pB true]⟩),wMo,(19,⟨210,(0,0),0,[pI 32,pI 268435456,pL .nilsl]⟩)]++XJ 8000++[(69,⟨66,(0,0),8,[pI 16000]++kT++[pI 24000]++kT++[pI 32000]++kT++[pI 40000]++kT++[pI 48000]++kT⟩)],91⟩
theorem jwc (s:Asg):ToP Tryz.prog 44 (c1 (c1 (c2 (c1 (c2 (c2 (c2 (jk Tryz.prog 9)))))))) (Ke s jnC) .normal (Fil jnD):=ToP.run (z:=zF) (n:=20000) (dec:=[]) soundK37u (fun dead=>by kernel_rfl) (fun s=>by kernel_rfl) (by kernel_rfl)
def jnE:PS:=⟨[(1,.one (pL (.ptr 9 0))),(3,.one (pI 8))],[(9,⟨97,(0,0),0,XG++[pB false,pI 1073741824]++rp 299 (pI 0)++Zo++[pL (.ptr 16 0),pL (.ptr 17 0),pL (.slu 99 5)]++XH++[pI 0,pI 0,pB false,pB false,pL (.ptr 19 0),pB false,pI 2,pI 0,pI 0,pI (-168476972),pB false,pB false,pB false,pI 0,pI 16000,pI 0]++XI⟩),wFr,(17,⟨207,(0,0),0,[pI 8000,pI 56000]++rp 7 (pI 0)++[pB true]⟩),wMo,(19,⟨210,(0,0),0,[pI 32,pI 268435456,pL .nilsl]⟩)]++XJ 16000++[(99,⟨66,(0,0),8,[pI 24000]++kT++[pI 32000]++kT++[pI 40000]++kT++[pI 48000]++kT++[pI 56000]++kT⟩)],121⟩
theorem jwd (s:Asg):ToP Tryz.prog 44 (c1 (c1 (c2 (c1 (c2 (c2 (c2 (jk Tryz.prog 9)))))))) (Ke s jnD) .normal (Fil jnE):=ToP.run (z:=zF) (n:=20000) (dec:=[]) soundK37u (fun dead=>by kernel_rfl) (fun s=>by kernel_rfl) (by kernel_rfl)
def jnF:PS:=⟨[(1,.one (pL (.ptr 9 0))),(3,.one (pI 9))],[(9,⟨97,(0,0),0,XG++[pB false,pI 1073741824]++rp 299 (pI 0)++Zo++[pL (.ptr 16 0),pL (.ptr 17 0),pL (.slu 129 5)]++XH++[pI 0,pI 0,pB false,pB false,pL (.ptr 19 0),pB false,pI 3,pI 0,pI 0,pI (-252715458),pB false,pB false,pB false,pI 0,pI 24000,pI 0]++XI⟩),wFr,(17,⟨207,(0,0),0,[pI 8000,pI 64000]++rp 7 (pI 0)++[pB true]⟩),wMo,(19,⟨210,(0,0),0,[pI 32,pI 268435456,pL .nilsl]⟩)]++XJ 24000++[(129,⟨66,(0,0),8,[pI 32000]++kT++[pI 40000]++kT++[pI 48000]++kT++[pI 56000]++kT++[pI 64000]++kT⟩)],151⟩
theorem jwe (s:Asg):ToP Tryz.prog 44 (c1 (c1 (c2 (c1 (c2 (c2 (c2 (jk Tryz.prog 9)))))))) (Ke s jnE) .normal (Fil jnF):=ToP.run (z:=zF) (n:=20000) (dec:=[]) soundK37u (fun dead=>by kernel_rfl) (fun s=>by kernel_rfl) (by kernel_rfl)
def jnG:PS:=⟨[(1,.one (pL (.ptr 9 0))),(3,.one (pI 10))],[(9,⟨97,(0,0),0,XG++[pB false,pI 1073741824]++rp 299 (pI 0)++Zo++[pL (.ptr 16 0),pL (.ptr 17 0),pL (.slu 159 5)]++XH++[pI 0,pI 0,pB false,pB false,pL (.ptr 19 0),pB false,pI 4,pI 0,pI 0,pI (-336953944),pB false,pB false,pB false,pI 0,pI 32000,pI 0]++XI⟩),wFr,(17,⟨207,(0,0),0,[pI 8000,pI 72000]++rp 7 (pI 0)++[pB true]⟩),wMo,(19,⟨210,(0,0),0,[pI 32,pI 268435456,pL .nilsl]⟩)]++XJ 32000++[(159,⟨66,(0,0),8,[pI 40000]++kT++[pI 48000]++kT++[pI 56000]++kT++[pI 64000]++kT++[pI 72000]++kT⟩)],181⟩
theorem jwf (s:Asg):ToP Tryz.prog 44 (c1 (c1 (c2 (c1 (c2 (c2 (c2 (jk Tryz.prog 9)))))))) (Ke s jnF) .normal (Fil jnG):=ToP.run (z:=zF) (n:=20000) (dec:=[]) soundK37u (fun dead=>by kernel_rfl) (fun s=>by kernel_rfl) (by kernel_rfl)
def jjc:PS:=⟨[(1,.one (pL (.ptr 9 0))),(3,.one (pI 11))],[(9,⟨97,(0,0),0,XG++[pB false,pI 1073741824]++rp 299 (pI 0)++Zo++[pL (.ptr 16 0),pL (.ptr 17 0),pL (.slu 189 5)]++XH++[pI 0,pI 0,pB false,pB false,pL (.ptr 19 0),pB false,pI 5,pI 0,pI 0,pI (-421192430),pB false,pB false,pB false,pI 0,pI 40000,pI 0]++XI⟩),wFr,(17,⟨207,(0,0),0,[pI 8000,pI 80000]++rp 7 (pI 0)++[pB true]⟩),wMo,(19,⟨210,(0,0),0,[pI 32,pI 268435456,pL .nilsl]⟩)]++XJ 40000++[(189,⟨66,(0,0),8,[pI 48000]++kT++[pI 56000]++kT++[pI 64000]++kT++[pI 72000]++kT++[pI 80000]++kT⟩)],211⟩
theorem jnH (s:Asg):ToP Tryz.prog 44 (c1 (c1 (c2 (c1 (c2 (c2 (c2 (jk Tryz.prog 9)))))))) (Ke s jnG) .normal (Fil jjc):=ToP.run (z:=zF) (n:=20000) (dec:=[]) soundK37u (fun dead=>by kernel_rfl) (fun s=>by kernel_rfl) (by kernel_rfl)
def jjd:PS:=⟨[(1,.one (pL (.ptr 9 0))),(3,.one (pI 12))],[(9,⟨97,(0,0),0,XG++[pB false,pI 1073741824]++rp 299 (pI 0)++Zo++[pL (.ptr 16 0),pL (.ptr 17 0),pL (.slu 219 5)]++XH++[pI 0,pI 0,pB false,pB false,pL (.ptr 19 0),pB false,pI 6,pI 0,pI 0,pI (-505430916),pB false,pB false,pB false,pI 0,pI 48000,pI 0]++XI⟩),wFr,(17,⟨207,(0,0),0,[pI 8000,pI 88000]++rp 7 (pI 0)++[pB true]⟩),wMo,(19,⟨210,(0,0),0,[pI 32,pI 268435456,pL .nilsl]⟩)]++XJ 48000++[(219,⟨66,(0,0),8,[pI 56000]++kT++[pI 64000]++kT++[pI 72000]++kT++[pI 80000]++kT++[pI 88000]++kT⟩)],241⟩
theorem jnI (s:Asg):ToP Tryz.prog 44 (c1 (c1 (c2 (c1 (c2 (c2 (c2 (jk Tryz.prog 9)))))))) (Ke s jjc) .normal (Fil jjd):=ToP.run (z:=zF) (n:=20000) (dec:=[]) soundK37u (fun dead=>by kernel_rfl) (fun s=>by kernel_rfl) (by kernel_rfl)
def jje:PS:=⟨[(1,.one (pL (.ptr 9 0))),(3,.one (pI 13))],[(9,⟨97,(0,0),0,XG++[pB false,pI 1073741824]++rp 299 (pI 0)++Zo++[pL (.ptr 16 0),pL (.ptr 17 0),pL (.slu 249 5)]++XH++[pI 0,pI 0,pB false,pB false,pL (.ptr 19 0),pB false,pI 7,pI 0,pI 0,pI (-589669402),pB false,pB false,pB false,pI 0,pI 56000,pI 0]++XI⟩),wFr,(17,⟨207,(0,0),0,[pI 8000,pI 96000]++rp 7 (pI 0)++[pB true]⟩),wMo,(19,⟨210,(0,0),0,[pI 32,pI 268435456,pL .nilsl]⟩)]++XJ 56000++[(249,⟨66,(0,0),8,[pI 64000]++kT++[pI 72000]++kT++[pI 80000]++kT++[pI 88000]++kT++[pI 96000]++kT⟩)],271⟩
theorem jnJ (s:Asg):ToP Tryz.prog 44 (c1 (c1 (c2 (c1 (c2 (c2 (c2 (jk Tryz.prog 9)))))))) (Ke s jjd) .normal (Fil jje):=ToP.run (z:=zF) (n:=20000) (dec:=[]) soundK37u (fun dead=>by kernel_rfl) (fun s=>by kernel_rfl) (by kernel_rfl)
def jjf:PS:=⟨[(1,.one (pL (.ptr 9 0))),(3,.one (pI 14))],[(9,⟨97,(0,0),0,XG++[pB false,pI 1073741824]++rp 299 (pI 0)++Zo++[pL (.ptr 16 0),pL (.ptr 17 0),pL (.slu 279 5)]++XH++[pI 0,pI 0,pB false,pB false,pL (.ptr 19 0),pB false,pI 8,pI 0,pI 0,pI (-673907888),pB false,pB false,pB false,pI 0,pI 64000,pI 0]++XI⟩),wFr,(17,⟨207,(0,0),0,[pI 8000,pI 104000]++rp 7 (pI 0)++[pB true]⟩),wMo,(19,⟨210,(0,0),0,[pI 32,pI 268435456,pL .nilsl]⟩)]++XJ 64000++[(279,⟨66,(0,0),8,[pI 72000]++kT++[pI 80000]++kT++[pI 88000]++kT++[pI 96000]++kT++[pI 104000]++kT⟩)],301⟩
theorem jnK (s:Asg):ToP Tryz.prog 44 (c1 (c1 (c2 (c1 (c2 (c2 (c2 (jk Tryz.prog 9)))))))) (Ke s jje) .normal (Fil jjf):=ToP.run (z:=zF) (n:=20000) (dec:=[]) soundK37u (fun dead=>by kernel_rfl) (fun s=>by kernel_rfl) (by kernel_rfl)
def jjg:PS:=⟨[(1,.one (pL (.ptr 9 0))),(3,.one (pI 15))],[(9,⟨97,(0,0),0,XG++[pB false,pI 1073741824]++rp 299 (pI 0)++Zo++[pL (.ptr 16 0),pL (.ptr 17 0),pL (.slu 309 5)]++XH++[pI 0,pI 0,pB false,pB false,pL (.ptr 19 0),pB false,pI 9,pI 0,pI 0,pI (-758146374),pB false,pB false,pB false,pI 0,pI 72000,pI 0]++XI⟩),wFr,(17,⟨207,(0,0),0,[pI 8000,pI 112000]++rp 7 (pI 0)++[pB true]⟩),wMo,(19,⟨210,(0,0),0,[pI 32,pI 268435456,pL .nilsl]⟩)]++XJ 72000++[(309,⟨66,(0,0),8,[pI 80000]++kT++[pI 88000]++kT++[pI 96000]++kT++[pI 104000]++kT++[pI 112000]++kT⟩)],331⟩
theorem jnL (s:Asg):ToP Tryz.prog 44 (c1 (c1 (c2 (c1 (c2 (c2 (c2 (jk Tryz.prog 9)))))))) (Ke s jjf) .normal (Fil jjg):=ToP.run (z:=zF) (n:=20000) (dec:=[]) soundK37u (fun dead=>by kernel_rfl) (fun s=>by kernel_rfl) (by kernel_rfl)
def jjh:PS:=⟨[(1,.one (pL (.ptr 9 0))),(3,.one (pI 16))],[(9,⟨97,(0,0),0,XG++[P1.hb,pI 1073741824]++rp 23 (pI 0)++rp 300 (P1.hi)++[pL (.ptr 16 0),pL (.ptr 17 0),pL (.slu 339 5)]++XH++[pI 1,pI 0,pB false,pB false,pL (.ptr 19 0),pB true,pI 10,pI 0,pI 0,pI (-842384860),pB true,pB false,pB false,pI 0,pI 80000,pI 0]++XI⟩),wFr,(17,⟨207,(0,0),0,[pI 8000,pI 120000]++rp 7 (pI 0)++[pB true]⟩),wMo,(19,⟨210,(0,0),0,[pI 32,pI 268435456,pL (.slu 394 6)]⟩)]++XJ 80000++[(339,⟨66,(0,0),8,[pI 88000]++kT++[pI 96000]++kT++[pI 104000]++kT++[pI 112000]++kT++[pI 120000]++kT⟩),(394,⟨79,(0,0),11,[pI 80000,pI 1073741824]++rp 9 (pI 0)++[pI 88000]++rp 10 (P1.hi)++[pI 96000]++rp 10 (P1.hi)++[pI 104000]++rp 10 (P1.hi)++[pI 112000]++rp 10 (P1.hi)++[pI 120000]++rp 10 (P1.hi)⟩)],415⟩
theorem jnM (s:Asg):ToP Tryz.prog 44 (c1 (c1 (c2 (c1 (c2 (c2 (c2 (jk Tryz.prog 9)))))))) (Ke s jjg) .normal (Fil jjh):=ToP.run (z:=zF) (n:=20000) (dec:=[]) soundK37u (fun dead=>by kernel_rfl) (fun s=>by kernel_rfl) (by kernel_rfl)
def jhe:PS:=⟨[(1,.one (pL (.ptr 9 0)))],[(9,⟨97,(0,0),0,XG++[P1.hb,pI 1073741824]++rp 23 (pI 0)++rp 300 (P1.hi)++[pL (.ptr 16 0),pL (.ptr 17 0),pL (.slu 339 5)]++XH++[pI 1,pI 0,pB false,pB false,pL (.ptr 19 0),pB true,pI 10,pI 0,pI 0,pI (-842384860),pB true,pB false,pB false,pI 0,pI 80000,pI 0]++XI⟩),wFr,(17,⟨207,(0,0),0,[pI 8000,pI 120000]++rp 7 (pI 0)++[pB true]⟩),wMo,(19,⟨210,(0,0),0,[pI 32,pI 268435456,pL (.slu 394 6)]⟩)]++XJ 80000++[(339,⟨66,(0,0),8,[pI 88000]++kT++[pI 96000]++kT++[pI 104000]++kT++[pI 112000]++kT++[pI 120000]++kT⟩),(394,⟨79,(0,0),11,[pI 80000,pI 1073741824]++rp 9 (pI 0)++[pI 88000]++rp 10 (P1.hi)++[pI 96000]++rp 10 (P1.hi)++[pI 104000]++rp 10 (P1.hi)++[pI 112000]++rp 10 (P1.hi)++[pI 120000]++rp 10 (P1.hi)⟩)],415⟩
theorem jwg (s:Asg):ToP Tryz.prog 44 (c1 (c1 (c2 (c1 (c2 (c2 (c2 (jk Tryz.prog 9)))))))) (Ke s jjh) (.exit 0) (Fil jhe):=ToP.run (z:=zF) (n:=20000) (dec:=[]) soundK37u (fun dead=>by kernel_rfl) (fun s=>by kernel_rfl) (by kernel_rfl)
def jnN:PS:=⟨[(1,.one (pL (.ptr 9 0))),(4,.one (pL (.ptr 417 0))),(5,.one (pB true))],[(9,⟨97,(0,0),0,XG++[P1.hb,pI 1073741824]++rp 23 (pI 0)++rp 300 (P1.hi)++[pL (.ptr 16 0),pL (.ptr 17 0),pL (.slu 339 5)]++XH++[pI 1,pI 0,pB false,pB false,pL (.ptr 19 0),pB true,pI 10,pI 0,pI 0,pI (-842384860),pB true,pB false,pB false,pI 0,pI 80000,pI 0]++XI⟩),wFr,(17,⟨207,(0,0),0,[pI 8000,pI 120000]++rp 7 (pI 0)++[pB true]⟩),wMo,(19,⟨210,(0,0),0,[pI 32,pI 268435456,pL (.slu 394 6)]⟩)]++XJ 80000++[(339,⟨66,(0,0),8,[pI 88000]++kT++[pI 96000]++kT++[pI 104000]++kT++[pI 112000]++kT++[pI 120000]++kT⟩),(394,⟨79,(0,0),11,[pI 80000,pI 1073741824]++rp 9 (pI 0)++[pI 88000]++rp 10 (P1.hi)++[pI 96000]++rp 10 (P1.hi)++[pI 104000]++rp 10 (P1.hi)++[pI 112000]++rp 10 (P1.hi)++[pI 120000]++rp 10 (P1.hi)⟩),(417,⟨79,(0,0),0,[pI 120000]++rp 10 (P1.hi)⟩)],418⟩
theorem jwh (s:Asg):ToP Tryz.prog 44 (c1 (c2 (c2 (c2 (c2 (jk Tryz.prog 9)))))) (Ke s jhe) .normal (Fil jnN):=ToP.run (z:=zF) (n:=20000) (dec:=[]) soundK37u (fun dead=>by kernel_rfl) (fun s=>by kernel_rfl) (by kernel_rfl)
def jnO:PS:=⟨[(0,.one (pB true))],[],419⟩
theorem jwi (s:Asg):ToP Tryz.prog 44 (c1 (c2 (c2 (c2 (c2 (c2 (jk Tryz.prog 9))))))) (Ke s jnN) .normal (Fil jnO):=ToP.run (z:=zF) (n:=20000) (dec:=[]) soundK37u (fun dead=>by kernel_rfl) (fun s=>by kernel_rfl) (by kernel_rfl)
def jnP:PS:=⟨[(0,.one (pB true))],[],419⟩
theorem jwj (s:Asg):ToP Tryz.prog 44 (c2 (c2 (c2 (c2 (c2 (c2 (jk Tryz.prog 9))))))) (Ke s jnO) .ret (Fil jnP):=ToP.run (z:=zF) (n:=20000) (dec:=[]) soundK37u (fun dead=>by kernel_rfl) (fun s=>by kernel_rfl) (by kernel_rfl)
theorem jke (s:Asg):RdP Tryz.prog 44 (c1 (c1 (c2 (c1 (c2 (c2 (c2 (jk Tryz.prog 9)))))))) 16 (Ke s jkd) (.exit 0) (Fil jhe):=by
 refine RdP.next (jv7 s) ?_
 rintro x ⟨s,rfl⟩
 refine RdP.next (jv8 s) ?_
 rintro x ⟨s,rfl⟩
 refine RdP.next (jv9 s) ?_
 rintro x ⟨s,rfl⟩
 refine RdP.next (jwa s) ?_
 rintro x ⟨s,rfl⟩
 refine RdP.next (jwb s) ?_
 rintro x ⟨s,rfl⟩
 refine RdP.next (jwc s) ?_
 rintro x ⟨s,rfl⟩
 refine RdP.next (jwd s) ?_
 rintro x ⟨s,rfl⟩
 refine RdP.next (jwe s) ?_
 rintro x ⟨s,rfl⟩
 refine RdP.next (jwf s) ?_
 rintro x ⟨s,rfl⟩
 refine RdP.next (jnH s) ?_
 rintro x ⟨s,rfl⟩
 refine RdP.next (jnI s) ?_
 rintro x ⟨s,rfl⟩
 refine RdP.next (jnJ s) ?_
 rintro x ⟨s,rfl⟩
 refine RdP.next (jnK s) ?_
 rintro x ⟨s,rfl⟩
 refine RdP.next (jnL s) ?_
 rintro x ⟨s,rfl⟩
 refine RdP.next (jnM s) ?_
 rintro x ⟨s,rfl⟩
 exact RdP.last (by simp) (jwg s)
theorem jnQ:ToP Tryz.prog 44 (jk Tryz.prog 9) ⟨kC 0 [],[],0⟩ .ret (Fil jnP):=by
 refine ToP.seq (by kernel_rfl) (jv3 ⟨fun _ _=>0,fun _ _=>false,fun _ _=>0,fun _ _=>false⟩) ?_
 rintro x ⟨s,rfl⟩
 refine ToP.seq (by kernel_rfl) (jv4 s) ?_
 rintro x ⟨s,rfl⟩
 refine ToP.seq (by kernel_rfl) (jv5 s) ?_
 rintro x ⟨s,rfl⟩
 refine ToP.seq (by kernel_rfl) (B:=Fil jhe) (ToP.seq (by kernel_rfl) (jv6 s) ?_) ?_
 ·rintro x ⟨s,rfl⟩
  exact ToP.block (id:=0) (e:= .exit 0) (by kernel_rfl) (ToP.loop (by kernel_rfl) (jke s)) (.inl rfl)
 rintro x ⟨s,rfl⟩
 refine ToP.seq (by kernel_rfl) (jwh s) ?_
 rintro x ⟨s,rfl⟩
 refine ToP.seq (by kernel_rfl) (jwi s) ?_
 rintro x ⟨s,rfl⟩
 exact jwj s
def jwk:List LV→Option (LV×List (Bool×Bool))
 | []=>some (.v (.one (.bool true)),[])
 | _=>none
theorem jnR:SumOK Tryz.prog 9 (jp jwk):=by
 refine xN fun args v cs hF hc hp hv w=> ?_
 unfold jwk at hF
 split at hF
 ·cases hF
  have ho:=jg soundK37u Tryz.func9 (by kernel_rfl)
  refine jbc (fn:=Tryz.f9) ho Tryz.func9 (c:=(jk Tryz.prog 9)) (by kernel_rfl) (by decide) (by decide) hp jnQ (.inr rfl) ?_ hv w
  rintro x ⟨s,rfl⟩ dead
  kernel_rfl
 ·cases hF
end Go.Proofs.YtnlhpaidmiogbaaGreat
