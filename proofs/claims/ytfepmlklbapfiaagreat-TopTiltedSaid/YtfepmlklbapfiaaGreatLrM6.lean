/- Joined texts. What each part proves stands ahead of it; no condition. -/
import Derived.Test.YtfepmlklbapfiaaGreatLrM2
import Derived.Test.YtfepmlklbapfiaaGreatLrM4
import Derived.Test.YtfepmlklbapfiaaGreatLrM5
import Derived.WalkKit
import Derived.ProofKit
import Derived.OpenShut
import Derived.WideShapes
import Derived.KernelRfl

/- A function that is handed a flag that lies in a greater block: what it is told of is the flag alone. -/
set_option linter.unusedVariables false
namespace Go.Lr
open Go.RowKit
def ptrAt:Nat→List LV→Option (Nat×Nat)
 | 0,.v (.one (.ptr c o))::_=>some (c,o)
 | n+1,_::l=>ptrAt n l
 | _,_=>none
def setAt:Nat→List LV→LV→List LV
 | 0,_::l,v=>v::l
 | n+1,a::l,v=>a::setAt n l v
 | _,[],_=>[]
def restOf:Nat→List LV→List LV
 | 0,_::l=>l
 | n+1,a::l=>a::restOf n l
 | _,[]=>[]
def lookB:List Nat→List Blk→Nat→Option Blk
 | i::l,k::ks,j=>match Nat.beq i j with
  | true=>some k
  | false=>lookB l ks j
 | _,_,_=>none
def narM (c:Nat) (f:Blk) (seen:List Nat) (ks:List Blk) (i:Nat):Option Blk:=
 match Nat.beq i c with
 | true=>some f
 | false=>lookB seen ks i
def okNC (c i:Nat):Bool:=match Nat.beq i c with
 | true=>false
 | false=>true
def dropK (c:Nat):List (Nat×Option Blk)→List (Nat×Option Blk)
 | []=>[]
 | (i,s)::l=>match Nat.beq i c with
  | true=>dropK c l
  | false=>(i,s)::dropK c l
def flagOf (ty:TypeId) (c:Nat) (h:Bool):List (Nat×Option Blk)→Option Bool
 | []=>some h
 | (i,s)::l=>match Nat.beq i c with
  | true=>match s with
   | some ⟨t,(0,0),0,[.bool h']⟩=>match Nat.beq t ty with
    | true=>some h'
    | false=>none
   | _=>none
  | false=>flagOf ty c h l
def narG (j:Nat) (ty:TypeId) (s:List LV→List Nat→List Blk→Nat→Option Dl):List LV→List Nat→List Blk→Nat→Option Dl:=fun args seen ks nb=>
 match ptrAt j args with
 | some (c,o)=>match lookB seen ks c with
  | some ⟨tt,(0,0),es,l⟩=>match atL l o with
   | some (.bool h)=>match okArgs (okNC c) (restOf j args),reach (narM c ⟨ty,(0,0),0,[.bool h]⟩ seen ks) 20000 (refsLVs (setAt j args (.v (.one (.ptr c 0))))) [] with
    | true,some seen'=>match liveAll (narM c ⟨ty,(0,0),0,[.bool h]⟩ seen ks) seen' with
     | some ks'=>match okBs (okNC c) ks',s (setAt j args (.v (.one (.ptr c 0)))) seen' ks' nb with
      | true,some d=>match d.val.ok (okNC c),okBs (okNC c) d.nw,okWs (okNC c) d.wr,flagOf ty c h d.wr with
       | true,true,true,some h'=>match nodupB (wkeys d.wr),allIn (wkeys d.wr) seen' with
        | true,true=>some ⟨d.val,(c,some ⟨tt,(0,0),es,l.set o (.bool h')⟩)::dropK c d.wr,d.nw,d.rd,d.cs⟩
        | _,_=>none
       | _,_,_,_=>none
      | _,_=>none
     | none=>none
    | _,_=>none
   | _=>none
  | _=>none
 | none=>none
theorem okNC_iff {c i:Nat}:okNC c i=true↔i≠c:=by
 unfold okNC
 rw [nbeq]
 by_cases h:i=c
 ·simp [h]
 ·simp [h]
theorem lookB_live {g:Nat→Option Blk}:∀{seen:List Nat} {ks:List Blk} {i:Nat} {b:Blk},liveAll g seen=some ks→lookB seen ks i=some b→g i=some b
 | [],ks,i,b,_,h=>by simp [lookB] at h
 | a::l,ks,i,b,hl,h=>by
  obtain ⟨k,r,h1,h2,rfl⟩:=liveAll_cons hl
  simp only [lookB,nbeq] at h
  by_cases e:a=i
  ·subst e
   simp only [decide_true] at h
   cases h
   exact h1
  ·simp only [e,decide_false] at h
   exact lookB_live h2 h
open Classical in
noncomputable def gX (g:Nat→Option Blk) (c:Nat) (k:Blk):Nat→Option Blk:=fun i=>if i=c then some k else match g i with
 | some b=>if okL (okNC c) b.cells=true then some b else none
 | none=>none
theorem gX_get {g:Nat→Option Blk} {c i:Nat} {k b:Blk} (h:gX g c k i=some b) (hi:i≠c):g i=some b∧okL (okNC c) b.cells=true:=by
 unfold gX at h
 rw [if_neg hi] at h
 split at h
 ·rename_i b' hb
  split at h
  ·rename_i ho;cases h;exact ⟨hb,ho⟩
  ·cases h
 ·cases h
theorem gX_of {g:Nat→Option Blk} {c i:Nat} {k b:Blk} (h:g i=some b) (ho:okL (okNC c) b.cells=true) (hi:i≠c):gX g c k i=some b:=by
 unfold gX
 rw [if_neg hi,h]
 simp only [ho,if_true]
theorem gX_no {g:Nat→Option Blk} {c i:Nat} {k b:Blk} (h:g i=some b) (ho:¬okL (okNC c) b.cells=true) (hi:i≠c):gX g c k i=none:=by
 unfold gX
 rw [if_neg hi,h]
 show (if okL (okNC c) b.cells=true then some b else none)=none
 rw [if_neg ho]
theorem gX_c {g:Nat→Option Blk} {c:Nat} {k:Blk}:gX g c k c=some k:=by unfold gX;rw [if_pos rfl]
theorem gX_some {g:Nat→Option Blk} {c i:Nat} {k kc:Blk} (hc:g c=some kc) (h:(gX g c k i).isSome):(g i).isSome:=by
 by_cases hi:i=c
 ·rw [hi,hc];rfl
 ·obtain ⟨b,hb⟩:=Option.isSome_iff_exists.1 h
  rw [(gX_get hb hi).1];rfl
theorem blkAt_cong {p:Nat→Bool} {E E':Env} {i:Nat} {b:Blk} {w:World} (h:∀q,p q=true→E' q=E q) (hb:okL p b.cells=true) (he:E' i=E i) (k:blkAt E i b w):blkAt E' i b w:=by
 obtain ⟨r,h1,h2,h3⟩:=k
 refine ⟨r, ?_,h2,fun hne=>by rw [he];exact h3 hne⟩
 rw [he,h1,denL_congr (E:=E) (E':=E') h hb]
theorem dropK_wr {g:Nat→Option Blk} {c k:Nat} (hk:k≠c):∀(l:List (Nat×Option Blk)) (g:Nat→Option Blk),wrG g (dropK c l) k=wrG g l k
 | [],g=>rfl
 | (i,s)::l,g=>by
  simp only [dropK,nbeq]
  by_cases h:i=c
  ·simp only [h,decide_true]
   rw [dropK_wr (g:=g) hk l g]
   simp only [wrG]
   exact wrG_congr l k (.inr (by rw [if_neg hk]))
  ·simp only [h,decide_false,wrG]
   exact dropK_wr (g:=g) hk l _
theorem dropK_mem {c:Nat}:∀{l:List (Nat×Option Blk)} {x:Nat×Option Blk},x∈dropK c l→x∈l∧x.1≠c
 | [],x,h=>by simp [dropK] at h
 | (i,s)::l,x,h=>by
  simp only [dropK,nbeq] at h
  by_cases e:i=c
  ·simp only [e,decide_true] at h
   obtain ⟨h1,h2⟩:=dropK_mem h
   exact ⟨List.mem_cons_of_mem _ h1,h2⟩
  ·simp only [e,decide_false] at h
   rcases List.mem_cons.1 h with rfl | h
   ·exact ⟨List.mem_cons_self ..,e⟩
   ·obtain ⟨h1,h2⟩:=dropK_mem h
    exact ⟨List.mem_cons_of_mem _ h1,h2⟩
theorem flagOf_wr {ty:TypeId} {c:Nat} {h h':Bool}:∀{l:List (Nat×Option Blk)} {g:Nat→Option Blk},flagOf ty c h l=some h'→(l.map (·.1)).Nodup→g c=some ⟨ty,(0,0),0,[.bool h]⟩→wrG g l c=some ⟨ty,(0,0),0,[.bool h']⟩
 | [],g,hf,_,hg=>by
  simp only [flagOf,Option.some.injEq] at hf
  subst hf
  exact hg
 | (i,s)::l,g,hf,hn,hg=>by
  simp only [List.map_cons,List.nodup_cons] at hn
  simp only [flagOf,nbeq] at hf
  by_cases e:i=c
  ·subst e
   simp only [decide_true] at hf
   split at hf
   ·rename_i t h2
    split at hf
    ·rename_i ht
     cases hf
     have:t=ty:=of_decide_eq_true ht
     subst this
     simp only [wrG]
     rw [wrG_none l i fun x hx e=>hn.1 (by rw [←e];exact List.mem_map_of_mem hx),if_pos rfl]
    ·cases hf
   ·cases hf
  ·simp only [e,decide_false] at hf
   simp only [wrG]
   exact flagOf_wr hf hn.2 (by rw [if_neg (Ne.symm e)];exact hg)
theorem setAt_den {c o:Nat} {E E':Env} (h:∀i,okNC c i=true→E' i=E i) (he:(LV.v (.one (.ptr c 0))).den E'=(LV.v (.one (.ptr c o))).den E):
  ∀{j:Nat} {args:List LV},ptrAt j args=some (c,o)→okArgs (okNC c) (restOf j args)=true→(setAt j args (.v (.one (.ptr c 0)))).map (LV.den E')=args.map (LV.den E)
 | 0,[],hp,_=>by simp [ptrAt] at hp
 | 0,a::l,hp,hr=>by
  unfold ptrAt at hp
  split at hp
  ·rename_i heq
   cases heq
   cases hp
   simp only [restOf] at hr
   simp only [setAt,List.map_cons,he]
   congr 1
   exact List.map_congr_left fun u hu=>LV.den_congr h (okArgs_iff hr u hu)
  ·rename_i heq _;cases heq
  ·cases hp
 | j+1,[],hp,_=>by simp [ptrAt] at hp
 | j+1,a::l,hp,hr=>by
  simp only [ptrAt] at hp
  simp only [restOf,okArgs] at hr
  split at hr
  ·rename_i ha
   simp only [setAt,List.map_cons]
   rw [setAt_den h he hp hr,LV.den_congr h ha]
  ·cases hr
theorem setAt_mem {c o:Nat}:∀{j:Nat} {args:List LV} {u:LV},ptrAt j args=some (c,o)→u∈setAt j args (.v (.one (.ptr c 0)))→u∈args∨u = .v (.one (.ptr c 0))∧(.v (.one (.ptr c o)):LV)∈args
 | 0,[],u,hp,_=>by simp [ptrAt] at hp
 | 0,a::l,u,hp,hu=>by
  unfold ptrAt at hp
  split at hp
  ·rename_i heq
   cases heq
   cases hp
   simp only [setAt,List.mem_cons] at hu
   rcases hu with rfl | hu
   ·exact .inr ⟨rfl,List.mem_cons_self ..⟩
   ·exact .inl (List.mem_cons_of_mem _ hu)
  ·rename_i heq _;cases heq
  ·cases hp
 | j+1,[],u,hp,_=>by simp [ptrAt] at hp
 | j+1,a::l,u,hp,hu=>by
  simp only [ptrAt] at hp
  simp only [setAt,List.mem_cons] at hu
  rcases hu with rfl | hu
  ·exact .inl (List.mem_cons_self ..)
  ·rcases setAt_mem hp hu with h | ⟨h1,h2⟩
   ·exact .inl (List.mem_cons_of_mem _ h)
   ·exact .inr ⟨h1,List.mem_cons_of_mem _ h2⟩
theorem narG_ok {P:Program} {f:FuncId} {j:Nat} {ty:TypeId} {s:List LV→List Nat→List Blk→Nat→Option Dl} (hS:GenOK P f s):GenOK P f (narG j ty s):=by
 intro args seen ks g nb p d E w hl hd hnd hcs hrel hg hargs hn
 unfold narG at hd
 split at hd
 ·rename_i c o hptr
  split at hd
  ·rename_i tt es l hlook
   split at hd
   ·rename_i h hat
    split at hd
    ·rename_i seen' hrest hreach
     split at hd
     ·rename_i ks' hks'
      split at hd
      ·rename_i d0 hokb hs0
       split at hd
       ·rename_i h' hval hnw hwr hfl
        split at hd
        ·rename_i hnd0 hin0
         cases hd
         have hnd0:=nodupB_iff.1 hnd0
         have hin0:=allIn_sub hin0
         rw [wkeys_eq] at hnd0 hin0
         have hkc:g c=some ⟨tt,(0,0),es,l⟩:=lookB_live hl hlook
         obtain ⟨r,g1,g2,g3⟩:=hrel.blk c _ hkc
         have hlt:o<l.length:=atL_lt hat
         generalize hL:cellLoc (E c) E tt l r o=L
         have hLb:L.blk=(E c).blk:=by rw [←hL];rfl
         have hEb:∀i,(eW E c L i).1=(E i).1:=fun i=>by rw [←hL];exact eW_blk
         have hEi:∀i,i≠c→eW E c L i=E i:=fun i hi=>by unfold eW;rw [if_neg hi]
         have hEc:eW E c L c=L:=by unfold eW;rw [if_pos rfl]
         have hEn:∀i,okNC c i=true→eW E c L i=E i:=fun i hi=>hEi i (okNC_iff.1 hi)
         have hrelW:Rel (eW E c L) (gX g c (flag ty h)) w:=by
          refine ⟨fun i b hb=> ?_,fun i j hi hj he=>hrel.inj i j (gX_some hkc hi) (gX_some hkc hj) (by rw [←hEb i,←hEb j];exact he)⟩
          by_cases hi:i=c
          ·subst hi
           rw [gX_c] at hb
           cases hb
           refine ⟨[], ?_,fun _=>rfl,fun hne=>absurd rfl hne⟩
           rw [hEc]
           have e:=cellLoc_eq (L:=E i) (E:=E) (t:=tt) (l:=l) (r:=r) (o:=o) ty (h:=h) hlt
           rw [set_same hat,hL] at e
           show w.heap[L.blk]? = some (flagW L ty h)
           rw [e,hLb];exact g1
          ·obtain ⟨q1,q2⟩:=gX_get hb hi
           exact blkAt_cong hEn q2 (hEi i hi) (hrel.blk i b q1)
         have hargs':(setAt j args (.v (.one (.ptr c 0)))).map (LV.den (eW E c L))=args.map (LV.den E):=by
          refine setAt_den hEn ?_ hptr hrest
          show Value.pointer (some ⟨(eW E c L c).1,0+(eW E c L c).pre.length,none⟩)=Value.pointer (some ⟨(E c).1,o+(E c).pre.length,none⟩)
          have e:(eW E c L c).pre.length=o+(E c).pre.length:=by
           rw [hEc,←hL];unfold cellLoc;simp;omega
          rw [e,hEb,Nat.zero_add]
         have hnarX:∀i b,okL (okNC c) b.cells=true→narM c ⟨ty,(0,0),0,[.bool h]⟩ seen ks i=some b→gX g c (flag ty h) i=some b:=by
          intro i b hb hi
          unfold narM at hi
          rw [nbeq] at hi
          by_cases e:i=c
          ·subst e
           simp only [decide_true] at hi
           cases hi
           exact gX_c
          ·simp only [e,decide_false] at hi
           exact gX_of (lookB_live hl hi) hb e
         have hliveX:liveAll (gX g c (flag ty h)) seen'=some ks':=liveAll_congr hks' fun i b _ hb hi=>hnarX i b (okBs_iff.1 hokb b hb) hi
         have hpc:p c=true:=(hg c _ hkc).1
         have hnc:c<nb∨nb+d0.nw.length≤c:=by
          by_cases e:c<nb
          ·exact .inl e
          ·by_cases e2:nb+d0.nw.length≤c
           ·exact .inr e2
           ·have:=hn c (by omega) (by show c<nb+d0.nw.length;omega)
            rw [hpc] at this;cases this
         have main:=hS _ seen' ks' (gX g c (flag ty h)) nb p d0 (eW E c L) w hliveX hs0 (by rw [wkeys_eq];exact hnd0) hcs hrelW
          (fun i b hb=>by
           by_cases hi:i=c
           ·subst hi;rw [gX_c] at hb;cases hb;exact ⟨hpc,rfl⟩
           ·exact hg i b (gX_get hb hi).1)
          (fun u hu=>by
           rcases setAt_mem hptr hu with hu2 | ⟨e2,hu2⟩
           ·exact hargs u hu2
           ·rw [e2];exact hpc) hn
         have hkeyX:∀i,i∈d0.wr.map (·.1)→(gX g c (flag ty h) i).isSome:=fun i hi=>liveAll_some hliveX i (hin0 i hi)
         have conv:∀(E':Env) (w':World),Post w (eW E c L) (gX g c (flag ty h)) nb ⟨d0.val,d0.wr,d0.nw,[],[]⟩ E' w'→
           (d0.val.den E'=d0.val.den fun i=>if i=c then E c else E' i)∧
           Post w E g nb ⟨d0.val,(c,some ⟨tt,(0,0),es,l.set o (.bool h')⟩)::dropK c d0.wr,d0.nw,[],[]⟩ (fun i=>if i=c then E c else E' i) w':=by
          intro E' w' hp
          have hEc':E' c=L:=by rw [hp.agree c hnc,hEc]
          have hN:∀i,okNC c i=true→(fun i=>if i=c then E c else E' i) i=E' i:=fun i hi=>if_neg (okNC_iff.1 hi)
          have hN1:∀i,((fun i=>if i=c then E c else E' i) i).1=(E' i).1:=by
           intro i
           by_cases hi:i=c
           ·subst hi
            show (if i=i then E i else E' i).1=_
            rw [if_pos rfl,hEc',hLb]
           ·show (if i=c then E c else E' i).1=_
            rw [if_neg hi]
          have hold:∀i,i<nb∨nb+d0.nw.length≤i→(fun i=>if i=c then E c else E' i) i=E i:=by
           intro i hi
           by_cases hic:i=c
           ·subst hic;exact if_pos rfl
           ·show (if i=c then E c else E' i)=_
            rw [if_neg hic,hp.agree i hi,hEi i hic]
          have hpo:∀q,p q=true→(fun i=>if i=c then E c else E' i) q=E q:=by
           intro q hq
           refine hold q ?_
           by_cases e:q<nb
           ·exact .inl e
           ·by_cases e2:nb+d0.nw.length≤q
            ·exact .inr e2
            ·have:=hn q (by omega) (by show q<nb+d0.nw.length;omega)
             rw [hq] at this;cases this
          have hwc:wrG g ((c,some ⟨tt,(0,0),es,l.set o (.bool h')⟩)::dropK c d0.wr) c=some ⟨tt,(0,0),es,l.set o (.bool h')⟩:=by
           simp only [wrG]
           rw [wrG_none _ c fun x hx=>(dropK_mem hx).2,if_pos rfl]
          have hwi:∀i,i≠c→i∈d0.wr.map (·.1)→wrG g ((c,some ⟨tt,(0,0),es,l.set o (.bool h')⟩)::dropK c d0.wr) i=wrG (gX g c (flag ty h)) d0.wr i:=by
           intro i hi hm
           simp only [wrG]
           rw [dropK_wr (g:=g) hi]
           exact wrG_congr d0.wr i (.inl hm)
          have hwo:∀i,i≠c→i ∉ d0.wr.map (·.1)→wrG g ((c,some ⟨tt,(0,0),es,l.set o (.bool h')⟩)::dropK c d0.wr) i=g i:=by
           intro i hi hm
           rw [wrG_none]
           intro x hx e
           rcases List.mem_cons.1 hx with rfl | hx
           ·exact hi e.symm
           ·exact hm (by rw [←e];exact List.mem_map_of_mem (dropK_mem hx).1)
          have hXo:∀i,i ∉ d0.wr.map (·.1)→wrG (gX g c (flag ty h)) d0.wr i=gX g c (flag ty h) i:=fun i hm=>wrG_none _ i fun x hx e=>hm (by rw [←e];exact List.mem_map_of_mem hx)
          have hcase:∀i b,nwG (wrG g ((c,some ⟨tt,(0,0),es,l.set o (.bool h')⟩)::dropK c d0.wr)) nb d0.nw i=some b→
            (i=c∧b=⟨tt,(0,0),es,l.set o (.bool h')⟩)∨(i≠c∧okL (okNC c) b.cells=true∧nwG (wrG (gX g c (flag ty h)) d0.wr) nb d0.nw i=some b)∨(i≠c∧(i<nb∨nb+d0.nw.length≤i)∧g i=some b∧gX g c (flag ty h) i=none):=by
           intro i b hb
           by_cases hic:i=c
           ·subst hic
            rw [nwG_none _ _ _ hnc,hwc] at hb
            cases hb
            exact .inl ⟨rfl,rfl⟩
           ·right
            by_cases hnew:nb≤i∧i<nb+d0.nw.length
            ·left
             rw [nwG_at _ _ _ hnew.1 hnew.2] at hb
             refine ⟨hic,okBs_iff.1 hnw b (List.mem_of_getElem? hb), ?_⟩
             rw [nwG_at _ _ _ hnew.1 hnew.2];exact hb
            ·have hno:i<nb∨nb+d0.nw.length≤i:=by omega
             rw [nwG_none _ _ _ hno] at hb
             by_cases hm:i∈d0.wr.map (·.1)
             ·left
              rw [hwi i hic hm] at hb
              refine ⟨hic, ?_,by rw [nwG_none _ _ _ hno];exact hb⟩
              obtain ⟨x,hx,rfl⟩:=List.mem_map.1 hm
              rw [wrG_in _ hnd0 x hx] at hb
              exact okWs_iff hwr x hx b hb
             ·rw [hwo i hic hm] at hb
              by_cases ho:okL (okNC c) b.cells=true
              ·left
               exact ⟨hic,ho,by rw [nwG_none _ _ _ hno,hXo i hm];exact gX_of hb ho hic⟩
              ·right
               exact ⟨hic,hno,hb,gX_no hb ho hic⟩
          refine ⟨(LV.den_congr hN hval).symm,fun i hi=>hold i hi,⟨fun i b hb=> ?_,fun i k hi hk he=> ?_⟩,hp.os,hp.tape,hp.output,hp.size,fun k hk hne=>hp.frame k hk fun i hi=>by rw [hEb];exact hne i (gX_some hkc hi),fun i i1 i2=> ?_⟩
          ·rcases hcase i b hb with ⟨rfl,rfl⟩ | ⟨hic,ho,hb2⟩ | ⟨hic,hno,hb2,hx⟩
           ·have hb2:=hp.rel.blk i (flag ty h') (by
             simp only
             rw [nwG_none _ _ _ hnc]
             exact flagOf_wr hfl hnd0 gX_c)
            obtain ⟨r2,u1,u2,-⟩:=hb2
            rw [hEc',u2 rfl] at u1
            have e:=cellLoc_eq (L:=E i) (E:=E) (t:=tt) (l:=l) (r:=r) (o:=o) ty (h:=h') hlt
            rw [hL] at e
            have hn2:okL p (l.set o (.bool h'))=true:=by
             rw [okL_iff]
             intro a ha
             rcases List.mem_or_eq_of_mem_set ha with ha | rfl
             ·exact okL_iff.1 (hg i _ hkc).2 a ha
             ·rfl
            refine blkAt_cong (E:=E) hpo hn2 (if_pos rfl) ⟨r, ?_,g2,fun hne=>by show (l.set o _).length+_=_;rw [List.length_set];exact g3 hne⟩
            rw [←hLb]
            exact u1.trans (congrArg some e)
           ·exact blkAt_cong hN ho (if_neg hic) (hp.rel.blk i b hb2)
           ·obtain ⟨r2,u1,u2,u3⟩:=hrel.blk i b hb2
            refine blkAt_cong (E:=E) hpo (hg i b hb2).2 (hold i hno) ⟨r2, ?_,u2,u3⟩
            rw [hp.frame _ (Array.getElem?_eq_some_iff.1 u1).1 fun q hq hqe=> ?_]
            ·exact u1
            ·rw [hEb] at hqe
             have:=hrel.inj q i (gX_some hkc hq) (by rw [hb2];rfl) hqe
             rw [this,hx] at hq
             cases hq
          ·obtain ⟨b,hb⟩:=Option.isSome_iff_exists.1 hi
           obtain ⟨b2,hb2⟩:=Option.isSome_iff_exists.1 hk
           have he':(E' i).1=(E' k).1:=by rw [←hN1 i,←hN1 k];exact he
           have dom:∀i b,nwG (wrG g ((c,some ⟨tt,(0,0),es,l.set o (.bool h')⟩)::dropK c d0.wr)) nb d0.nw i=some b→
             (nwG (wrG (gX g c (flag ty h)) d0.wr) nb d0.nw i).isSome∨((i<nb∨nb+d0.nw.length≤i)∧(g i).isSome∧gX g c (flag ty h) i=none):=by
            intro i b hb
            rcases hcase i b hb with ⟨rfl,rfl⟩ | ⟨hic,ho,hb2⟩ | ⟨hic,hno,hb2,hx⟩
            ·left;rw [nwG_none _ _ _ hnc,flagOf_wr (g:=gX g i (flag ty h)) hfl hnd0 gX_c];rfl
            ·left;rw [hb2];rfl
            ·right;exact ⟨hno,by rw [hb2];rfl,hx⟩
           have mix:∀i k,(nwG (wrG (gX g c (flag ty h)) d0.wr) nb d0.nw i).isSome→(k<nb∨nb+d0.nw.length≤k)→(g k).isSome→gX g c (flag ty h) k=none→(E' i).1=(E' k).1→False:=by
            intro i k hi hno hgk hxk he
            rw [hp.agree k hno,hEb] at he
            obtain ⟨bk,hbk⟩:=Option.isSome_iff_exists.1 hgk
            obtain ⟨rk,v1,-,-⟩:=hrel.blk k bk hbk
            have hks:=(Array.getElem?_eq_some_iff.1 v1).1
            by_cases hnew:nb≤i∧i<nb+d0.nw.length
            ·rcases hp.fresh i hnew.1 hnew.2 with hf | ⟨q,q1,q2⟩
             ·omega
             ·rw [hEb] at q2
              have:=hrel.inj q k (gX_some hkc q1) hgk (by rw [←q2,he])
              rw [this,hxk] at q1
              cases q1
            ·have hno2:i<nb∨nb+d0.nw.length≤i:=by omega
             rw [nwG_none _ _ _ hno2] at hi
             have hXi:(gX g c (flag ty h) i).isSome:=by
              by_cases hm:i∈d0.wr.map (·.1)
              ·exact hkeyX i hm
              ·rw [hXo i hm] at hi;exact hi
             rw [hp.agree i hno2,hEb] at he
             have:=hrel.inj i k (gX_some hkc hXi) hgk he
             rw [this,hxk] at hXi
             cases hXi
           rcases dom i b hb with h1 | ⟨h1,h2,h3⟩
           ·rcases dom k b2 hb2 with k1 | ⟨k1,k2,k3⟩
            ·exact hp.rel.inj i k h1 k1 he'
            ·exact absurd he' fun e=>mix i k h1 k1 k2 k3 e
           ·rcases dom k b2 hb2 with k1 | ⟨k1,k2,k3⟩
            ·exact absurd he'.symm fun e=>mix k i k1 h1 h2 h3 e
            ·rw [hp.agree i h1,hp.agree k k1,hEb,hEb] at he'
             exact hrel.inj i k h2 k2 he'
          ·rcases hp.fresh i i1 i2 with hf | ⟨q,q1,q2⟩
           ·left;rw [hN1];exact hf
           ·right;exact ⟨q,gX_some hkc q1,by rw [hN1,q2,hEb]⟩
         rw [hargs'] at main
         refine main.imp (fun ⟨fn,h1,h2,h3,h4⟩=>⟨fn,h1,h2,h3,h4.mono ?_⟩) (fun ⟨u,w',h1,E',h2,h3⟩=>⟨u,w',h1,_, ?_,(conv E' w' h3).2⟩)
         ·rintro e w' ⟨u,rfl,E',rfl,h3⟩
          exact ⟨_,rfl,_,(conv E' w' h3).1,(conv E' w' h3).2⟩
         ·rw [h2];exact (conv E' w' h3).1
        ·cases hd
       ·cases hd
      ·cases hd
     ·cases hd
    ·cases hd
   ·cases hd
  ·cases hd
 ·cases hd
end Go.Lr

/- Summaries by formula, of functions that are handed one block and plain values; summaries by all blocks, the one or else the other. -/
set_option linter.unusedVariables false
namespace Go.Lr
open Go.RowKit
def fM (F:Blk→List LV→Option (LV×Blk×List (Bool×Bool))):Sum:=fun args=>
 match args with
 | .v (.one (.ptr b 0))::rest=>match plainVs rest with
  | true=>some ⟨[],[b],fun _ wB _=>match wB with
   | [k]=>match F k rest with
    | some (v,k',cs)=>some ⟨v,[k'],[],cs⟩
    | none=>none
   | _=>none⟩
  | false=>none
 | _=>none
section
variable {P:Program} {S:FuncId→Option SumK} {z:Md}
theorem fM_ok (hs:Sound P S) {f:FuncId} (ho:Own P f) {F:Blk→List LV→Option (LV×Blk×List (Bool×Bool))}
  (hF:∀k rest v k' cs,F k rest=some (v,k',cs)→(∀c∈cs,c.1=c.2)→plainVs rest=true→okL noP k.cells=true∧okL noP k'.cells=true∧v.ok noP=true∧k'.es=k.es∧
   ∃n dec m' nb' cs',runF P S z n f (A0::rest) [(0,k)] 1 dec=some (v,m',nb',cs')∧getM m' 0=some k'∧∀c∈cs',c.1=c.2):SumOK P f (fM F):=by
 intro args t g nb p rdB wrB ans ws E w hs' hr hw _ hgo hz hc hrel hg hargs hn
 unfold fM at hs'
 split at hs'
 ·rename_i b rest
  split at hs'
  ·rename_i hp
   cases hs'
   simp only at hgo hw
   split at hgo
   ·rename_i k
    split at hgo
    ·rename_i v k' cs hFk
     cases hgo
     obtain ⟨hk,hok',hv,hes',n,dec,m',nb',cs',hrun,hk',hc'⟩:=hF k rest v k' cs hFk hc hp
     simp only [liveAll] at hw
     split at hw
     ·rename_i q r hq hr'
      cases hr'
      cases hw
      simp only [zipW] at hz
      cases hz
      have hp':=plainVs_iff.1 hp
      obtain ⟨s',h1,h2,h3,h4⟩:=runF_body hrun
      have hget:∀i c,getM [(0,k)] i=some c→i=0∧c=k:=by
       intro i c hc
       rw [getM_cons] at hc
       by_cases hi:i=0
       ·rw [if_pos hi] at hc;cases hc;exact ⟨hi,rfl⟩
       ·rw [if_neg hi] at hc;simp [getM] at hc
      obtain ⟨v',b1,b2,b3,b4,b5,b6,b7,b8⟩:=(exec_sound (binOK P) hs.sums hs.mix hs.ng n).2.2.2 f (A0::rest) _ _ s' h1 (fun i c hc=>by
       obtain ⟨rfl,rfl⟩:=hget i c hc
       exact ⟨Nat.zero_lt_one,okL_mono noP_below hk⟩) ⟨rfl,trivial⟩ (fun u hu=>by
       rcases List.mem_cons.1 hu with rfl | hu
       ·rfl
       ·exact LV.ok_mono noP_below (hp' u hu))
      cases b1
      obtain ⟨r0,g1,g2,g3⟩:=hrel.blk b k hq
      have hmr:MRel (fun _=>E b) ⟨.nil,0,[(0,k)],1,dec,[],[]⟩ w:=by
       refine ⟨⟨fun i c hc=> ?_,fun i j hi hj _=> ?_⟩,fun i c hc=> ?_,⟨rfl,trivial⟩⟩
       ·obtain ⟨rfl,rfl⟩:=hget i c hc
        exact ⟨r0,by rw [denA_noP hk] at g1 ⊢;exact g1,g2,g3⟩
       ·obtain ⟨c,hc⟩:=Option.isSome_iff_exists.1 hi
        obtain ⟨d,hd⟩:=Option.isSome_iff_exists.1 hj
        rw [(hget i c hc).1,(hget j d hd).1]
       ·obtain ⟨rfl,rfl⟩:=hget i c hc
        exact ⟨Nat.zero_lt_one,okL_mono noP_below hk⟩
      have hcall:=b8 (by rw [Good,h4];exact hc') (fun _=>E b) w hmr
      have hargs':((A0::rest).map (LV.den fun _=>E b))=((LV.v (V1.one (At.ptr b 0)))::rest).map (LV.den E):=by
       rw [List.map_cons,List.map_cons,denL_noP hp',denL_noP (E:=E) hp']
       rfl
      rw [hargs'] at hcall
      obtain ⟨fn,f1,f2,f3⟩:=ho
      refine .inl ⟨fn,f1,f2,f3,hcall.mono ?_⟩
      rintro e w' ⟨E',rfl,hmr',hx⟩
      refine ⟨_,rfl,E,by rw [den_noP hv,den_noP (E:=E) hv], ?_⟩
      obtain ⟨r',q1,q2,q3⟩:=hmr'.rel.blk 0 k' (by rw [h2];exact hk')
      rw [hx.agree 0 (by show 0<1;omega)] at q1 q3
      have hframe:∀j,j<w.heap.size→j≠(E b).1→w'.heap[j]? = w.heap[j]? :=fun j hj hne=>hx.frame j hj fun i hi he=>hne he.symm
      refine ⟨fun _ _=>rfl,⟨fun i c hic=> ?_,fun i j hi hj he=> ?_⟩,hx.os,hx.tape,hx.output,hx.size,fun j hj hne=>hframe j hj fun e=>hne b (by simp [hq]) e.symm,fun i h1 h2=>by simp at h2;omega⟩
      ·simp only [nwG,wrG] at hic
       by_cases hi:i=b
       ·subst hi
        rw [if_pos rfl] at hic
        cases hic
        exact ⟨r',by rw [denA_noP hok'] at q1 ⊢;exact q1,q2,q3⟩
       ·rw [if_neg hi] at hic
        obtain ⟨r,u1,u2,u3⟩:=hrel.blk i c hic
        refine ⟨r, ?_,u2,u3⟩
        rw [hframe _ (Array.getElem?_eq_some_iff.1 u1).1 (fun e=>hi (hrel.inj i b (by simp [hic]) (by simp [hq]) e))]
        exact u1
      ·simp only [nwG,wrG] at hi hj
       refine hrel.inj i j ?_ ?_ he
       ·by_cases h1:i=b
        ·rw [h1];simp [hq]
        ·simpa [if_neg h1] using hi
       ·by_cases h1:j=b
        ·rw [h1];simp [hq]
        ·simpa [if_neg h1] using hj
     ·cases hw
    ·cases hgo
   ·cases hgo
  ·cases hs'
 ·cases hs'
end
def genOf (s:Sum):List LV→List Nat→List Blk→Nat→Option Dl:=fun args seen ks nb=>
 match s args with
 | some t=>match liveAll (lookB seen ks) t.rd,liveAll (lookB seen ks) t.wr,nodupB t.wr with
  | some rB,some wB,true=>match t.go rB wB nb with
   | some ans=>match zipW t.wr ans.wr with
    | some ws=>some ⟨ans.val,ws,ans.nw,[],ans.cs⟩
    | none=>none
   | none=>none
  | _,_,_=>none
 | none=>none
theorem genOf_ok {P:Program} {f:FuncId} {s:Sum} (hS:SumOK P f s):GenOK P f (genOf s):=by
 intro args seen ks g nb p d E w hl hd hnd hcs hrel hg hargs hn
 unfold genOf at hd
 split at hd
 ·rename_i t ht
  split at hd
  ·rename_i rB wB hr hw hnd2
   split at hd
   ·rename_i ans hgo
    split at hd
    ·rename_i ws hz
     cases hd
     have up:∀(l:List Nat) (r:List Blk),liveAll (lookB seen ks) l=some r→liveAll g l=some r:=fun l r h=>liveAll_congr h fun i b _ _ hi=>lookB_live hl hi
     exact hS args t g nb p rB wB ans ws E w ht (up _ _ hr) (up _ _ hw) hnd2 hgo hz hcs hrel hg hargs hn
    ·cases hd
   ·cases hd
  ·cases hd
 ·cases hd
def orGen (s1 s2:List LV→List Nat→List Blk→Nat→Option Dl):List LV→List Nat→List Blk→Nat→Option Dl:=fun args seen ks nb=>
 match s1 args seen ks nb with
 | some d=>some d
 | none=>s2 args seen ks nb
theorem orGen_ok {P:Program} {f:FuncId} {s1 s2:List LV→List Nat→List Blk→Nat→Option Dl} (h1:GenOK P f s1) (h2:GenOK P f s2):GenOK P f (orGen s1 s2):=by
 intro args seen ks g nb p d E w hl hd hnd hcs hrel hg hargs hn
 unfold orGen at hd
 split at hd
 ·rename_i d' hd'
  cases hd
  exact h1 args seen ks g nb p _ E w hl hd' hnd hcs hrel hg hargs hn
 ·exact h2 args seen ks g nb p d E w hl hd hnd hcs hrel hg hargs hn
end Go.Lr

/- Summaries for the whole filter: the flag may lie anywhere; what the evaluator makes by running. -/
namespace Go.Proofs.YtfepmlklbapfiaaGreat
open Go.Lr
set_option linter.unusedVariables false
noncomputable def K0:FuncId→Option SumK:=more (more (more S47 151 (liftF 67 (acSum 67 1 faddS'))) 36 (liftF 67 (acSum 67 1 fdotS))) 32 (liftF 67 (acSum 67 1 fhypS))
theorem soundK0:Sound Tryz.prog K0:=((sound47.more (liftF_ok sumFadd')).more (liftF_ok sumDot)).more (liftF_ok sumHyp)
noncomputable def K1:FuncId→Option SumK:=more K0 154 (accSum 67 (autoF Tryz.prog K0 Zl 2000 154 67))
theorem soundK1:Sound Tryz.prog K1:=soundK0.more (autoF_ok soundK0 (own_of soundK0 Tryz.func154 (by kernel_rfl)))
noncomputable def K2:FuncId→Option SumK:=more K1 130 (accSum 67 (autoF Tryz.prog K1 Zl 2000 130 67))
theorem soundK2:Sound Tryz.prog K2:=soundK1.more (autoF_ok soundK1 (own_of soundK1 Tryz.func130 (by kernel_rfl)))
noncomputable def K3:FuncId→Option SumK:=more K2 102 (accSum 67 (autoF Tryz.prog K2 Zl 2000 102 67))
theorem soundK3:Sound Tryz.prog K3:=soundK2.more (autoF_ok soundK2 (own_of soundK2 Tryz.func102 (by kernel_rfl)))
noncomputable def K4:FuncId→Option SumK:=more K3 15 (accSum 67 (autoF Tryz.prog K3 Zl 2000 15 67))
theorem soundK4:Sound Tryz.prog K4:=soundK3.more (autoF_ok soundK3 (own_of soundK3 Tryz.func15 (by kernel_rfl)))
noncomputable def K5:FuncId→Option SumK:=moreG K4 98 (orGen (narG 0 67 (autoA Tryz.prog K4 Zl 4000 98)) (autoA Tryz.prog K4 Zl 4000 98))
theorem soundK5:Sound Tryz.prog K5:=soundK4.moreG (orGen_ok (narG_ok (autoA_ok soundK4 (own_of soundK4 Tryz.func98 (by kernel_rfl)))) (autoA_ok soundK4 (own_of soundK4 Tryz.func98 (by kernel_rfl))))
noncomputable def K6:FuncId→Option SumK:=moreG K5 103 (autoA Tryz.prog K5 Zl 4000 103)
theorem soundK6:Sound Tryz.prog K6:=soundK5.moreG (autoA_ok soundK5 (own_of soundK5 Tryz.func103 (by kernel_rfl)))
noncomputable def K7:FuncId→Option SumK:=more K6 81 (autoP Tryz.prog K6 Zl 2000 81)
theorem soundK7:Sound Tryz.prog K7:=soundK6.more (autoP_ok soundK6 (own_of soundK6 Tryz.func81 (by kernel_rfl)))
end Go.Proofs.YtfepmlklbapfiaaGreat

/- state.unit: its summary. Plain sums of four squares. -/
namespace Go.Proofs.YtfepmlklbapfiaaGreat
open Go.Lr
set_option linter.unusedVariables false
def unA (q0 q1 q2 q3:Int):Int:=wVal 0 0+wVal (wHi (q0*q0)) (wLo (q0*q0))
def unB (q0 q1 q2 q3:Int):Int:=wVal (w64 (wHi (wVal 0 0+wVal (wHi (q0*q0)) (wLo (q0*q0))))) (wLo (wVal 0 0+wVal (wHi (q0*q0)) (wLo (q0*q0))))+wVal (wHi (q1*q1)) (wLo (q1*q1))
def unC (q0 q1 q2 q3:Int):Int:=wVal (w64 (wHi (wVal (w64 (wHi (wVal 0 0+wVal (wHi (q0*q0)) (wLo (q0*q0))))) (wLo (wVal 0 0+wVal (wHi (q0*q0)) (wLo (q0*q0))))+wVal (wHi (q1*q1)) (wLo (q1*q1))))) (wLo (wVal (w64 (wHi (wVal 0 0+wVal (wHi (q0*q0)) (wLo (q0*q0))))) (wLo (wVal 0 0+wVal (wHi (q0*q0)) (wLo (q0*q0))))+wVal (wHi (q1*q1)) (wLo (q1*q1))))+wVal (wHi (q2*q2)) (wLo (q2*q2))
def unD (q0 q1 q2 q3:Int):Int:=wVal (w64 (wHi (wVal (w64 (wHi (wVal (w64 (wHi (wVal 0 0+wVal (wHi (q0*q0)) (wLo (q0*q0))))) (wLo (wVal 0 0+wVal (wHi (q0*q0)) (wLo (q0*q0))))+wVal (wHi (q1*q1)) (wLo (q1*q1))))) (wLo (wVal (w64 (wHi (wVal 0 0+wVal (wHi (q0*q0)) (wLo (q0*q0))))) (wLo (wVal 0 0+wVal (wHi (q0*q0)) (wLo (q0*q0))))+wVal (wHi (q1*q1)) (wLo (q1*q1))))+wVal (wHi (q2*q2)) (wLo (q2*q2))))) (wLo (wVal (w64 (wHi (wVal (w64 (wHi (wVal 0 0+wVal (wHi (q0*q0)) (wLo (q0*q0))))) (wLo (wVal 0 0+wVal (wHi (q0*q0)) (wLo (q0*q0))))+wVal (wHi (q1*q1)) (wLo (q1*q1))))) (wLo (wVal (w64 (wHi (wVal 0 0+wVal (wHi (q0*q0)) (wLo (q0*q0))))) (wLo (wVal 0 0+wVal (wHi (q0*q0)) (wLo (q0*q0))))+wVal (wHi (q1*q1)) (wLo (q1*q1))))+wVal (wHi (q2*q2)) (wLo (q2*q2))))+wVal (wHi (q3*q3)) (wLo (q3*q3))
def unE (q0 q1 q2 q3:Int):Int:=wVal (w64 (wHi (wVal (w64 (wHi (wVal (w64 (wHi (wVal (w64 (wHi (wVal 0 0+wVal (wHi (q0*q0)) (wLo (q0*q0))))) (wLo (wVal 0 0+wVal (wHi (q0*q0)) (wLo (q0*q0))))+wVal (wHi (q1*q1)) (wLo (q1*q1))))) (wLo (wVal (w64 (wHi (wVal 0 0+wVal (wHi (q0*q0)) (wLo (q0*q0))))) (wLo (wVal 0 0+wVal (wHi (q0*q0)) (wLo (q0*q0))))+wVal (wHi (q1*q1)) (wLo (q1*q1))))+wVal (wHi (q2*q2)) (wLo (q2*q2))))) (wLo (wVal (w64 (wHi (wVal (w64 (wHi (wVal 0 0+wVal (wHi (q0*q0)) (wLo (q0*q0))))) (wLo (wVal 0 0+wVal (wHi (q0*q0)) (wLo (q0*q0))))+wVal (wHi (q1*q1)) (wLo (q1*q1))))) (wLo (wVal (w64 (wHi (wVal 0 0+wVal (wHi (q0*q0)) (wLo (q0*q0))))) (wLo (wVal 0 0+wVal (wHi (q0*q0)) (wLo (q0*q0))))+wVal (wHi (q1*q1)) (wLo (q1*q1))))+wVal (wHi (q2*q2)) (wLo (q2*q2))))+wVal (wHi (q3*q3)) (wLo (q3*q3))))) (wLo (wVal (w64 (wHi (wVal (w64 (wHi (wVal (w64 (wHi (wVal 0 0+wVal (wHi (q0*q0)) (wLo (q0*q0))))) (wLo (wVal 0 0+wVal (wHi (q0*q0)) (wLo (q0*q0))))+wVal (wHi (q1*q1)) (wLo (q1*q1))))) (wLo (wVal (w64 (wHi (wVal 0 0+wVal (wHi (q0*q0)) (wLo (q0*q0))))) (wLo (wVal 0 0+wVal (wHi (q0*q0)) (wLo (q0*q0))))+wVal (wHi (q1*q1)) (wLo (q1*q1))))+wVal (wHi (q2*q2)) (wLo (q2*q2))))) (wLo (wVal (w64 (wHi (wVal (w64 (wHi (wVal 0 0+wVal (wHi (q0*q0)) (wLo (q0*q0))))) (wLo (wVal 0 0+wVal (wHi (q0*q0)) (wLo (q0*q0))))+wVal (wHi (q1*q1)) (wLo (q1*q1))))) (wLo (wVal (w64 (wHi (wVal 0 0+wVal (wHi (q0*q0)) (wLo (q0*q0))))) (wLo (wVal 0 0+wVal (wHi (q0*q0)) (wLo (q0*q0))))+wVal (wHi (q1*q1)) (wLo (q1*q1))))+wVal (wHi (q2*q2)) (wLo (q2*q2))))+wVal (wHi (q3*q3)) (wLo (q3*q3))))
theorem kunR1 (q0 q1 q2 q3:Int):(runF Tryz.prog (dropS K7 67) Zl 4000 79 [.v (.agg [.int .i64 q0,.int .i64 q1,.int .i64 q2,.int .i64 q3])] [] 0 (nn 1 (tt 1 []))).map (fun r=>(r.1,r.2.2.2))=some (LV.v (V1.one (At.bool false)),[(decide (fabsV q0>1073741840),true)]):=by kernel_rfl
theorem kunR2 (q0 q1 q2 q3:Int):(runF Tryz.prog (dropS K7 67) Zl 4000 79 [.v (.agg [.int .i64 q0,.int .i64 q1,.int .i64 q2,.int .i64 q3])] [] 0 (nn 1 (ff 1 (nn 1 (tt 1 []))))).map (fun r=>(r.1,r.2.2.2))=some (LV.v (V1.one (At.bool false)),[(decide (fabsV q1>1073741840),true),(true&&true,true),(isI q0,true),(isI q0,true),(decide (fabsV q0>1073741840),false)]):=by kernel_rfl
theorem kunR3 (q0 q1 q2 q3:Int):(runF Tryz.prog (dropS K7 67) Zl 4000 79 [.v (.agg [.int .i64 q0,.int .i64 q1,.int .i64 q2,.int .i64 q3])] [] 0 (nn 1 (ff 1 (nn 1 (ff 1 (nn 1 (tt 1 []))))))).map (fun r=>(r.1,r.2.2.2))=some (LV.v (V1.one (At.bool false)),[(decide (fabsV q2>1073741840),true),(true&&true,true),(isI q1,true),(isI q1,true),(decide (fabsV q1>1073741840),false),(true&&true,true),(isI q0,true),(isI q0,true),(decide (fabsV q0>1073741840),false)]):=by kernel_rfl
theorem kunR4 (q0 q1 q2 q3:Int):(runF Tryz.prog (dropS K7 67) Zl 4000 79 [.v (.agg [.int .i64 q0,.int .i64 q1,.int .i64 q2,.int .i64 q3])] [] 0 (nn 1 (ff 1 (nn 1 (ff 1 (nn 1 (ff 1 (nn 1 (tt 1 []))))))))).map (fun r=>(r.1,r.2.2.2))=some (LV.v (V1.one (At.bool false)),[(decide (fabsV q3>1073741840),true),(true&&true,true),(isI q2,true),(isI q2,true),(decide (fabsV q2>1073741840),false),(true&&true,true),(isI q1,true),(isI q1,true),(decide (fabsV q1>1073741840),false),(true&&true,true),(isI q0,true),(isI q0,true),(decide (fabsV q0>1073741840),false)]):=by kernel_rfl
theorem kunR5 (q0 q1 q2 q3:Int):(runF Tryz.prog (dropS K7 67) Zl 4000 79 [.v (.agg [.int .i64 q0,.int .i64 q1,.int .i64 q2,.int .i64 q3])] [] 0 (nn 1 (ff 1 (nn 1 (ff 1 (nn 1 (ff 1 (nn 1 (ff 1 (nn 2 (ff 1 (nn 1 (ff 1 (nn 1 (ff 1 (nn 1 (ff 1 (nn 1 (tt 8 []))))))))))))))))))).map (fun r=>(r.1,r.2.2.2))=some (LV.v (V1.one (At.bool (decide (wr IntKind.i64 ((if isI (rndV (unE q0 q1 q2 q3) (Int.toNat 0))=true then rndV (unE q0 q1 q2 q3) (Int.toNat 0) else 0) - 1152921504606846976)≤4294967296)))),[(decide (wr IntKind.i64 ((if isI (rndV (unE q0 q1 q2 q3) (Int.toNat 0))=true then rndV (unE q0 q1 q2 q3) (Int.toNat 0) else 0) - 1152921504606846976)≥ -4294967296),true),(decide (wr IntKind.i64 ((if isI (rndV (unE q0 q1 q2 q3) (Int.toNat 0))=true then rndV (unE q0 q1 q2 q3) (Int.toNat 0) else 0) - 1152921504606846976)≥ -4294967296),true),(decide (wr IntKind.i64 ((if isI (rndV (unE q0 q1 q2 q3) (Int.toNat 0))=true then rndV (unE q0 q1 q2 q3) (Int.toNat 0) else 0) - 1152921504606846976)≥ -4294967296),true),(decide (wr IntKind.i64 ((if isI (rndV (unE q0 q1 q2 q3) (Int.toNat 0))=true then rndV (unE q0 q1 q2 q3) (Int.toNat 0) else 0) - 1152921504606846976)≥ -4294967296),true),(isI (rndV (unE q0 q1 q2 q3) 0),true),(isI (rndV (unE q0 q1 q2 q3) 0),true),(isI (rndV (unE q0 q1 q2 q3) 0),true),(isI (rndV (unE q0 q1 q2 q3) 0),true),(isI (w64 (wHi (unD q0 q1 q2 q3))),true),(isU (wLo (unD q0 q1 q2 q3)),true),(decide (0≤0)&&decide (0≤126),true),(!isW (unD q0 q1 q2 q3),false),(isI (w64 (wHi (unC q0 q1 q2 q3))),true),(isU (wLo (unC q0 q1 q2 q3)),true),(isI (wHi (q3*q3)),true),(isU (wLo (q3*q3)),true),(!isW (unC q0 q1 q2 q3),false),(isI (w64 (wHi (unB q0 q1 q2 q3))),true),(isU (wLo (unB q0 q1 q2 q3)),true),(isI (wHi (q2*q2)),true),(isU (wLo (q2*q2)),true),(!isW (unB q0 q1 q2 q3),false),(isI (w64 (wHi (unA q0 q1 q2 q3))),true),(isU (wLo (unA q0 q1 q2 q3)),true),(isI (wHi (q1*q1)),true),(isU (wLo (q1*q1)),true),(!isW (unA q0 q1 q2 q3),false),(isI 0,true),(isU 0,true),(isI (wHi (q0*q0)),true),(isU (wLo (q0*q0)),true),(true&&true,true),(isI q3,true),(isI q3,true),(decide (fabsV q3>1073741840),false),(true&&true,true),(isI q2,true),(isI q2,true),(decide (fabsV q2>1073741840),false),(true&&true,true),(isI q1,true),(isI q1,true),(decide (fabsV q1>1073741840),false),(true&&true,true),(isI q0,true),(isI q0,true),(decide (fabsV q0>1073741840),false)]):=by kernel_rfl
theorem kunR6 (q0 q1 q2 q3:Int):(runF Tryz.prog (dropS K7 67) Zl 4000 79 [.v (.agg [.int .i64 q0,.int .i64 q1,.int .i64 q2,.int .i64 q3])] [] 0 (nn 1 (ff 1 (nn 1 (ff 1 (nn 1 (ff 1 (nn 1 (ff 1 (nn 2 (ff 1 (nn 1 (ff 1 (nn 1 (ff 1 (nn 1 (ff 1 (nn 1 (tt 4 (ff 4 [])))))))))))))))))))).map (fun r=>(r.1,r.2.2.2))=some (LV.v (V1.one (At.bool false)),[(decide (wr IntKind.i64 ((if isI (rndV (unE q0 q1 q2 q3) (Int.toNat 0))=true then rndV (unE q0 q1 q2 q3) (Int.toNat 0) else 0) - 1152921504606846976)≥ -4294967296),false),(decide (wr IntKind.i64 ((if isI (rndV (unE q0 q1 q2 q3) (Int.toNat 0))=true then rndV (unE q0 q1 q2 q3) (Int.toNat 0) else 0) - 1152921504606846976)≥ -4294967296),false),(decide (wr IntKind.i64 ((if isI (rndV (unE q0 q1 q2 q3) (Int.toNat 0))=true then rndV (unE q0 q1 q2 q3) (Int.toNat 0) else 0) - 1152921504606846976)≥ -4294967296),false),(decide (wr IntKind.i64 ((if isI (rndV (unE q0 q1 q2 q3) (Int.toNat 0))=true then rndV (unE q0 q1 q2 q3) (Int.toNat 0) else 0) - 1152921504606846976)≥ -4294967296),false),(isI (rndV (unE q0 q1 q2 q3) 0),true),(isI (rndV (unE q0 q1 q2 q3) 0),true),(isI (rndV (unE q0 q1 q2 q3) 0),true),(isI (rndV (unE q0 q1 q2 q3) 0),true),(isI (w64 (wHi (unD q0 q1 q2 q3))),true),(isU (wLo (unD q0 q1 q2 q3)),true),(decide (0≤0)&&decide (0≤126),true),(!isW (unD q0 q1 q2 q3),false),(isI (w64 (wHi (unC q0 q1 q2 q3))),true),(isU (wLo (unC q0 q1 q2 q3)),true),(isI (wHi (q3*q3)),true),(isU (wLo (q3*q3)),true),(!isW (unC q0 q1 q2 q3),false),(isI (w64 (wHi (unB q0 q1 q2 q3))),true),(isU (wLo (unB q0 q1 q2 q3)),true),(isI (wHi (q2*q2)),true),(isU (wLo (q2*q2)),true),(!isW (unB q0 q1 q2 q3),false),(isI (w64 (wHi (unA q0 q1 q2 q3))),true),(isU (wLo (unA q0 q1 q2 q3)),true),(isI (wHi (q1*q1)),true),(isU (wLo (q1*q1)),true),(!isW (unA q0 q1 q2 q3),false),(isI 0,true),(isU 0,true),(isI (wHi (q0*q0)),true),(isU (wLo (q0*q0)),true),(true&&true,true),(isI q3,true),(isI q3,true),(decide (fabsV q3>1073741840),false),(true&&true,true),(isI q2,true),(isI q2,true),(decide (fabsV q2>1073741840),false),(true&&true,true),(isI q1,true),(isI q1,true),(decide (fabsV q1>1073741840),false),(true&&true,true),(isI q0,true),(isI q0,true),(decide (fabsV q0>1073741840),false)]):=by kernel_rfl
theorem fabsk_le {x:Int} (h:decide (fabsV x>1073741840)=false): -1073741840≤x∧x≤1073741840:=by
 have:=of_decide_eq_false h
 unfold fabsV at this
 split at this <;> rename_i h1
 ·omega
 ·split at this <;> rename_i h2
  ·omega
  ·split at this <;> omega
theorem sqk_bd {x:Int} (h: -1073741840≤x∧x≤1073741840):0≤x*x∧x*x≤1152921538966585600:=by
 constructor
 ·by_cases h0:0≤x
  ·exact Int.mul_nonneg h0 h0
  ·have:=Int.mul_nonneg (show 0≤ -x by omega) (show 0≤ -x by omega);rwa [Int.neg_mul_neg] at this
 ·by_cases h0:0≤x
  ·have:=Int.mul_le_mul h.2 h.2 h0 (by omega);omega
  ·have:=Int.mul_le_mul (show -x≤1073741840 by omega) (show -x≤1073741840 by omega) (by omega) (by omega);rw [Int.neg_mul_neg] at this;omega
theorem isIk_bd {x:Int} (h: -1073741840≤x∧x≤1073741840):isI x=true:=isI_iff.2 (by omega)
theorem w00:wVal 0 0=0:=rfl
theorem wre {v:Int} (h0:0≤v) (h1:v<9223372036854775808*18446744073709551616):w64 (wHi v)=wHi v:=w64_in (by unfold wHi;omega) (by unfold wHi;omega)
theorem isW_sm {v:Int} (h0:0≤v) (h1:v<9223372036854775808):isW v=true:=by
 unfold isW;simp only [Bool.and_eq_true,decide_eq_true_eq];omega
theorem isIk_hi {v:Int} (h0:0≤v) (h1:v<9223372036854775808):isI (wHi v)=true:=isI_iff.2 (by unfold wHi;omega)
theorem uAll {q0 q1 q2 q3:Int} (h0: -1073741840≤q0∧q0≤1073741840) (h1: -1073741840≤q1∧q1≤1073741840) (h2: -1073741840≤q2∧q2≤1073741840) (h3: -1073741840≤q3∧q3≤1073741840):
  unA q0 q1 q2 q3=q0*q0∧unB q0 q1 q2 q3=q0*q0+q1*q1∧unC q0 q1 q2 q3=q0*q0+q1*q1+q2*q2∧unD q0 q1 q2 q3=q0*q0+q1*q1+q2*q2+q3*q3∧unE q0 q1 q2 q3=q0*q0+q1*q1+q2*q2+q3*q3:=by
 have s0:=sqk_bd h0
 have s1:=sqk_bd h1
 have s2:=sqk_bd h2
 have s3:=sqk_bd h3
 have a:unA q0 q1 q2 q3=q0*q0:=by unfold unA;rw [wVal_mk,w00];omega
 have b:unB q0 q1 q2 q3=q0*q0+q1*q1:=by
  have e:unB q0 q1 q2 q3=wVal (w64 (wHi (unA q0 q1 q2 q3))) (wLo (unA q0 q1 q2 q3))+wVal (wHi (q1*q1)) (wLo (q1*q1)):=rfl
  rw [e,a,wre (by omega) (by omega),wVal_mk,wVal_mk]
 have c:unC q0 q1 q2 q3=q0*q0+q1*q1+q2*q2:=by
  have e:unC q0 q1 q2 q3=wVal (w64 (wHi (unB q0 q1 q2 q3))) (wLo (unB q0 q1 q2 q3))+wVal (wHi (q2*q2)) (wLo (q2*q2)):=rfl
  rw [e,b,wre (by omega) (by omega),wVal_mk,wVal_mk]
 have d:unD q0 q1 q2 q3=q0*q0+q1*q1+q2*q2+q3*q3:=by
  have e:unD q0 q1 q2 q3=wVal (w64 (wHi (unC q0 q1 q2 q3))) (wLo (unC q0 q1 q2 q3))+wVal (wHi (q3*q3)) (wLo (q3*q3)):=rfl
  rw [e,c,wre (by omega) (by omega),wVal_mk,wVal_mk]
 refine ⟨a,b,c,d, ?_⟩
 have e:unE q0 q1 q2 q3=wVal (w64 (wHi (unD q0 q1 q2 q3))) (wLo (unD q0 q1 q2 q3)):=rfl
 rw [e,d,wre (by omega) (by omega),wVal_mk]
def kunB (q0 q1 q2 q3:Int):Bool:=bif decide (fabsV q0>1073741840) then false else bif decide (fabsV q1>1073741840) then false else bif decide (fabsV q2>1073741840) then false else bif decide (fabsV q3>1073741840) then false else
 decide (q0*q0+q1*q1+q2*q2+q3*q3 - 1152921504606846976≥ -4294967296)&&decide (q0*q0+q1*q1+q2*q2+q3*q3 - 1152921504606846976≤4294967296)
def kunS:List LV→Option (LV×List (Bool×Bool))
 | [.v (.agg [.int .i64 q0,.int .i64 q1,.int .i64 q2,.int .i64 q3])]=>some (.v (.one (.bool (kunB q0 q1 q2 q3))),[])
 | _=>none
theorem sumKun:SumOK Tryz.prog 79 (pureSum kunS):=by
 refine pureSum_run (z:=Zl) (soundK7.drop 67) (own_of soundK7 Tryz.func79 (by kernel_rfl)) fun args v cs hF hc=> ?_
 unfold kunS at hF
 split at hF
 ·rename_i q0 q1 q2 q3
  cases hF
  cases c0:decide (fabsV q0>1073741840)
  ·have h0:=fabsk_le c0
   have b0:=isIk_bd h0
   cases c1:decide (fabsV q1>1073741840)
   ·have h1:=fabsk_le c1
    have b1:=isIk_bd h1
    cases c2:decide (fabsV q2>1073741840)
    ·have h2:=fabsk_le c2
     have b2:=isIk_bd h2
     cases c3:decide (fabsV q3>1073741840)
     ·have h3:=fabsk_le c3
      obtain ⟨eA,eB,eC,eD,eE⟩:=uAll h0 h1 h2 h3
      have s0:=sqk_bd h0
      have s1:=sqk_bd h1
      have s2:=sqk_bd h2
      have s3:=sqk_bd h3
      have r0:isI (rndV (unE q0 q1 q2 q3) 0)=true:=by rw [eE];have:=rnd0 (q0*q0+q1*q1+q2*q2+q3*q3);simp only [Int.toNat_zero] at this;rw [this];exact isI_iff.2 (by omega)
      have r1:rndV (unE q0 q1 q2 q3) (Int.toNat 0)=q0*q0+q1*q1+q2*q2+q3*q3:=by rw [eE,rnd0]
      have r2:wr IntKind.i64 ((if isI (rndV (unE q0 q1 q2 q3) (Int.toNat 0))=true then rndV (unE q0 q1 q2 q3) (Int.toNat 0) else 0) - 1152921504606846976)=q0*q0+q1*q1+q2*q2+q3*q3 - 1152921504606846976:=by
       rw [if_pos (show isI (rndV (unE q0 q1 q2 q3) (Int.toNat 0))=true from r0),r1,wr_i,w64_in (by omega) (by omega)]
      have wA:(!isW (unA q0 q1 q2 q3))=false:=by rw [eA,isW_sm (by omega) (by omega)];rfl
      have wB:(!isW (unB q0 q1 q2 q3))=false:=by rw [eB,isW_sm (by omega) (by omega)];rfl
      have wC:(!isW (unC q0 q1 q2 q3))=false:=by rw [eC,isW_sm (by omega) (by omega)];rfl
      have wD:(!isW (unD q0 q1 q2 q3))=false:=by rw [eD,isW_sm (by omega) (by omega)];rfl
      have iA:isI (w64 (wHi (unA q0 q1 q2 q3)))=true:=by rw [eA,wre (by omega) (by omega)];exact isIk_hi (by omega) (by omega)
      have iB:isI (w64 (wHi (unB q0 q1 q2 q3)))=true:=by rw [eB,wre (by omega) (by omega)];exact isIk_hi (by omega) (by omega)
      have iC:isI (w64 (wHi (unC q0 q1 q2 q3)))=true:=by rw [eC,wre (by omega) (by omega)];exact isIk_hi (by omega) (by omega)
      have iD:isI (w64 (wHi (unD q0 q1 q2 q3)))=true:=by rw [eD,wre (by omega) (by omega)];exact isIk_hi (by omega) (by omega)
      have i0:isI (wHi (q0*q0))=true:=isIk_hi (by omega) (by omega)
      have i1:isI (wHi (q1*q1))=true:=isIk_hi (by omega) (by omega)
      have i2:isI (wHi (q2*q2))=true:=isIk_hi (by omega) (by omega)
      have i3:isI (wHi (q3*q3))=true:=isIk_hi (by omega) (by omega)
      have b3:=isIk_bd h3
      cases c4:decide (q0*q0+q1*q1+q2*q2+q3*q3 - 1152921504606846976≥ -4294967296)
      ·have e:kunB q0 q1 q2 q3=false:=by unfold kunB;rw [c0,c1,c2,c3,c4];rfl
       rw [e]
       refine ⟨4000,_,_,kunR6 q0 q1 q2 q3, ?_⟩
       rw [r2]
       repeat' first | exact ae_nil | apply ae_cons
       all_goals first | with_reducible assumption | with_reducible rfl | with_reducible exact isU_lo _ | rfl
      ·have e:kunB q0 q1 q2 q3=decide (q0*q0+q1*q1+q2*q2+q3*q3 - 1152921504606846976≤4294967296):=by unfold kunB;rw [c0,c1,c2,c3,c4];rfl
       rw [e,←r2]
       refine ⟨4000,_,_,kunR5 q0 q1 q2 q3, ?_⟩
       rw [r2]
       repeat' first | exact ae_nil | apply ae_cons
       all_goals first | with_reducible assumption | with_reducible rfl | with_reducible exact isU_lo _ | rfl
     ·have e:kunB q0 q1 q2 q3=false:=by unfold kunB;rw [c0,c1,c2,c3];rfl
      rw [e]
      refine ⟨4000,_,_,kunR4 q0 q1 q2 q3, ?_⟩
      repeat' first | exact ae_nil | apply ae_cons
      all_goals first | with_reducible assumption | with_reducible rfl | rfl
    ·have e:kunB q0 q1 q2 q3=false:=by unfold kunB;rw [c0,c1,c2];rfl
     rw [e]
     refine ⟨4000,_,_,kunR3 q0 q1 q2 q3, ?_⟩
     repeat' first | exact ae_nil | apply ae_cons
     all_goals first | with_reducible assumption | with_reducible rfl | rfl
   ·have e:kunB q0 q1 q2 q3=false:=by unfold kunB;rw [c0,c1];rfl
    rw [e]
    refine ⟨4000,_,_,kunR2 q0 q1 q2 q3, ?_⟩
    repeat' first | exact ae_nil | apply ae_cons
    all_goals first | with_reducible assumption | with_reducible rfl | rfl
  ·have e:kunB q0 q1 q2 q3=false:=by unfold kunB;rw [c0];rfl
   rw [e]
   exact ⟨4000,_,_,kunR1 q0 q1 q2 q3,ae_cons c0 ae_nil⟩
 ·cases hF
noncomputable def K8u:FuncId→Option SumK:=more K7 79 (pureSum kunS)
theorem soundK8u:Sound Tryz.prog K8u:=soundK7.more sumKun
end Go.Proofs.YtfepmlklbapfiaaGreat

/- state.clamp: its summary. -/
namespace Go.Proofs.YtfepmlklbapfiaaGreat
open Go.Lr
noncomputable def K9u:FuncId→Option SumK:=more K8u 83 (accSum 67 (autoF Tryz.prog K8u Zl 2000 83 67))
theorem soundK9u:Sound Tryz.prog K9u:=soundK8u.more (autoF_ok soundK8u (own_of soundK8u Tryz.func83 (by kernel_rfl)))
end Go.Proofs.YtfepmlklbapfiaaGreat

/- state.Keep: its summary, number by number: it always ends. -/
namespace Go.Proofs.YtfepmlklbapfiaaGreat
open Go.Lr
set_option linter.unusedVariables false
def keepH (hb:Bool) (s0 s1 s2 s3 s4 s5 s6 s7 s8 s9 s10 s11 s12 s13 s14 s15 s16 s17 s18 s19 s20 s21 s22 s23:Int):Bool:=(bif kunB s0 s1 s2 s3 then hb else uFl hb s0 s1 s2 s3)||clampH s4 (wr IntKind.i64 (0 - 549755813888)) 549755813888||clampH s5 (wr IntKind.i64 (0 - 549755813888)) 549755813888||clampH s6 (wr IntKind.i64 (0 - 549755813888)) 549755813888||clampH s7 (wr IntKind.i64 (0 - 9007199254740992)) 9007199254740992||clampH s8 (wr IntKind.i64 (0 - 9007199254740992)) 9007199254740992||clampH s9 (wr IntKind.i64 (0 - 9007199254740992)) 9007199254740992||clampH s10 (wr IntKind.i64 (0 - 134217728)) 134217728||clampH s11 (wr IntKind.i64 (0 - 134217728)) 134217728||clampH s12 (wr IntKind.i64 (0 - 134217728)) 134217728||clampH s13 (wr IntKind.i64 (0 - 1073741824)) 1073741824||clampH s14 (wr IntKind.i64 (0 - 1073741824)) 1073741824||clampH s15 (wr IntKind.i64 (0 - 1073741824)) 1073741824||clampH s16 (wr IntKind.i64 (0 - 2147483648)) 2147483648||clampH s17 (wr IntKind.i64 (0 - 2147483648)) 2147483648||clampH s18 (wr IntKind.i64 (0 - 2147483648)) 2147483648||clampH s19 (wr IntKind.i64 (0 - 2147483648)) 2147483648||clampH s20 (wr IntKind.i64 (0 - 2147483648)) 2147483648||clampH s21 (wr IntKind.i64 (0 - 2147483648)) 2147483648||clampH s22 (wr IntKind.i64 (0 - 137438953472)) 137438953472||clampH s23 (wr IntKind.i64 (0 - 137438953472)) 137438953472
def keepL (s0 s1 s2 s3 s4 s5 s6 s7 s8 s9 s10 s11 s12 s13 s14 s15 s16 s17 s18 s19 s20 s21 s22 s23:Int):LV:= .v (.agg [.int .i64 (bif kunB s0 s1 s2 s3 then s0 else uV0 s0 s1 s2 s3),.int .i64 (bif kunB s0 s1 s2 s3 then s1 else uV1 s0 s1 s2 s3),.int .i64 (bif kunB s0 s1 s2 s3 then s2 else uV2 s0 s1 s2 s3),.int .i64 (bif kunB s0 s1 s2 s3 then s3 else uV3 s0 s1 s2 s3),.int .i64 (clampV s4 (wr IntKind.i64 (0 - 549755813888)) 549755813888),.int .i64 (clampV s5 (wr IntKind.i64 (0 - 549755813888)) 549755813888),.int .i64 (clampV s6 (wr IntKind.i64 (0 - 549755813888)) 549755813888),.int .i64 (clampV s7 (wr IntKind.i64 (0 - 9007199254740992)) 9007199254740992),.int .i64 (clampV s8 (wr IntKind.i64 (0 - 9007199254740992)) 9007199254740992),.int .i64 (clampV s9 (wr IntKind.i64 (0 - 9007199254740992)) 9007199254740992),.int .i64 (clampV s10 (wr IntKind.i64 (0 - 134217728)) 134217728),.int .i64 (clampV s11 (wr IntKind.i64 (0 - 134217728)) 134217728),.int .i64 (clampV s12 (wr IntKind.i64 (0 - 134217728)) 134217728),.int .i64 (clampV s13 (wr IntKind.i64 (0 - 1073741824)) 1073741824),.int .i64 (clampV s14 (wr IntKind.i64 (0 - 1073741824)) 1073741824),.int .i64 (clampV s15 (wr IntKind.i64 (0 - 1073741824)) 1073741824),.int .i64 (clampV s16 (wr IntKind.i64 (0 - 2147483648)) 2147483648),.int .i64 (clampV s17 (wr IntKind.i64 (0 - 2147483648)) 2147483648),.int .i64 (clampV s18 (wr IntKind.i64 (0 - 2147483648)) 2147483648),.int .i64 (clampV s19 (wr IntKind.i64 (0 - 2147483648)) 2147483648),.int .i64 (clampV s20 (wr IntKind.i64 (0 - 2147483648)) 2147483648),.int .i64 (clampV s21 (wr IntKind.i64 (0 - 2147483648)) 2147483648),.int .i64 (clampV s22 (wr IntKind.i64 (0 - 137438953472)) 137438953472),.int .i64 (clampV s23 (wr IntKind.i64 (0 - 137438953472)) 137438953472)])
def keepF:List LV→Bool→Option (LV×Bool×List (Bool×Bool))
 | [.v (.agg [.int .i64 s0,.int .i64 s1,.int .i64 s2,.int .i64 s3,.int .i64 s4,.int .i64 s5,.int .i64 s6,.int .i64 s7,.int .i64 s8,.int .i64 s9,.int .i64 s10,.int .i64 s11,.int .i64 s12,.int .i64 s13,.int .i64 s14,.int .i64 s15,.int .i64 s16,.int .i64 s17,.int .i64 s18,.int .i64 s19,.int .i64 s20,.int .i64 s21,.int .i64 s22,.int .i64 s23])],hb=>some (keepL s0 s1 s2 s3 s4 s5 s6 s7 s8 s9 s10 s11 s12 s13 s14 s15 s16 s17 s18 s19 s20 s21 s22 s23,keepH hb s0 s1 s2 s3 s4 s5 s6 s7 s8 s9 s10 s11 s12 s13 s14 s15 s16 s17 s18 s19 s20 s21 s22 s23,[])
 | _,_=>none
theorem keepR1 (s0 s1 s2 s3 s4 s5 s6 s7 s8 s9 s10 s11 s12 s13 s14 s15 s16 s17 s18 s19 s20 s21 s22 s23:Int) (hb:Bool):(runF Tryz.prog K9u Zl 4000 42 [A0,.v (.agg [.int .i64 s0,.int .i64 s1,.int .i64 s2,.int .i64 s3,.int .i64 s4,.int .i64 s5,.int .i64 s6,.int .i64 s7,.int .i64 s8,.int .i64 s9,.int .i64 s10,.int .i64 s11,.int .i64 s12,.int .i64 s13,.int .i64 s14,.int .i64 s15,.int .i64 s16,.int .i64 s17,.int .i64 s18,.int .i64 s19,.int .i64 s20,.int .i64 s21,.int .i64 s22,.int .i64 s23])] [(0,flag 67 hb)] 1 (tt 1 [])).map (fun r=>(r.1,getM r.2.1 0,r.2.2.2))=some (.v (.agg [.int .i64 (uV0 s0 s1 s2 s3),.int .i64 (uV1 s0 s1 s2 s3),.int .i64 (uV2 s0 s1 s2 s3),.int .i64 (uV3 s0 s1 s2 s3),.int .i64 ((clampV s4 (wr IntKind.i64 (0 - 549755813888)) 549755813888)),.int .i64 ((clampV s5 (wr IntKind.i64 (0 - 549755813888)) 549755813888)),.int .i64 ((clampV s6 (wr IntKind.i64 (0 - 549755813888)) 549755813888)),.int .i64 ((clampV s7 (wr IntKind.i64 (0 - 9007199254740992)) 9007199254740992)),.int .i64 ((clampV s8 (wr IntKind.i64 (0 - 9007199254740992)) 9007199254740992)),.int .i64 ((clampV s9 (wr IntKind.i64 (0 - 9007199254740992)) 9007199254740992)),.int .i64 ((clampV s10 (wr IntKind.i64 (0 - 134217728)) 134217728)),.int .i64 ((clampV s11 (wr IntKind.i64 (0 - 134217728)) 134217728)),.int .i64 ((clampV s12 (wr IntKind.i64 (0 - 134217728)) 134217728)),.int .i64 ((clampV s13 (wr IntKind.i64 (0 - 1073741824)) 1073741824)),.int .i64 ((clampV s14 (wr IntKind.i64 (0 - 1073741824)) 1073741824)),.int .i64 ((clampV s15 (wr IntKind.i64 (0 - 1073741824)) 1073741824)),.int .i64 ((clampV s16 (wr IntKind.i64 (0 - 2147483648)) 2147483648)),.int .i64 ((clampV s17 (wr IntKind.i64 (0 - 2147483648)) 2147483648)),.int .i64 ((clampV s18 (wr IntKind.i64 (0 - 2147483648)) 2147483648)),.int .i64 ((clampV s19 (wr IntKind.i64 (0 - 2147483648)) 2147483648)),.int .i64 ((clampV s20 (wr IntKind.i64 (0 - 2147483648)) 2147483648)),.int .i64 ((clampV s21 (wr IntKind.i64 (0 - 2147483648)) 2147483648)),.int .i64 ((clampV s22 (wr IntKind.i64 (0 - 137438953472)) 137438953472)),.int .i64 ((clampV s23 (wr IntKind.i64 (0 - 137438953472)) 137438953472))]),some (flag 67 (uFl hb s0 s1 s2 s3||clampH s4 (wr IntKind.i64 (0 - 549755813888)) 549755813888||clampH s5 (wr IntKind.i64 (0 - 549755813888)) 549755813888||clampH s6 (wr IntKind.i64 (0 - 549755813888)) 549755813888||clampH s7 (wr IntKind.i64 (0 - 9007199254740992)) 9007199254740992||clampH s8 (wr IntKind.i64 (0 - 9007199254740992)) 9007199254740992||clampH s9 (wr IntKind.i64 (0 - 9007199254740992)) 9007199254740992||clampH s10 (wr IntKind.i64 (0 - 134217728)) 134217728||clampH s11 (wr IntKind.i64 (0 - 134217728)) 134217728||clampH s12 (wr IntKind.i64 (0 - 134217728)) 134217728||clampH s13 (wr IntKind.i64 (0 - 1073741824)) 1073741824||clampH s14 (wr IntKind.i64 (0 - 1073741824)) 1073741824||clampH s15 (wr IntKind.i64 (0 - 1073741824)) 1073741824||clampH s16 (wr IntKind.i64 (0 - 2147483648)) 2147483648||clampH s17 (wr IntKind.i64 (0 - 2147483648)) 2147483648||clampH s18 (wr IntKind.i64 (0 - 2147483648)) 2147483648||clampH s19 (wr IntKind.i64 (0 - 2147483648)) 2147483648||clampH s20 (wr IntKind.i64 (0 - 2147483648)) 2147483648||clampH s21 (wr IntKind.i64 (0 - 2147483648)) 2147483648||clampH s22 (wr IntKind.i64 (0 - 137438953472)) 137438953472||clampH s23 (wr IntKind.i64 (0 - 137438953472)) 137438953472)),[(!kunB s0 s1 s2 s3,true)]):=by kernel_rfl
theorem keepR2 (s0 s1 s2 s3 s4 s5 s6 s7 s8 s9 s10 s11 s12 s13 s14 s15 s16 s17 s18 s19 s20 s21 s22 s23:Int) (hb:Bool):(runF Tryz.prog K9u Zl 4000 42 [A0,.v (.agg [.int .i64 s0,.int .i64 s1,.int .i64 s2,.int .i64 s3,.int .i64 s4,.int .i64 s5,.int .i64 s6,.int .i64 s7,.int .i64 s8,.int .i64 s9,.int .i64 s10,.int .i64 s11,.int .i64 s12,.int .i64 s13,.int .i64 s14,.int .i64 s15,.int .i64 s16,.int .i64 s17,.int .i64 s18,.int .i64 s19,.int .i64 s20,.int .i64 s21,.int .i64 s22,.int .i64 s23])] [(0,flag 67 hb)] 1 (ff 1 [])).map (fun r=>(r.1,getM r.2.1 0,r.2.2.2))=some (.v (.agg [.int .i64 (s0),.int .i64 (s1),.int .i64 (s2),.int .i64 (s3),.int .i64 ((clampV s4 (wr IntKind.i64 (0 - 549755813888)) 549755813888)),.int .i64 ((clampV s5 (wr IntKind.i64 (0 - 549755813888)) 549755813888)),.int .i64 ((clampV s6 (wr IntKind.i64 (0 - 549755813888)) 549755813888)),.int .i64 ((clampV s7 (wr IntKind.i64 (0 - 9007199254740992)) 9007199254740992)),.int .i64 ((clampV s8 (wr IntKind.i64 (0 - 9007199254740992)) 9007199254740992)),.int .i64 ((clampV s9 (wr IntKind.i64 (0 - 9007199254740992)) 9007199254740992)),.int .i64 ((clampV s10 (wr IntKind.i64 (0 - 134217728)) 134217728)),.int .i64 ((clampV s11 (wr IntKind.i64 (0 - 134217728)) 134217728)),.int .i64 ((clampV s12 (wr IntKind.i64 (0 - 134217728)) 134217728)),.int .i64 ((clampV s13 (wr IntKind.i64 (0 - 1073741824)) 1073741824)),.int .i64 ((clampV s14 (wr IntKind.i64 (0 - 1073741824)) 1073741824)),.int .i64 ((clampV s15 (wr IntKind.i64 (0 - 1073741824)) 1073741824)),.int .i64 ((clampV s16 (wr IntKind.i64 (0 - 2147483648)) 2147483648)),.int .i64 ((clampV s17 (wr IntKind.i64 (0 - 2147483648)) 2147483648)),.int .i64 ((clampV s18 (wr IntKind.i64 (0 - 2147483648)) 2147483648)),.int .i64 ((clampV s19 (wr IntKind.i64 (0 - 2147483648)) 2147483648)),.int .i64 ((clampV s20 (wr IntKind.i64 (0 - 2147483648)) 2147483648)),.int .i64 ((clampV s21 (wr IntKind.i64 (0 - 2147483648)) 2147483648)),.int .i64 ((clampV s22 (wr IntKind.i64 (0 - 137438953472)) 137438953472)),.int .i64 ((clampV s23 (wr IntKind.i64 (0 - 137438953472)) 137438953472))]),some (flag 67 (hb||clampH s4 (wr IntKind.i64 (0 - 549755813888)) 549755813888||clampH s5 (wr IntKind.i64 (0 - 549755813888)) 549755813888||clampH s6 (wr IntKind.i64 (0 - 549755813888)) 549755813888||clampH s7 (wr IntKind.i64 (0 - 9007199254740992)) 9007199254740992||clampH s8 (wr IntKind.i64 (0 - 9007199254740992)) 9007199254740992||clampH s9 (wr IntKind.i64 (0 - 9007199254740992)) 9007199254740992||clampH s10 (wr IntKind.i64 (0 - 134217728)) 134217728||clampH s11 (wr IntKind.i64 (0 - 134217728)) 134217728||clampH s12 (wr IntKind.i64 (0 - 134217728)) 134217728||clampH s13 (wr IntKind.i64 (0 - 1073741824)) 1073741824||clampH s14 (wr IntKind.i64 (0 - 1073741824)) 1073741824||clampH s15 (wr IntKind.i64 (0 - 1073741824)) 1073741824||clampH s16 (wr IntKind.i64 (0 - 2147483648)) 2147483648||clampH s17 (wr IntKind.i64 (0 - 2147483648)) 2147483648||clampH s18 (wr IntKind.i64 (0 - 2147483648)) 2147483648||clampH s19 (wr IntKind.i64 (0 - 2147483648)) 2147483648||clampH s20 (wr IntKind.i64 (0 - 2147483648)) 2147483648||clampH s21 (wr IntKind.i64 (0 - 2147483648)) 2147483648||clampH s22 (wr IntKind.i64 (0 - 137438953472)) 137438953472||clampH s23 (wr IntKind.i64 (0 - 137438953472)) 137438953472)),[(!kunB s0 s1 s2 s3,false)]):=by kernel_rfl
theorem sumKeep:SumOK Tryz.prog 42 (accSum 67 keepF):=by
 refine accSum_run (z:=Zl) soundK9u (own_of soundK9u Tryz.func42 (by kernel_rfl)) fun args hb v h' cs hF hc=> ?_
 unfold keepF at hF
 split at hF
 ·rename_i s0 s1 s2 s3 s4 s5 s6 s7 s8 s9 s10 s11 s12 s13 s14 s15 s16 s17 s18 s19 s20 s21 s22 s23
  cases hF
  cases c:kunB s0 s1 s2 s3
  ·refine ⟨rfl,4000,tt 1 [],_, ?_,ae_cons (show (!kunB s0 s1 s2 s3)=true by rw [c];rfl) ae_nil⟩
   rw [keepR1]
   simp only [keepL,keepH,c,cond_false]
  ·refine ⟨rfl,4000,ff 1 [],_, ?_,ae_cons (show (!kunB s0 s1 s2 s3)=false by rw [c];rfl) ae_nil⟩
   rw [keepR2]
   simp only [keepL,keepH,c,cond_true]
 ·cases hF
noncomputable def K10u:FuncId→Option SumK:=more K9u 42 (accSum 67 keepF)
theorem soundK10u:Sound Tryz.prog K10u:=soundK9u.more sumKeep
noncomputable def K11u:FuncId→Option SumK:=more K10u 104 (accSum 67 (autoF Tryz.prog K10u Zl 2000 104 67))
theorem soundK11u:Sound Tryz.prog K11u:=soundK10u.more (autoF_ok soundK10u (own_of soundK10u Tryz.func104 (by kernel_rfl)))
noncomputable def K12u:FuncId→Option SumK:=more K11u 100 (accSum 67 (autoF Tryz.prog K11u Zl 2000 100 67))
theorem soundK12u:Sound Tryz.prog K12u:=soundK11u.more (autoF_ok soundK11u (own_of soundK11u Tryz.func100 (by kernel_rfl)))
end Go.Proofs.YtfepmlklbapfiaaGreat

/- States with holes: what a stage comes to, but for numbers that do not matter. -/
set_option linter.unusedVariables false
namespace Go.Lr
open Go.RowKit
inductive P1 where
 | lit (a:At)
 | hi
 | hb
def pairsB:List (Nat×Nat)→List (Nat×Nat)→Bool
 | [],[]=>true
 | (a,b)::l,(c,d)::m=>match Nat.beq a c with
  | true=>match Nat.beq b d with
   | true=>pairsB l m
   | false=>false
  | false=>false
 | _,_=>false
theorem pairsB_ok:∀{l m:List (Nat×Nat)},pairsB l m=true→l=m
 | [],[],_=>rfl
 | [],_::_,h=>by simp [pairsB] at h
 | _::_,[],h=>by simp [pairsB] at h
 | (a,b)::l,(c,d)::m,h=>by
  unfold pairsB at h
  split at h
  ·rename_i h1
   split at h
   ·rename_i h2
    rw [Nat.eq_of_beq_eq_true h1,Nat.eq_of_beq_eq_true h2,pairsB_ok h]
   ·cases h
  ·cases h
def nat3 (a b c d e f:Nat):Bool:=match Nat.beq a b with
 | true=>match Nat.beq c d with
  | true=>Nat.beq e f
  | false=>false
 | false=>false
theorem nat3_ok {a b c d e f:Nat} (h:nat3 a b c d e f=true):a=b∧c=d∧e=f:=by
 unfold nat3 at h
 split at h
 ·rename_i h1
  split at h
  ·rename_i h2
   exact ⟨Nat.eq_of_beq_eq_true h1,Nat.eq_of_beq_eq_true h2,Nat.eq_of_beq_eq_true h⟩
  ·cases h
 ·cases h
def eqA:At→At→Bool
 | .int k n,.int l m=>match kindEq k l with
  | true=>decide (n=m)
  | false=>false
 | .bool a,.bool b=>match a,b with
  | true,true=>true
  | false,false=>true
  | _,_=>false
 | .ptr b o,.ptr c p=>nat3 b c o p 0 0
 | .nilp,.nilp=>true
 | .sl b o l c,.sl b' o' l' c'=>match Nat.beq b b' with
  | true=>nat3 o o' l l' c c'
  | false=>false
 | .slu b l,.slu b' l'=>nat3 b b' l l' 0 0
 | .slx b o l c,.slx b' o' l' c'=>match Nat.beq b b' with
  | true=>nat3 o o' l l' c c'
  | false=>false
 | .ptx b o,.ptx c p=>nat3 b c o p 0 0
 | .nilsl,.nilsl=>true
 | .slt b o n,.slt b' o' n'=>nat3 b b' o o' n n'
 | .fn f l,.fn g m=>match Nat.beq f g with
  | true=>pairsB l m
  | false=>false
 | _,_=>false
theorem eqA_ok {a b:At} (h:eqA a b=true):a=b:=by
 unfold eqA at h
 split at h
 ·split at h
  ·rename_i h1
   rw [kindEq_spec h1,of_decide_eq_true h]
  ·cases h
 ·split at h <;> first | rfl | cases h
 ·obtain ⟨rfl,rfl,_⟩:=nat3_ok h;rfl
 ·rfl
 ·split at h
  ·rename_i h1
   obtain ⟨rfl,rfl,rfl⟩:=nat3_ok h
   rw [Nat.eq_of_beq_eq_true h1]
  ·cases h
 ·obtain ⟨rfl,rfl,_⟩:=nat3_ok h;rfl
 ·split at h
  ·rename_i h1
   obtain ⟨rfl,rfl,rfl⟩:=nat3_ok h
   rw [Nat.eq_of_beq_eq_true h1]
  ·cases h
 ·obtain ⟨rfl,rfl,_⟩:=nat3_ok h;rfl
 ·rfl
 ·obtain ⟨rfl,rfl,rfl⟩:=nat3_ok h;rfl
 ·split at h
  ·rename_i h1
   have e:_=_:=Nat.eq_of_beq_eq_true h1
   rw [e,pairsB_ok h]
  ·cases h
 ·cases h
def mat1:P1→At→Bool
 | .lit a,b=>eqA b a
 | .hi,.int .i64 _=>true
 | .hb,.bool _=>true
 | _,_=>false
def fil1 (x:Int) (y:Bool):P1→At
 | .lit a=>a
 | .hi=> .int .i64 x
 | .hb=> .bool y
def iA:At→Int
 | .int _ n=>n
 | _=>0
def bA:At→Bool
 | .bool b=>b
 | _=>false
theorem mat1_ok {p:P1} {a:At} (h:mat1 p a=true):a=fil1 (iA a) (bA a) p:=by
 unfold mat1 at h
 split at h
 ·exact eqA_ok h
 ·rfl
 ·rfl
 ·cases h
def matL:List P1→List At→Bool
 | [],[]=>true
 | p::ps,a::l=>match mat1 p a with
  | true=>matL ps l
  | false=>false
 | _,_=>false
def filL (f:Nat→Int) (g:Nat→Bool):Nat→List P1→List At
 | _,[]=>[]
 | o,p::ps=>fil1 (f o) (g o) p::filL f g (o+1) ps
def nthA (l:List At) (o:Nat):At:=(l[o]?).getD .nilp
theorem matL_ok:∀{ps:List P1} {l:List At} {o:Nat} {f:Nat→Int} {g:Nat→Bool},matL ps l=true→(∀k a,l[k]? = some a→f (o+k)=iA a∧g (o+k)=bA a)→l=filL f g o ps
 | [],[],_,_,_,_,_=>rfl
 | [],_::_,_,_,_,h,_=>by simp [matL] at h
 | _::_,[],_,_,_,h,_=>by simp [matL] at h
 | p::ps,a::l,o,f,g,h,hf=>by
  unfold matL at h
  split at h
  ·rename_i h1
   have h0:=hf 0 a rfl
   have e:=mat1_ok h1
   simp only [filL]
   rw [show f o=iA a from h0.1,show g o=bA a from h0.2,←e,←matL_ok h fun k b hk=>by
    have:=hf (k+1) b (by simpa using hk)
    rwa [show o+(k+1)=o+1+k by omega] at this]
  ·cases h
theorem matL_ok0 {ps:List P1} {l:List At} (h:matL ps l=true):l=filL (fun o=>iA (nthA l o)) (fun o=>bA (nthA l o)) 0 ps:=
 matL_ok h fun k a hk=>by simp [nthA,hk]
inductive PV where
 | one (p:P1)
 | agg (l:List P1)
structure PB where
 ty:TypeId
 fr:Nat×Nat
 es:Nat
 cells:List P1
structure Asg where
 F:Nat→Nat→Int
 G:Nat→Nat→Bool
 fs:Nat→Nat→Int
 gs:Nat→Nat→Bool
structure PS where
 live:List (Nat×PV)
 mem:List (Nat×PB)
 nb:Nat
def filV (f:Nat→Int) (g:Nat→Bool):PV→LV
 | .one p=> .v (.one (fil1 (f 0) (g 0) p))
 | .agg l=> .v (.agg (filL f g 0 l))
def filB (f:Nat→Int) (g:Nat→Bool) (b:PB):Blk:=⟨b.ty,b.fr,b.es,filL f g 0 b.cells⟩
def filVs (s:Asg):List (Nat×PV)→List (Nat×LV)
 | []=>[]
 | (i,p)::l=>(i,filV (s.fs i) (s.gs i) p)::filVs s l
def filM (s:Asg):List (Nat×PB)→Mem
 | []=>[]
 | (i,p)::l=>(i,filB (s.F i) (s.G i) p)::filM s l
def filS (s:Asg) (p:PS):Kst:=⟨filVs s p.live,filM s p.mem,p.nb⟩
def matV:PV→LV→Bool
 | .one p,.v (.one a)=>mat1 p a
 | .agg l,.v (.agg m)=>matL l m
 | _,_=>false
def vCells:LV→List At
 | .v (.one a)=>[a]
 | .v (.agg l)=>l
 | _=>[]
theorem matV_ok {p:PV} {v:LV} (h:matV p v=true):v=filV (fun o=>iA (nthA (vCells v) o)) (fun o=>bA (nthA (vCells v) o)) p:=by
 unfold matV at h
 split at h
 ·rename_i p a
  have e:=mat1_ok h
  show _=LV.v (.one (fil1 (iA a) (bA a) p))
  rw [←e]
 ·rename_i l m
  have e:=matL_ok0 h
  show _=LV.v (.agg (filL (fun o=>iA (nthA m o)) (fun o=>bA (nthA m o)) 0 l))
  rw [←e]
 ·cases h
def fr2 (a b:Nat×Nat):Bool:=match a,b with
 | (x,y),(z,w)=>nat3 x z y w 0 0
def matB (p:PB) (b:Blk):Bool:=match Nat.beq b.ty p.ty with
 | true=>match fr2 b.fr p.fr with
  | true=>match Nat.beq b.es p.es with
   | true=>matL p.cells b.cells
   | false=>false
  | false=>false
 | false=>false
theorem matB_ok {p:PB} {b:Blk} (h:matB p b=true):b=filB (fun o=>iA (nthA b.cells o)) (fun o=>bA (nthA b.cells o)) p:=by
 unfold matB at h
 split at h
 ·rename_i h1
  split at h
  ·rename_i h2
   split at h
   ·rename_i h3
    have e:=matL_ok0 h
    obtain ⟨ty,⟨x,y⟩,es,cells⟩:=b
    obtain ⟨ty',⟨x',y'⟩,es',ps⟩:=p
    simp only [fr2] at h2
    obtain ⟨rfl,rfl,_⟩:=nat3_ok h2
    have e1:ty=ty':=Nat.eq_of_beq_eq_true h1
    have e2:es=es':=Nat.eq_of_beq_eq_true h3
    subst e1
    subst e2
    show _=Blk.mk ty (x,y) es (filL (fun o=>iA (nthA cells o)) (fun o=>bA (nthA cells o)) 0 ps)
    rw [←e]
   ·cases h
  ·cases h
 ·cases h
def matVs:List (Nat×PV)→List LV→Bool
 | [],[]=>true
 | (_,p)::l,v::m=>match matV p v with
  | true=>matVs l m
  | false=>false
 | _,_=>false
def matBs:List (Nat×PB)→List (Option Blk)→Bool
 | [],[]=>true
 | (_,p)::l,some b::m=>match matB p b with
  | true=>matBs l m
  | false=>false
 | _,_=>false
theorem matVs_ok {s:Asg}:∀{l:List (Nat×PV)} {m:List LV} {h:Nat→LV},matVs l m=true→(l.map (·.1)).map h=m→(∀k,s.fs k=(fun o=>iA (nthA (vCells (h k)) o))∧s.gs k=(fun o=>bA (nthA (vCells (h k)) o)))→(l.map (·.1)).zip m=filVs s l
 | [],_,_,_,_,_=>rfl
 | (i,p)::l,[],_,h,_,_=>by simp [matVs] at h
 | (i,p)::l,v::m,hh,h,he,hs=>by
  unfold matVs at h
  split at h
  ·rename_i h1
   simp only [List.map_cons,List.cons.injEq] at he
   have e:=matV_ok h1
   simp only [List.map_cons,List.zip_cons_cons,filVs]
   rw [matVs_ok h he.2 hs,(hs i).1,(hs i).2,he.1,←e]
  ·cases h
theorem matBs_ok {s:Asg}:∀{l:List (Nat×PB)} {m:List (Option Blk)} {h:Nat→Option Blk},matBs l m=true→(l.map (·.1)).map h=m→
  (∀k b,h k=some b→s.F k=(fun o=>iA (nthA b.cells o))∧s.G k=(fun o=>bA (nthA b.cells o)))→∃bs,m=bs.map some∧(l.map (·.1)).zip bs=filM s l
 | [],[],_,_,_,_=>⟨[],rfl,rfl⟩
 | [],_::_,_,h,_,_=>by simp [matBs] at h
 | (i,p)::l,[],_,h,_,_=>by simp [matBs] at h
 | (i,p)::l,none::m,_,h,_,_=>by simp [matBs] at h
 | (i,p)::l,some b::m,hh,h,he,hs=>by
  unfold matBs at h
  split at h
  ·rename_i h1
   simp only [List.map_cons,List.cons.injEq] at he
   have e:=matB_ok h1
   obtain ⟨bs,g1,g2⟩:=matBs_ok h he.2 hs
   have h2:=hs i b he.1
   refine ⟨b::bs,by simp [g1], ?_⟩
   simp only [List.map_cons,List.zip_cons_cons,filM]
   rw [g2,h2.1,h2.2,←e]
  ·cases h
def exB:Ex→Ex→Bool
 | .normal,.normal=>true
 | .ret,.ret=>true
 | .exit a,.exit b=>Nat.beq a b
 | _,_=>false
theorem exB_ok {a b:Ex} (h:exB a b=true):a=b:=by
 unfold exB at h
 split at h
 ·rfl
 ·rfl
 ·rw [Nat.eq_of_beq_eq_true h]
 ·cases h
def stageB (p:PS) (e:Ex) (r:Option (Ex×List LV×List (Option Blk)×List (Bool×Bool))):Bool:=
 match r with
 | some (e0,vs,bs,cs)=>match exB e0 e with
  | true=>match matVs p.live vs with
   | true=>match matBs p.mem bs with
    | true=>allEqB cs
    | false=>false
   | false=>false
  | false=>false
 | none=>false
def ToP (P:Program) (sz:Nat) (c:Code) (A:Kst) (e:Ex) (B:Kst→Prop):Prop:=
 ∀E a w,KR E sz A a w→∀Q:Exit→Act→World→Prop,(∀B0,B B0→∀E' a' w',KR E' sz B0 a' w'→Ext w E A.ms w' E' B0.ms→Q e.to a' w')→c.wp P Q a w
def Fil (p:PS) (B:Kst):Prop:=∃s,B=filS s p
section
variable {P:Program} {S:FuncId→Option SumK} {z:Md} {sz:Nat}
theorem ToP.run (hs:Sound P S) {c:Code} {A:Kst} {e:Ex} {p:PS} {n:Nat} {dec:List (Option Bool)}
  (hrun:∀dead,stageB p e (projS (p.live.map (·.1)) (p.mem.map (·.1)) (Go.Lr.exec P S z n (.code c) (A.st sz dead dec)))=true)
  (hB:∀s,canB (filS s p)=true) (hnb:Nat.ble A.nb p.nb=true):ToP P sz c A e (Fil p):=by
 intro E a w hk Q hQ
 have hr:=hk.toR dec
 have h:=hrun fun t=>a.tmps.getD t undef
 cases hp:projS (p.live.map (·.1)) (p.mem.map (·.1)) (Go.Lr.exec P S z n (.code c) (A.st sz (fun t=>a.tmps.getD t undef) dec)) with
 | none=>rw [hp] at h;cases h
 | some q=>
  obtain ⟨e0,vs,bs,cs⟩:=q
  rw [hp] at h
  simp only [stageB] at h
  split at h
  ·rename_i he
   split at h
   ·rename_i hv
    split at h
    ·rename_i hb
     have hcs:=allEqB_ok h
     have:=exB_ok he
     subst this
     unfold projS at hp
     split at hp
     ·rename_i e' s' hex
      simp only [Option.some.injEq,Prod.mk.injEq] at hp
      obtain ⟨rfl,gv,gb,rfl⟩:=hp
      obtain ⟨e2,q1,q2,q3,q4,q5,q6⟩:=(exec_sound (binOK P) hs.sums hs.mix hs.ng n).1 c _ _ s' hex hk.le hr.st
      cases q1
      let s:Asg:=⟨fun k o=>iA (nthA ((getM s'.mem k).elim [] (·.cells)) o),fun k o=>bA (nthA ((getM s'.mem k).elim [] (·.cells)) o),fun k o=>iA (nthA (vCells (getT s'.tm k)) o),fun k o=>bA (nthA (vCells (getT s'.tm k)) o)⟩
      have e1:(p.live.map (·.1)).zip vs=filVs s p.live:=matVs_ok (h:=getT s'.tm) hv gv fun k=>⟨rfl,rfl⟩
      obtain ⟨bs',rfl,e3⟩:=matBs_ok (s:=s) (h:=getM s'.mem) hb gb fun k b hb=>⟨by show (fun o=>iA (nthA ((getM s'.mem k).elim [] (·.cells)) o))=_;rw [hb];rfl,by show (fun o=>bA (nthA ((getM s'.mem k).elim [] (·.cells)) o))=_;rw [hb];rfl⟩
      have hB':KstOK ⟨(p.live.map (·.1)).zip vs,(p.mem.map (·.1)).zip bs',p.nb⟩:=by rw [e1,e3];exact canB_ok (hB s)
      have hnb':=Nat.le_of_ble_eq_true hnb
      refine q6 hcs E a w hr Q fun E' a' w' hr' hx=> ?_
      have hsub:=zip_getM (p.mem.map (·.1)) bs' (getM s'.mem) gb
      refine hQ (filS s p) ⟨s,rfl⟩ E' a' w' ?_ ?_
      ·have:filS s p=⟨(p.live.map (·.1)).zip vs,(p.mem.map (·.1)).zip bs',p.nb⟩:=by rw [e1,e3];rfl
       rw [this]
       refine ⟨hB',hr'.size.trans q4,hk.le,hr'.defers,fun q hq=> ?_,⟨fun i b hib=>hr'.m.rel.blk i b (hsub i b hib),fun i j hi hj he=>hr'.m.rel.inj i j ?_ ?_ he⟩⟩
       ·rw [hr'.tm q.1,zip_getT (p.live.map (·.1)) vs (getT s'.tm) gv q hq]
       ·obtain ⟨b,hib⟩:=Option.isSome_iff_exists.1 hi;simp [hsub i b hib]
       ·obtain ⟨b,hjb⟩:=Option.isSome_iff_exists.1 hj;simp [hsub j b hjb]
      ·have:(filS s p).ms=(Kst.mk ((p.live.map (·.1)).zip vs) ((p.mem.map (·.1)).zip bs') p.nb).ms:=by rw [e1,e3];rfl
       rw [this]
       refine ⟨hnb',hx.agree,hx.os,hx.tape,hx.output,hx.size,hx.frame,fun i hi=>hx.src i ?_⟩
       obtain ⟨b,hib⟩:=Option.isSome_iff_exists.1 hi
       simp [hsub i b hib]
     ·cases hp
    ·cases h
   ·cases h
  ·cases h
theorem ToP.mono {c:Code} {A:Kst} {e:Ex} {B C:Kst→Prop} (h:ToP P sz c A e B) (k:∀x,B x→C x):ToP P sz c A e C:=
 fun E a w hr Q hQ=>h E a w hr Q fun B0 hB0=>hQ B0 (k B0 hB0)
theorem ToP.seq {c:Code} {A:Kst} {e:Ex} {B C:Kst→Prop} (hc:isSeq c=true) (h:ToP P sz (c1 c) A .normal B) (k:∀x,B x→ToP P sz (c2 c) x e C):ToP P sz c A e C:=by
 cases c <;> simp only [isSeq,Bool.false_eq_true] at hc
 intro E a w hr Q hQ
 refine wp_seq (h E a w hr _ fun B0 hB E' a' w' hr' hx'=> ?_)
 exact k B0 hB E' a' w' hr' Q fun C0 hC E'' a'' w'' hr'' hx''=>hQ C0 hC E'' a'' w'' hr'' (hx'.trans hx'')
theorem ToP.seq_out {c:Code} {A:Kst} {e:Ex} {B:Kst→Prop} (hc:isSeq c=true) (he:e≠ .normal) (h:ToP P sz (c1 c) A e B):ToP P sz c A e B:=by
 cases c <;> simp only [isSeq,Bool.false_eq_true] at hc
 intro E a w hr Q hQ
 refine wp_seq (h E a w hr _ fun B0 hB E' a' w' hr' hx'=> ?_)
 have:=hQ B0 hB E' a' w' hr' hx'
 cases e <;> first | exact absurd rfl he | exact this
theorem ToP.block {c:Code} {id:Nat} {A:Kst} {e:Ex} {B:Kst→Prop} (hc:blkId c=some id) (h:ToP P sz (c1 c) A e B) (he:e = .exit id∨e = .normal):ToP P sz c A .normal B:=by
 cases c <;> simp only [blkId,reduceCtorEq] at hc
 cases hc
 intro E a w hr Q hQ
 refine wp_block (h E a w hr _ fun B0 hB E' a' w' hr' hx'=> ?_)
 have:=hQ B0 hB E' a' w' hr' hx'
 rcases he with rfl | rfl
 ·simpa only [Ex.to,Exit.inBlock,if_true] using this
 ·exact this
def RdP (P:Program) (sz:Nat) (c:Code) (m:Nat) (A:Kst) (e:Ex) (B:Kst→Prop):Prop:=
 ∀E a w,KR E sz A a w→∀Q:Exit→Act→World→Prop,(∀B0,B B0→∀E' a' w',KR E' sz B0 a' w'→Ext w E A.ms w' E' B0.ms→Q e.to a' w')→Code.rounds P c Q m a w
theorem RdP.last {c:Code} {A:Kst} {e:Ex} {B:Kst→Prop} (he:e≠ .normal) (h:ToP P sz c A e B):RdP P sz c 1 A e B:=by
 intro E a w hr Q hQ
 rw [rounds_succ]
 refine h E a w hr _ fun B0 hB E' a' w' hr' hx'=> ?_
 have:=hQ B0 hB E' a' w' hr' hx'
 cases e <;> first | exact absurd rfl he | exact this
theorem RdP.next {c:Code} {A:Kst} {e:Ex} {B C:Kst→Prop} {m:Nat} (h:ToP P sz c A .normal B) (k:∀x,B x→RdP P sz c m x e C):RdP P sz c (m+1) A e C:=by
 intro E a w hr Q hQ
 rw [rounds_succ]
 refine h E a w hr _ fun B0 hB E' a' w' hr' hx'=> ?_
 exact k B0 hB E' a' w' hr' Q fun C0 hC E'' a'' w'' hr'' hx''=>hQ C0 hC E'' a'' w'' hr'' (hx'.trans hx'')
theorem ToP.loop {c:Code} {A:Kst} {e:Ex} {B:Kst→Prop} {m:Nat} (hc:isLoop c=true) (h:RdP P sz (c1 c) m A e B):ToP P sz c A e B:=by
 cases c <;> simp only [isLoop,Bool.false_eq_true] at hc
 exact fun E a w hr Q hQ=>wp_loop_rounds m (h E a w hr Q hQ)
theorem pure_of_ToP {f:FuncId} {fn:Func} {c:Code} {args:List LV} {B:Kst→Prop} {e:Ex} {v:LV} (ho:Own P f) (hf:P.funcs[f]? = some fn) (hb:fn.body=some c)
  (hle:fn.ntmps≤60000) (hargs:args.length≤fn.ntmps) (ha:plainVs args=true) (h:ToP P fn.ntmps c ⟨argsL 0 args,[],0⟩ e B) (he:e = .normal∨e = .ret)
  (hres:∀x,B x→∀dead,resultsD P fn.results.toList (getT (x.tm dead)) x.mem=some v) (hv:v.ok noP=true) (w:World):CallOK P f (args.map (LV.den E0)).toArray w fun u w'=>u=v.den E0∧Below w.heap.size w w':=by
 have ha':=plainVs_iff.1 ha
 refine callOK_of ho (calls_of_wp hf hb (h E0 _ w ⟨⟨fun q hq=> ?_,(argsL_fst args 0).1,fun q hq=> ?_,fun i b h=>by simp [getM] at h,trivial⟩,by simp;omega,hle,rfl,fun q hq=> ?_,⟨fun i b h=>by simp [getM] at h,fun i j h=>by simp [getM] at h⟩⟩ _ fun B0 hB E' a' w' hr' hx'=> ?_))
 ·have:=(argsL_mem args 0 q).1 hq
  have:=(List.getElem?_eq_some_iff.1 this.2).1
  omega
 ·exact LV.ok_mono noP_below (ha' q.2 (List.mem_of_getElem? ((argsL_mem args 0 q).1 hq).2))
 ·have:=((argsL_mem args 0 q).1 hq).2
  simp only [Nat.sub_zero] at this
  have hlt:=(List.getElem?_eq_some_iff.1 this).1
  simp only [Array.getD_eq_getD_getElem?,Array.getElem?_append,List.size_toArray,List.length_map]
  rw [if_pos hlt]
  simp [this]
 ·have hR:=hr'.toR []
  have hpost:bodyPost P fn (fun e w'=>e = .returned (v.den E0)∧Below w.heap.size w w') .ret a' w':=by
   refine ⟨hr'.defers,v.den E',resultsD_spec hR.m.rel hR.tm (hres B0 hB _), ?_, ?_⟩
   ·rw [den_noP hv]
   ·exact ⟨hx'.os,hx'.tape,hx'.output,hx'.size,fun k hk=>hx'.frame k hk fun i hi=>by simp [getM,Kst.ms] at hi⟩
  rcases he with rfl | rfl
  ·exact hpost
  ·exact hpost
end
end Go.Lr
namespace Go.Lr
abbrev pI (n:Int):P1:= .lit (.int .i64 n)
abbrev pL (a:At):P1:= .lit a
abbrev pB (x:Bool):P1:= .lit (.bool x)
def rp:Nat→P1→List P1
 | 0,_=>[]
 | n+1,p=>p::rp n p
end Go.Lr

/- Opaque summaries, off one run that asks nothing. -/
set_option linter.unusedVariables false
namespace Go.Lr
open Go.RowKit
def okX (ty:TypeId) (n:Nat) (r:Option (LV×Option Blk×List (Bool×Bool))):Bool:=
 match r with
 | some (.v (.agg l),some b,cs)=>match allIB l n with
  | true=>match matB ⟨ty,(0,0),0,[.hb]⟩ b with
   | true=>allEqB cs
   | false=>false
  | false=>false
 | _=>false
theorem okX_ok {ty:TypeId} {n:Nat} {r:Option (LV×Option Blk×List (Bool×Bool))} (h:okX ty n r=true):∃l h' cs,r=some (.v (.agg l),some (flag ty h'),cs)∧AllI l n∧∀c∈cs,c.1=c.2:=by
 unfold okX at h
 split at h
 ·rename_i l b cs
  split at h
  ·rename_i h1
   split at h
   ·rename_i h2
    refine ⟨l,bA (nthA b.cells 0),cs, ?_,allIB_ok h1,allEqB_ok h⟩
    have e:b=flag ty (bA (nthA b.cells 0)):=matB_ok h2
    rw [←e]
   ·cases h
  ·cases h
 ·cases h
section
variable {P:Program} {S:FuncId→Option SumK} {z:Md}
theorem AllI.okn {l:List At} {n:Nat} (h:AllI l n):(LV.v (.agg l)).ok noP=true:=h.ok
theorem exF_run (hs:Sound P S) {f:FuncId} {ty:TypeId} {okA:List LV→Bool} {n:Nat} (ho:Own P f)
  (h:∀args hb,okA args=true→∃(k:Nat) (dec:List (Option Bool)),okX ty n ((runF P S z k f (A0::args) [(0,flag ty hb)] 1 dec).map (fun r=>(r.1,getM r.2.1 0,r.2.2.2)))=true):SumOK P f (accSum ty (exF P f ty okA n)):=by
 refine exF_ok ho fun args hb hok hp=> ?_
 obtain ⟨k,dec,hr⟩:=h args hb hok
 obtain ⟨l,h',cs,hrun,hl,hc⟩:=okX_ok hr
 exact ⟨l,h',hl,fun w L hL=>acc_run hs hrun hc hp hl.okn w L hL⟩
end
end Go.Lr

/- strap.Step: opaque; output.Of: by formula; and the rest of the filter over them. -/
namespace Go.Proofs.YtfepmlklbapfiaaGreat
open Go.Lr
set_option linter.unusedVariables false
def okSI:List LV→Bool
 | [.v (.agg [.int .i64 s0,.int .i64 s1,.int .i64 s2,.int .i64 s3,.int .i64 s4,.int .i64 s5,.int .i64 s6,.int .i64 s7,.int .i64 s8,.int .i64 s9,.int .i64 s10,.int .i64 s11,.int .i64 s12,.int .i64 s13,.int .i64 s14,.int .i64 s15,.int .i64 s16,.int .i64 s17,.int .i64 s18,.int .i64 s19,.int .i64 s20,.int .i64 s21,.int .i64 s22,.int .i64 s23]),.v (.agg [.int .i64 i0,.int .i64 i1,.int .i64 i2,.int .i64 i3,.int .i64 i4,.int .i64 i5,.int .i64 i6,.int .i64 i7])]=>true
 | _=>false
theorem stepX (s0 s1 s2 s3 s4 s5 s6 s7 s8 s9 s10 s11 s12 s13 s14 s15 s16 s17 s18 s19 s20 s21 s22 s23 i0 i1 i2 i3 i4 i5 i6 i7:Int) (hb:Bool):okX 67 24 ((runF Tryz.prog K12u Zl 4000 55 [A0,.v (.agg [.int .i64 s0,.int .i64 s1,.int .i64 s2,.int .i64 s3,.int .i64 s4,.int .i64 s5,.int .i64 s6,.int .i64 s7,.int .i64 s8,.int .i64 s9,.int .i64 s10,.int .i64 s11,.int .i64 s12,.int .i64 s13,.int .i64 s14,.int .i64 s15,.int .i64 s16,.int .i64 s17,.int .i64 s18,.int .i64 s19,.int .i64 s20,.int .i64 s21,.int .i64 s22,.int .i64 s23]),.v (.agg [.int .i64 i0,.int .i64 i1,.int .i64 i2,.int .i64 i3,.int .i64 i4,.int .i64 i5,.int .i64 i6,.int .i64 i7])] [(0,flag 67 hb)] 1 []).map (fun r=>(r.1,getM r.2.1 0,r.2.2.2)))=true:=by kernel_rfl
theorem sumStepX:SumOK Tryz.prog 55 (accSum 67 (exF Tryz.prog 55 67 okSI 24)):=by
 refine exF_run (z:=Zl) soundK12u (own_of soundK12u Tryz.func55 (by kernel_rfl)) fun args hb hok=> ?_
 unfold okSI at hok
 split at hok
 ·exact ⟨4000,[],stepX _ _ _ _ _ _ _ _ _ _ _ _ _ _ _ _ _ _ _ _ _ _ _ _ _ _ _ _ _ _ _ _ hb⟩
 ·cases hok
noncomputable def K13u:FuncId→Option SumK:=more K12u 55 (accSum 67 (exF Tryz.prog 55 67 okSI 24))
theorem soundK13u:Sound Tryz.prog K13u:=soundK12u.more sumStepX
def outV (t:Int) (s0 s1 s2 s3 s4 s5 s6 s7 s8 s9 s10 s11 s12 s13 s14 s15 s16 s17 s18 s19 s20 s21 s22 s23:Int):LV:=match keepL s0 s1 s2 s3 s4 s5 s6 s7 s8 s9 s10 s11 s12 s13 s14 s15 s16 s17 s18 s19 s20 s21 s22 s23 with
 | .v (.agg (k0::k1::k2::k3::k4::k5::k6::k7::k8::k9::_))=> .v (.agg [.int .i64 t,k0,k1,k2,k3,k4,k5,k6,k7,k8,k9])
 | v=>v
def outOfF:List LV→Bool→Option (LV×Bool×List (Bool×Bool))
 | [.v (.agg [.int .i64 s0,.int .i64 s1,.int .i64 s2,.int .i64 s3,.int .i64 s4,.int .i64 s5,.int .i64 s6,.int .i64 s7,.int .i64 s8,.int .i64 s9,.int .i64 s10,.int .i64 s11,.int .i64 s12,.int .i64 s13,.int .i64 s14,.int .i64 s15,.int .i64 s16,.int .i64 s17,.int .i64 s18,.int .i64 s19,.int .i64 s20,.int .i64 s21,.int .i64 s22,.int .i64 s23]),.v (.one (.int .i64 t))],hb=>some (outV t s0 s1 s2 s3 s4 s5 s6 s7 s8 s9 s10 s11 s12 s13 s14 s15 s16 s17 s18 s19 s20 s21 s22 s23,keepH hb s0 s1 s2 s3 s4 s5 s6 s7 s8 s9 s10 s11 s12 s13 s14 s15 s16 s17 s18 s19 s20 s21 s22 s23,[])
 | _,_=>none
theorem outOfR (t s0 s1 s2 s3 s4 s5 s6 s7 s8 s9 s10 s11 s12 s13 s14 s15 s16 s17 s18 s19 s20 s21 s22 s23:Int) (hb:Bool):(runF Tryz.prog K13u Zl 4000 54 [A0,.v (.agg [.int .i64 s0,.int .i64 s1,.int .i64 s2,.int .i64 s3,.int .i64 s4,.int .i64 s5,.int .i64 s6,.int .i64 s7,.int .i64 s8,.int .i64 s9,.int .i64 s10,.int .i64 s11,.int .i64 s12,.int .i64 s13,.int .i64 s14,.int .i64 s15,.int .i64 s16,.int .i64 s17,.int .i64 s18,.int .i64 s19,.int .i64 s20,.int .i64 s21,.int .i64 s22,.int .i64 s23]),I t] [(0,flag 67 hb)] 1 []).map (fun r=>(r.1,getM r.2.1 0,r.2.2.2))=some (outV t s0 s1 s2 s3 s4 s5 s6 s7 s8 s9 s10 s11 s12 s13 s14 s15 s16 s17 s18 s19 s20 s21 s22 s23,some (flag 67 (keepH hb s0 s1 s2 s3 s4 s5 s6 s7 s8 s9 s10 s11 s12 s13 s14 s15 s16 s17 s18 s19 s20 s21 s22 s23)),[]):=by kernel_rfl
theorem sumOutOf:SumOK Tryz.prog 54 (accSum 67 outOfF):=by
 refine accSum_run (z:=Zl) soundK13u (own_of soundK13u Tryz.func54 (by kernel_rfl)) fun args hb v h' cs hF hc=> ?_
 unfold outOfF at hF
 split at hF
 ·cases hF
  exact ⟨rfl,4000,[],_,outOfR _ _ _ _ _ _ _ _ _ _ _ _ _ _ _ _ _ _ _ _ _ _ _ _ _ hb,ae_nil⟩
 ·cases hF
noncomputable def K14u:FuncId→Option SumK:=more K13u 54 (accSum 67 outOfF)
theorem soundK14u:Sound Tryz.prog K14u:=soundK13u.more sumOutOf
def outPutS:List LV→Option (LV×List (Bool×Bool))
 | [.v (.agg [.int .i64 s0,.int .i64 s1,.int .i64 s2,.int .i64 s3,.int .i64 s4,.int .i64 s5,.int .i64 s6,.int .i64 s7,.int .i64 s8,.int .i64 s9,.int .i64 s10,.int .i64 s11,.int .i64 s12,.int .i64 s13,.int .i64 s14,.int .i64 s15,.int .i64 s16,.int .i64 s17,.int .i64 s18,.int .i64 s19,.int .i64 s20,.int .i64 s21,.int .i64 s22,.int .i64 s23]),.v (.agg [.int .i64 o0,.int .i64 o1,.int .i64 o2,.int .i64 o3,.int .i64 o4,.int .i64 o5,.int .i64 o6,.int .i64 o7,.int .i64 o8,.int .i64 o9,.int .i64 o10])]=>some (.v (.agg [.int .i64 o1,.int .i64 o2,.int .i64 o3,.int .i64 o4,.int .i64 o5,.int .i64 o6,.int .i64 o7,.int .i64 o8,.int .i64 o9,.int .i64 o10,.int .i64 s10,.int .i64 s11,.int .i64 s12,.int .i64 s13,.int .i64 s14,.int .i64 s15,.int .i64 s16,.int .i64 s17,.int .i64 s18,.int .i64 s19,.int .i64 s20,.int .i64 s21,.int .i64 s22,.int .i64 s23]),[])
 | _=>none
theorem outPutR (s0 s1 s2 s3 s4 s5 s6 s7 s8 s9 s10 s11 s12 s13 s14 s15 s16 s17 s18 s19 s20 s21 s22 s23 o0 o1 o2 o3 o4 o5 o6 o7 o8 o9 o10:Int):(runF Tryz.prog K14u Zl 4000 56 [.v (.agg [.int .i64 s0,.int .i64 s1,.int .i64 s2,.int .i64 s3,.int .i64 s4,.int .i64 s5,.int .i64 s6,.int .i64 s7,.int .i64 s8,.int .i64 s9,.int .i64 s10,.int .i64 s11,.int .i64 s12,.int .i64 s13,.int .i64 s14,.int .i64 s15,.int .i64 s16,.int .i64 s17,.int .i64 s18,.int .i64 s19,.int .i64 s20,.int .i64 s21,.int .i64 s22,.int .i64 s23]),.v (.agg [.int .i64 o0,.int .i64 o1,.int .i64 o2,.int .i64 o3,.int .i64 o4,.int .i64 o5,.int .i64 o6,.int .i64 o7,.int .i64 o8,.int .i64 o9,.int .i64 o10])] [] 0 []).map (fun r=>(r.1,r.2.2.2))=some (.v (.agg [.int .i64 o1,.int .i64 o2,.int .i64 o3,.int .i64 o4,.int .i64 o5,.int .i64 o6,.int .i64 o7,.int .i64 o8,.int .i64 o9,.int .i64 o10,.int .i64 s10,.int .i64 s11,.int .i64 s12,.int .i64 s13,.int .i64 s14,.int .i64 s15,.int .i64 s16,.int .i64 s17,.int .i64 s18,.int .i64 s19,.int .i64 s20,.int .i64 s21,.int .i64 s22,.int .i64 s23]),[]):=by kernel_rfl
theorem sumOutPut:SumOK Tryz.prog 56 (pureSum outPutS):=by
 refine pureSum_run (z:=Zl) soundK14u (own_of soundK14u Tryz.func56 (by kernel_rfl)) fun args v cs hF hc=> ?_
 unfold outPutS at hF
 split at hF
 ·cases hF
  exact ⟨4000,[],[],outPutR _ _ _ _ _ _ _ _ _ _ _ _ _ _ _ _ _ _ _ _ _ _ _ _ _ _ _ _ _ _ _ _ _ _ _,by simp⟩
 ·cases hF
noncomputable def K15u:FuncId→Option SumK:=more K14u 56 (pureSum outPutS)
theorem soundK15u:Sound Tryz.prog K15u:=soundK14u.more sumOutPut
noncomputable def K16u:FuncId→Option SumK:=more K15u 53 (accSum 67 (autoF Tryz.prog K15u Zl 2000 53 67))
theorem soundK16u:Sound Tryz.prog K16u:=soundK15u.more (autoF_ok soundK15u (own_of soundK15u Tryz.func53 (by kernel_rfl)))
noncomputable def K17u:FuncId→Option SumK:=more K16u 52 (autoP Tryz.prog K16u Zl 2000 52)
theorem soundK17u:Sound Tryz.prog K17u:=soundK16u.more (autoP_ok soundK16u (own_of soundK16u Tryz.func52 (by kernel_rfl)))
noncomputable def K18u:FuncId→Option SumK:=more K17u 158 (accSum 67 (autoF Tryz.prog K17u Zl 2000 158 67))
theorem soundK18u:Sound Tryz.prog K18u:=soundK17u.more (autoF_ok soundK17u (own_of soundK17u Tryz.func158 (by kernel_rfl)))
noncomputable def K19u:FuncId→Option SumK:=more K18u 108 (accSum 67 thS)
theorem soundK19u:Sound Tryz.prog K19u:=soundK18u.more (sumTh)
noncomputable def K20u:FuncId→Option SumK:=moreG K19u 106 (orGen (narG 0 67 (autoA Tryz.prog K19u Zl 4000 106)) (autoA Tryz.prog K19u Zl 4000 106))
theorem soundK20u:Sound Tryz.prog K20u:=soundK19u.moreG (orGen_ok (narG_ok (autoA_ok soundK19u (own_of soundK19u Tryz.func106 (by kernel_rfl)))) (autoA_ok soundK19u (own_of soundK19u Tryz.func106 (by kernel_rfl))))
noncomputable def K21u:FuncId→Option SumK:=more K20u 62 (autoP Tryz.prog K20u Zl 2000 62)
theorem soundK21u:Sound Tryz.prog K21u:=soundK20u.more (autoP_ok soundK20u (own_of soundK20u Tryz.func62 (by kernel_rfl)))
noncomputable def K22u:FuncId→Option SumK:=more K21u 41 (autoP Tryz.prog K21u Zl 2000 41)
theorem soundK22u:Sound Tryz.prog K22u:=soundK21u.more (autoP_ok soundK21u (own_of soundK21u Tryz.func41 (by kernel_rfl)))
noncomputable def K23u:FuncId→Option SumK:=moreG K22u 43 (orGen (narG 0 67 (autoA Tryz.prog K22u Zl 4000 43)) (autoA Tryz.prog K22u Zl 4000 43))
theorem soundK23u:Sound Tryz.prog K23u:=soundK22u.moreG (orGen_ok (narG_ok (autoA_ok soundK22u (own_of soundK22u Tryz.func43 (by kernel_rfl)))) (autoA_ok soundK22u (own_of soundK22u Tryz.func43 (by kernel_rfl))))
noncomputable def K24u:FuncId→Option SumK:=moreG K23u 46 (autoA Tryz.prog K23u Zl 4000 46)
theorem soundK24u:Sound Tryz.prog K24u:=soundK23u.moreG (autoA_ok soundK23u (own_of soundK23u Tryz.func46 (by kernel_rfl)))
noncomputable def K25u:FuncId→Option SumK:=moreG K24u 48 (autoA Tryz.prog K24u Zl 4000 48)
theorem soundK25u:Sound Tryz.prog K25u:=soundK24u.moreG (autoA_ok soundK24u (own_of soundK24u Tryz.func48 (by kernel_rfl)))
noncomputable def K26u:FuncId→Option SumK:=moreG K25u 26 (orGen (narG 1 67 (autoA Tryz.prog K25u Zl 4000 26)) (autoA Tryz.prog K25u Zl 4000 26))
theorem soundK26u:Sound Tryz.prog K26u:=soundK25u.moreG (orGen_ok (narG_ok (autoA_ok soundK25u (own_of soundK25u Tryz.func26 (by kernel_rfl)))) (autoA_ok soundK25u (own_of soundK25u Tryz.func26 (by kernel_rfl))))
noncomputable def K27u:FuncId→Option SumK:=moreG K26u 86 (autoA Tryz.prog K26u Zl 4000 86)
theorem soundK27u:Sound Tryz.prog K27u:=soundK26u.moreG (autoA_ok soundK26u (own_of soundK26u Tryz.func86 (by kernel_rfl)))
noncomputable def K28u:FuncId→Option SumK:=moreG K27u 27 (orGen (narG 1 67 (autoA Tryz.prog K27u Zl 4000 27)) (autoA Tryz.prog K27u Zl 4000 27))
theorem soundK28u:Sound Tryz.prog K28u:=soundK27u.moreG (orGen_ok (narG_ok (autoA_ok soundK27u (own_of soundK27u Tryz.func27 (by kernel_rfl)))) (autoA_ok soundK27u (own_of soundK27u Tryz.func27 (by kernel_rfl))))
noncomputable def K29u:FuncId→Option SumK:=moreG K28u 107 (orGen (narG 1 67 (autoA Tryz.prog K28u Zl 4000 107)) (autoA Tryz.prog K28u Zl 4000 107))
theorem soundK29u:Sound Tryz.prog K29u:=soundK28u.moreG (orGen_ok (narG_ok (autoA_ok soundK28u (own_of soundK28u Tryz.func107 (by kernel_rfl)))) (autoA_ok soundK28u (own_of soundK28u Tryz.func107 (by kernel_rfl))))
noncomputable def K30u:FuncId→Option SumK:=moreG K29u 59 (autoA Tryz.prog K29u Zl 4000 59)
theorem soundK30u:Sound Tryz.prog K30u:=soundK29u.moreG (autoA_ok soundK29u (own_of soundK29u Tryz.func59 (by kernel_rfl)))
noncomputable def K31u:FuncId→Option SumK:=moreG K30u 133 (autoA Tryz.prog K30u Zl 4000 133)
theorem soundK31u:Sound Tryz.prog K31u:=soundK30u.moreG (autoA_ok soundK30u (own_of soundK30u Tryz.func133 (by kernel_rfl)))
noncomputable def K32u:FuncId→Option SumK:=moreG K31u 61 (autoA Tryz.prog K31u Zl 4000 61)
theorem soundK32u:Sound Tryz.prog K32u:=soundK31u.moreG (autoA_ok soundK31u (own_of soundK31u Tryz.func61 (by kernel_rfl)))
noncomputable def K33u:FuncId→Option SumK:=moreG K32u 132 (autoA Tryz.prog K32u Zl 4000 132)
theorem soundK33u:Sound Tryz.prog K33u:=soundK32u.moreG (autoA_ok soundK32u (own_of soundK32u Tryz.func132 (by kernel_rfl)))
noncomputable def K34u:FuncId→Option SumK:=moreG K33u 65 (orGen (narG 1 67 (autoA Tryz.prog K33u Zl 4000 65)) (autoA Tryz.prog K33u Zl 4000 65))
theorem soundK34u:Sound Tryz.prog K34u:=soundK33u.moreG (orGen_ok (narG_ok (autoA_ok soundK33u (own_of soundK33u Tryz.func65 (by kernel_rfl)))) (autoA_ok soundK33u (own_of soundK33u Tryz.func65 (by kernel_rfl))))
noncomputable def K35u:FuncId→Option SumK:=moreG K34u 30 (autoA Tryz.prog K34u Zl 4000 30)
theorem soundK35u:Sound Tryz.prog K35u:=soundK34u.moreG (autoA_ok soundK34u (own_of soundK34u Tryz.func30 (by kernel_rfl)))
noncomputable def K36u:FuncId→Option SumK:=moreG K35u 31 (autoA Tryz.prog K35u Zl 4000 31)
theorem soundK36u:Sound Tryz.prog K36u:=soundK35u.moreG (autoA_ok soundK35u (own_of soundK35u Tryz.func31 (by kernel_rfl)))
noncomputable def K37u:FuncId→Option SumK:=more K36u 9 (pureSum stillS)
theorem soundK37u:Sound Tryz.prog K37u:=soundK36u.more (sumStill)
end Go.Proofs.YtfepmlklbapfiaaGreat

/- States with holes and with numbers told by a term; asks that are not closed are left to prove. -/
set_option linter.unusedVariables false
namespace Go.Lr
open Go.RowKit
inductive P2 where
 | old (p:P1)
 | sym (x:Int)
 | raw (a:At)
inductive Ob where
 | oi (x y:Int)
 | oa (x y:At)
 | ol (x y:List At)
 | ob (x y:Blk)
def Ob.ok:Ob→Prop
 | .oi x y=>x=y
 | .oa x y=>x=y
 | .ol x y=>x=y
 | .ob x y=>x=y
def mat2:P2→At→Option (List Ob)
 | .old p,a=>match mat1 p a with
  | true=>some []
  | false=>none
 | .raw x,a=>some [.oa a x]
 | .sym x,.int .i64 n=>some [.oi n x]
 | .sym _,_=>none
def fil2 (x:Int) (y:Bool):P2→At
 | .old p=>fil1 x y p
 | .sym n=> .int .i64 n
 | .raw a=>a
def AllOb (l:List Ob):Prop:=∀q∈l,q.ok
theorem mat2_ok {p:P2} {a:At} {es:List Ob} (h:mat2 p a=some es) (he:AllOb es):a=fil2 (iA a) (bA a) p:=by
 unfold mat2 at h
 split at h
 ·split at h
  ·rename_i h1
   exact mat1_ok h1
  ·cases h
 ·cases h
  exact he _ (List.mem_singleton.2 rfl)
 ·cases h
  rename_i x n
  have h1:n=x:=he (.oi n x) (List.mem_singleton.2 rfl)
  simp only [fil2]
  rw [h1]
 ·cases h
def matL2:List P2→List At→Option (List Ob)
 | [],[]=>some []
 | p::ps,a::l=>match mat2 p a with
  | some es=>match matL2 ps l with
   | some fs=>some (es++fs)
   | none=>none
  | none=>none
 | _,_=>none
def filL2 (f:Nat→Int) (g:Nat→Bool):Nat→List P2→List At
 | _,[]=>[]
 | o,p::ps=>fil2 (f o) (g o) p::filL2 f g (o+1) ps
theorem AllOb.left {l m:List Ob} (h:AllOb (l++m)):AllOb l:=fun q hq=>h q (List.mem_append_left m hq)
theorem AllOb.right {l m:List Ob} (h:AllOb (l++m)):AllOb m:=fun q hq=>h q (List.mem_append_right l hq)
theorem matL2_ok:∀{ps:List P2} {l:List At} {o:Nat} {f:Nat→Int} {g:Nat→Bool} {es:List Ob},matL2 ps l=some es→AllOb es→(∀k a,l[k]? = some a→f (o+k)=iA a∧g (o+k)=bA a)→l=filL2 f g o ps
 | [],[],_,_,_,_,_,_,_=>rfl
 | [],_::_,_,_,_,_,h,_,_=>by simp [matL2] at h
 | _::_,[],_,_,_,_,h,_,_=>by simp [matL2] at h
 | p::ps,a::l,o,f,g,es,h,he,hf=>by
  unfold matL2 at h
  split at h
  ·rename_i es1 h1
   split at h
   ·rename_i es2 h2
    cases h
    have h0:=hf 0 a rfl
    have e:=mat2_ok h1 he.left
    simp only [filL2]
    rw [show f o=iA a from h0.1,show g o=bA a from h0.2,←e,←matL2_ok h2 he.right fun k b hk=>by
     have:=hf (k+1) b (by simpa using hk)
     rwa [show o+(k+1)=o+1+k by omega] at this]
   ·cases h
  ·cases h
theorem matL2_ok0 {ps:List P2} {l:List At} {es:List Ob} (h:matL2 ps l=some es) (he:AllOb es):l=filL2 (fun o=>iA (nthA l o)) (fun o=>bA (nthA l o)) 0 ps:=
 matL2_ok h he fun k a hk=>by simp [nthA,hk]
inductive PV2 where
 | one (p:P2)
 | agg (l:List P2)
structure PB2 where
 ty:TypeId
 fr:Nat×Nat
 es:Nat
 cells:List P2
 raw:Option (List At):=none
structure PS2 where
 live:List (Nat×PV2)
 mem:List (Nat×PB2)
 nb:Nat
def filV2 (f:Nat→Int) (g:Nat→Bool):PV2→LV
 | .one p=> .v (.one (fil2 (f 0) (g 0) p))
 | .agg l=> .v (.agg (filL2 f g 0 l))
def filC2 (f:Nat→Int) (g:Nat→Bool) (ps:List P2):Option (List At)→List At
 | none=>filL2 f g 0 ps
 | some l=>l
def filB2 (f:Nat→Int) (g:Nat→Bool) (b:PB2):Blk:=⟨b.ty,b.fr,b.es,filC2 f g b.cells b.raw⟩
def filVs2 (s:Asg):List (Nat×PV2)→List (Nat×LV)
 | []=>[]
 | (i,p)::l=>(i,filV2 (s.fs i) (s.gs i) p)::filVs2 s l
def filM2 (s:Asg):List (Nat×PB2)→Mem
 | []=>[]
 | (i,p)::l=>(i,filB2 (s.F i) (s.G i) p)::filM2 s l
def filS2 (s:Asg) (p:PS2):Kst:=⟨filVs2 s p.live,filM2 s p.mem,p.nb⟩
def matV2:PV2→LV→Option (List Ob)
 | .one p,.v (.one a)=>mat2 p a
 | .agg l,.v (.agg m)=>matL2 l m
 | _,_=>none
theorem matV2_ok {p:PV2} {v:LV} {es:List Ob} (h:matV2 p v=some es) (he:AllOb es):v=filV2 (fun o=>iA (nthA (vCells v) o)) (fun o=>bA (nthA (vCells v) o)) p:=by
 unfold matV2 at h
 split at h
 ·rename_i p a
  have e:=mat2_ok h he
  show _=LV.v (.one (fil2 (iA a) (bA a) p))
  rw [←e]
 ·rename_i l m
  have e:=matL2_ok0 h he
  show _=LV.v (.agg (filL2 (fun o=>iA (nthA m o)) (fun o=>bA (nthA m o)) 0 l))
  rw [←e]
 ·cases h
def matB2 (p:PB2) (b:Blk):Option (List Ob):=match p.raw with
 | some l=>some [.ob b ⟨p.ty,p.fr,p.es,l⟩]
 | none=>match Nat.beq b.ty p.ty with
  | true=>match fr2 b.fr p.fr with
   | true=>match Nat.beq b.es p.es with
    | true=>matL2 p.cells b.cells
    | false=>none
   | false=>none
  | false=>none
theorem matB2_ok {p:PB2} {b:Blk} {es:List Ob} (h:matB2 p b=some es) (he:AllOb es):b=filB2 (fun o=>iA (nthA b.cells o)) (fun o=>bA (nthA b.cells o)) p:=by
 obtain ⟨ty',⟨x',y'⟩,es',ps,rw⟩:=p
 cases rw with
 | some l=>
  simp only [matB2,Option.some.injEq] at h
  subst h
  exact he _ (List.mem_singleton.2 rfl)
 | none=>
  simp only [matB2] at h
  split at h
  ·rename_i h1
   split at h
   ·rename_i h2
    split at h
    ·rename_i h3
     have e:=matL2_ok0 h he
     obtain ⟨ty,⟨x,y⟩,es,cells⟩:=b
     simp only [fr2] at h2
     obtain ⟨rfl,rfl,_⟩:=nat3_ok h2
     have e1:ty=ty':=Nat.eq_of_beq_eq_true h1
     have e2:es=es':=Nat.eq_of_beq_eq_true h3
     subst e1
     subst e2
     show _=Blk.mk ty (x,y) es (filL2 (fun o=>iA (nthA cells o)) (fun o=>bA (nthA cells o)) 0 ps)
     rw [←e]
    ·cases h
   ·cases h
  ·cases h
def matVs2:List (Nat×PV2)→List LV→Option (List Ob)
 | [],[]=>some []
 | (_,p)::l,v::m=>match matV2 p v with
  | some es=>match matVs2 l m with
   | some fs=>some (es++fs)
   | none=>none
  | none=>none
 | _,_=>none
def matBs2:List (Nat×PB2)→List (Option Blk)→Option (List Ob)
 | [],[]=>some []
 | (_,p)::l,some b::m=>match matB2 p b with
  | some es=>match matBs2 l m with
   | some fs=>some (es++fs)
   | none=>none
  | none=>none
 | _,_=>none
theorem matVs2_ok {s:Asg}:∀{l:List (Nat×PV2)} {m:List LV} {h:Nat→LV} {es:List Ob},matVs2 l m=some es→AllOb es→(l.map (·.1)).map h=m→(∀k,s.fs k=(fun o=>iA (nthA (vCells (h k)) o))∧s.gs k=(fun o=>bA (nthA (vCells (h k)) o)))→(l.map (·.1)).zip m=filVs2 s l
 | [],_,_,_,_,_,_,_=>rfl
 | (i,p)::l,[],_,_,h,_,_,_=>by simp [matVs2] at h
 | (i,p)::l,v::m,hh,es,h,hq,he,hs=>by
  unfold matVs2 at h
  split at h
  ·rename_i es1 h1
   split at h
   ·rename_i es2 h2
    cases h
    simp only [List.map_cons,List.cons.injEq] at he
    have e:=matV2_ok h1 hq.left
    simp only [List.map_cons,List.zip_cons_cons,filVs2]
    rw [matVs2_ok h2 hq.right he.2 hs,(hs i).1,(hs i).2,he.1,←e]
   ·cases h
  ·cases h
theorem matBs2_ok {s:Asg}:∀{l:List (Nat×PB2)} {m:List (Option Blk)} {h:Nat→Option Blk} {es:List Ob},matBs2 l m=some es→AllOb es→(l.map (·.1)).map h=m→
  (∀k b,h k=some b→s.F k=(fun o=>iA (nthA b.cells o))∧s.G k=(fun o=>bA (nthA b.cells o)))→∃bs,m=bs.map some∧(l.map (·.1)).zip bs=filM2 s l
 | [],[],_,_,_,_,_,_=>⟨[],rfl,rfl⟩
 | [],_::_,_,_,h,_,_,_=>by simp [matBs2] at h
 | (i,p)::l,[],_,_,h,_,_,_=>by simp [matBs2] at h
 | (i,p)::l,none::m,_,_,h,_,_,_=>by simp [matBs2] at h
 | (i,p)::l,some b::m,hh,es,h,hq,he,hs=>by
  unfold matBs2 at h
  split at h
  ·rename_i es1 h1
   split at h
   ·rename_i es2 h2
    cases h
    simp only [List.map_cons,List.cons.injEq] at he
    have e:=matB2_ok h1 hq.left
    obtain ⟨bs,g1,g2⟩:=matBs2_ok h2 hq.right he.2 hs
    have h2:=hs i b he.1
    refine ⟨b::bs,by simp [g1], ?_⟩
    simp only [List.map_cons,List.zip_cons_cons,filM2]
    rw [g2,h2.1,h2.2,←e]
   ·cases h
  ·cases h
def openC:List Bool→List (Bool×Bool)→Option (List (Bool×Bool))
 | [],[]=>some []
 | true::m,c::l=>match openC m l with
  | some r=>some (c::r)
  | none=>none
 | false::m,(true,true)::l=>openC m l
 | false::m,(false,false)::l=>openC m l
 | _,_=>none
theorem openC_ok:∀{m:List Bool} {l r:List (Bool×Bool)},openC m l=some r→(∀c∈r,c.1=c.2)→∀c∈l,c.1=c.2
 | [],[],_,_,_,c,hc=>by cases hc
 | [],_::_,_,h,_,_,_=>by simp [openC] at h
 | true::m,[],_,h,_,_,_=>by simp [openC] at h
 | true::m,c::l,r,h,hr,d,hd=>by
  simp only [openC] at h
  split at h
  ·rename_i r' h1
   cases h
   rcases List.mem_cons.1 hd with rfl | hd
   ·exact hr _ (List.mem_cons_self ..)
   ·exact openC_ok h1 (fun c hc=>hr c (List.mem_cons_of_mem _ hc)) d hd
  ·cases h
 | false::m,[],_,h,_,_,_=>by simp [openC] at h
 | false::m,(true,true)::l,r,h,hr,d,hd=>by
  simp only [openC] at h
  rcases List.mem_cons.1 hd with rfl | hd
  ·rfl
  ·exact openC_ok h hr d hd
 | false::m,(false,false)::l,r,h,hr,d,hd=>by
  simp only [openC] at h
  rcases List.mem_cons.1 hd with rfl | hd
  ·rfl
  ·exact openC_ok h hr d hd
 | false::m,(true,false)::l,r,h,_,_,_=>by simp [openC] at h
 | false::m,(false,true)::l,r,h,_,_,_=>by simp [openC] at h
def stageO (p:PS2) (e:Ex) (mask:List Bool) (r:Option (Ex×List LV×List (Option Blk)×List (Bool×Bool))):Option (List (Bool×Bool)×List Ob):=
 match r with
 | some (e0,vs,bs,cs)=>match exB e0 e with
  | true=>match matVs2 p.live vs with
   | some es=>match matBs2 p.mem bs with
    | some fs=>match openC mask cs with
     | some os=>some (os,es++fs)
     | none=>none
    | none=>none
   | none=>none
  | false=>none
 | none=>none
def Fil2 (p:PS2) (B:Kst):Prop:=∃s,B=filS2 s p
section
variable {P:Program} {S:FuncId→Option SumK} {z:Md} {sz:Nat}
theorem ToP.run2 (hs:Sound P S) {c:Code} {A:Kst} {e:Ex} {p:PS2} {n:Nat} {dec:List (Option Bool)} {mask:List Bool} {os:List (Bool×Bool)} {es:List Ob}
  (hrun:∀dead,stageO p e mask (projS (p.live.map (·.1)) (p.mem.map (·.1)) (Go.Lr.exec P S z n (.code c) (A.st sz dead dec)))=some (os,es))
  (hos:∀c∈os,c.1=c.2) (hes:AllOb es) (hB:∀s,KstOK (filS2 s p)) (hnb:Nat.ble A.nb p.nb=true):ToP P sz c A e (Fil2 p):=by
 intro E a w hk Q hQ
 have hr:=hk.toR dec
 have h:=hrun fun t=>a.tmps.getD t undef
 cases hp:projS (p.live.map (·.1)) (p.mem.map (·.1)) (Go.Lr.exec P S z n (.code c) (A.st sz (fun t=>a.tmps.getD t undef) dec)) with
 | none=>rw [hp] at h;cases h
 | some q=>
  obtain ⟨e0,vs,bs,cs⟩:=q
  rw [hp] at h
  simp only [stageO] at h
  split at h
  ·rename_i he
   split at h
   ·rename_i es1 hv
    split at h
    ·rename_i es2 hb
     split at h
     ·rename_i os' ho
      simp only [Option.some.injEq,Prod.mk.injEq] at h
      obtain ⟨rfl,rfl⟩:=h
      have hcs:=openC_ok ho hos
      have:=exB_ok he
      subst this
      unfold projS at hp
      split at hp
      ·rename_i e' s' hex
       simp only [Option.some.injEq,Prod.mk.injEq] at hp
       obtain ⟨rfl,gv,gb,rfl⟩:=hp
       obtain ⟨e2,q1,q2,q3,q4,q5,q6⟩:=(exec_sound (binOK P) hs.sums hs.mix hs.ng n).1 c _ _ s' hex hk.le hr.st
       cases q1
       let s:Asg:=⟨fun k o=>iA (nthA ((getM s'.mem k).elim [] (·.cells)) o),fun k o=>bA (nthA ((getM s'.mem k).elim [] (·.cells)) o),fun k o=>iA (nthA (vCells (getT s'.tm k)) o),fun k o=>bA (nthA (vCells (getT s'.tm k)) o)⟩
       have e1:(p.live.map (·.1)).zip vs=filVs2 s p.live:=matVs2_ok (h:=getT s'.tm) hv hes.left gv fun k=>⟨rfl,rfl⟩
       obtain ⟨bs',rfl,e3⟩:=matBs2_ok (s:=s) (h:=getM s'.mem) hb hes.right gb fun k b hb=>⟨by show (fun o=>iA (nthA ((getM s'.mem k).elim [] (·.cells)) o))=_;rw [hb];rfl,by show (fun o=>bA (nthA ((getM s'.mem k).elim [] (·.cells)) o))=_;rw [hb];rfl⟩
       have hB':KstOK ⟨(p.live.map (·.1)).zip vs,(p.mem.map (·.1)).zip bs',p.nb⟩:=by rw [e1,e3];exact hB s
       have hnb':=Nat.le_of_ble_eq_true hnb
       refine q6 hcs E a w hr Q fun E' a' w' hr' hx=> ?_
       have hsub:=zip_getM (p.mem.map (·.1)) bs' (getM s'.mem) gb
       refine hQ (filS2 s p) ⟨s,rfl⟩ E' a' w' ?_ ?_
       ·have:filS2 s p=⟨(p.live.map (·.1)).zip vs,(p.mem.map (·.1)).zip bs',p.nb⟩:=by rw [e1,e3];rfl
        rw [this]
        refine ⟨hB',hr'.size.trans q4,hk.le,hr'.defers,fun q hq=> ?_,⟨fun i b hib=>hr'.m.rel.blk i b (hsub i b hib),fun i j hi hj he=>hr'.m.rel.inj i j ?_ ?_ he⟩⟩
        ·rw [hr'.tm q.1,zip_getT (p.live.map (·.1)) vs (getT s'.tm) gv q hq]
        ·obtain ⟨b,hib⟩:=Option.isSome_iff_exists.1 hi;simp [hsub i b hib]
        ·obtain ⟨b,hjb⟩:=Option.isSome_iff_exists.1 hj;simp [hsub j b hjb]
       ·have:(filS2 s p).ms=(Kst.mk ((p.live.map (·.1)).zip vs) ((p.mem.map (·.1)).zip bs') p.nb).ms:=by rw [e1,e3];rfl
        rw [this]
        refine ⟨hnb',hx.agree,hx.os,hx.tape,hx.output,hx.size,hx.frame,fun i hi=>hx.src i ?_⟩
        obtain ⟨b,hib⟩:=Option.isSome_iff_exists.1 hi
        simp [hsub i b hib]
      ·cases hp
     ·cases h
    ·cases h
   ·cases h
  ·cases h
end
abbrev qI (n:Int):P2:= .old (.lit (.int .i64 n))
abbrev qL (a:At):P2:= .old (.lit a)
abbrev qB (x:Bool):P2:= .old (.lit (.bool x))
abbrev qH:P2:= .old .hi
abbrev qO:P2:= .old .hb
abbrev qS (x:Int):P2:= .sym x
abbrev qR (a:At):P2:= .raw a
def rq:Nat→P2→List P2
 | 0,_=>[]
 | n+1,p=>p::rq n p
end Go.Lr

/- Summaries of the filter's parts, by formula, where nothing much happens: a good sample, an empty buffer, a sensor that was not heard of. -/
namespace Go.Proofs.YtfepmlklbapfiaaGreat
open Go.Lr
set_option linter.unusedVariables false
def goodB (T D a0 a1 a2 d0 d1 d2:Int):Bool:= !decide (fabsV a0>34359738368) && !decide (fabsV a1>34359738368) && !decide (fabsV a2>34359738368) && !decide (fabsV d0>34359738368) && !decide (fabsV d1>34359738368) && !decide (fabsV d2>34359738368)&&decide (D≥1)&&decide (D≤100000)&&decide (T≥0)&&decide (T≤1125899906842624)
def goodS:List LV→Option (LV×List (Bool×Bool))
 | [.v (.agg [.int .i64 T,.int .i64 D,.int .i64 a0,.int .i64 a1,.int .i64 a2,.int .i64 d0,.int .i64 d1,.int .i64 d2])]=>some (.v (.one (.bool true)),[(goodB T D a0 a1 a2 d0 d1 d2,true)])
 | _=>none
theorem goodR (T D a0 a1 a2 d0 d1 d2:Int):(runF Tryz.prog K16u Zl 4000 52 [.v (.agg [.int .i64 T,.int .i64 D,.int .i64 a0,.int .i64 a1,.int .i64 a2,.int .i64 d0,.int .i64 d1,.int .i64 d2])] [] 0 (nn 1 (ff 8 (nn 1 (ff 8 (nn 1 (ff 8 (nn 1 (tt 12 []))))))))).map (fun r=>(r.1,r.2.2.2))=some (.v (.one (.bool (decide (T≤1125899906842624)))),(ra 4 (decide (T≥0),true) (ra 4 (decide (D≤100000),true) (ra 4 (decide (D≥1),true) ((decide (fabsV d2>34359738368),false)::ra 7 (decide (fabsV a2>34359738368),false) ((decide (fabsV d1>34359738368),false)::ra 7 (decide (fabsV a1>34359738368),false) ((decide (fabsV d0>34359738368),false)::ra 7 (decide (fabsV a0>34359738368),false) []))))))):=by kernel_rfl
theorem sumGood:SumOK Tryz.prog 52 (pureSum goodS):=by
 refine pureSum_run (z:=Zl) soundK16u (own_of soundK16u Tryz.func52 (by kernel_rfl)) fun args v cs hF hc=> ?_
 unfold goodS at hF
 split at hF
 ·rename_i T D a0 a1 a2 d0 d1 d2
  cases hF
  have h:=hd_of hc
  simp only [goodB,Bool.and_eq_true,Bool.not_eq_true'] at h
  obtain ⟨⟨⟨⟨⟨⟨⟨⟨⟨ha0,ha1⟩,ha2⟩,hd0⟩,hd1⟩,hd2⟩,hD1⟩,hD2⟩,hT1⟩,hT2⟩:=h
  have r:=goodR T D a0 a1 a2 d0 d1 d2
  rw [hT2] at r
  exact ⟨4000,_,_,r,(ra_ok hT1 (ra_ok hD2 (ra_ok hD1 (ae_cons hd2 (ra_ok ha2 (ae_cons hd1 (ra_ok ha1 (ae_cons hd0 (ra_ok ha0 ae_nil _)) _)) _)) _) _) _)⟩
 ·cases hF
noncomputable def G1:FuncId→Option SumK:=more K37u 52 (pureSum goodS)
theorem soundG1:Sound Tryz.prog G1:=soundK37u.more sumGood
def popF (k:Blk) (rest:List LV):Option (LV×Blk×List (Bool×Bool)):=
 match k,rest with
 | ⟨t,(0,0),0,[.int .i64 a,.int .i64 b,.int .i64 c,.int .i64 d,.int .i64 e,.int .i64 f,.nilsl,.int .i64 h]⟩,[.v (.one (.int .i64 u))]=>match Nat.beq t 193 with
  | true=>some (.v (.one .nilsl),⟨193,(0,0),0,[.int .i64 a,.int .i64 b,.int .i64 c,.int .i64 d,.int .i64 (wr .i64 (e+0)),.int .i64 f,.nilsl,.int .i64 (if u>h then u else h)]⟩,[])
  | false=>none
 | _,_=>none
theorem popR (a b c d e f h u:Int):(runF Tryz.prog K29u Zl 4000 59 [A0,I u] [(0,⟨193,(0,0),0,[.int .i64 a,.int .i64 b,.int .i64 c,.int .i64 d,.int .i64 e,.int .i64 f,.nilsl,.int .i64 h]⟩)] 1 []).map (fun r=>(r.1,getM r.2.1 0,r.2.2.2))=some (.v (.one .nilsl),some ⟨193,(0,0),0,[.int .i64 a,.int .i64 b,.int .i64 c,.int .i64 d,.int .i64 (wr .i64 (e+0)),.int .i64 f,.nilsl,.int .i64 (if u>h then u else h)]⟩,[]):=by kernel_rfl
theorem map3 {r:Option (LV×Mem×Nat×List (Bool×Bool))} {v:LV} {k:Option Blk} {cs:List (Bool×Bool)} (h:r.map (fun r=>(r.1,getM r.2.1 0,r.2.2.2))=some (v,k,cs)):∃m nb,r=some (v,m,nb,cs)∧getM m 0=k:=by
 cases r with
 | none=>cases h
 | some q=>
  obtain ⟨a,b,c,d⟩:=q
  simp only [Option.map_some,Option.some.injEq,Prod.mk.injEq] at h
  obtain ⟨rfl,rfl,rfl⟩:=h
  exact ⟨b,c,rfl,rfl⟩
theorem genPop:GenOK Tryz.prog 59 (genOf (fM popF)):=by
 refine genOf_ok (fM_ok (z:=Zl) soundK29u (own_of soundK29u Tryz.func59 (by kernel_rfl)) fun k rest v k' cs hF hc hp=> ?_)
 unfold popF at hF
 split at hF
 ·split at hF
  ·rename_i ht
   cases hF
   have:=Nat.eq_of_beq_eq_true ht
   subst this
   obtain ⟨m,nb,h1,h2⟩:=map3 (popR _ _ _ _ _ _ _ _)
   exact ⟨rfl,rfl,rfl,rfl,4000,[],m,nb,[],h1,h2,by simp⟩
  ·cases hF
 ·cases hF
noncomputable def G2:FuncId→Option SumK:=moreG G1 59 (orGen (genOf (fM popF)) (autoA Tryz.prog K29u Zl 4000 59))
theorem soundG2:Sound Tryz.prog G2:=soundG1.moreG (orGen_ok genPop (autoA_ok soundK29u (own_of soundK29u Tryz.func59 (by kernel_rfl))))
def mon6 (s0 s1 s2 s3 s4 s5:Bool) (x:Nat→Int):List At:= .int .i64 (x 0):: .int .i64 (x 1):: .bool s0:: .int .i64 (x 3):: .int .i64 (x 4):: .int .i64 (x 5):: .int .i64 (x 6):: .int .i64 (x 7):: .bool s1:: .int .i64 (x 9):: .int .i64 (x 10):: .int .i64 (x 11):: .int .i64 (x 12):: .int .i64 (x 13):: .bool s2:: .int .i64 (x 15):: .int .i64 (x 16):: .int .i64 (x 17):: .int .i64 (x 18):: .int .i64 (x 19):: .bool s3:: .int .i64 (x 21):: .int .i64 (x 22):: .int .i64 (x 23):: .int .i64 (x 24):: .int .i64 (x 25):: .bool s4:: .int .i64 (x 27):: .int .i64 (x 28):: .int .i64 (x 29):: .int .i64 (x 30):: .int .i64 (x 31):: .bool s5:: .int .i64 (x 33):: .int .i64 (x 34):: .int .i64 (x 35):: .int .i64 (x 36)::[]
def monS (l:List At):Option (Bool×Bool×Bool×Bool×Bool×Bool):=match l with
 | .int .i64 _:: .int .i64 _:: .bool s0:: .int .i64 _:: .int .i64 _:: .int .i64 _:: .int .i64 _:: .int .i64 _:: .bool s1:: .int .i64 _:: .int .i64 _:: .int .i64 _:: .int .i64 _:: .int .i64 _:: .bool s2:: .int .i64 _:: .int .i64 _:: .int .i64 _:: .int .i64 _:: .int .i64 _:: .bool s3:: .int .i64 _:: .int .i64 _:: .int .i64 _:: .int .i64 _:: .int .i64 _:: .bool s4:: .int .i64 _:: .int .i64 _:: .int .i64 _:: .int .i64 _:: .int .i64 _:: .bool s5:: .int .i64 _:: .int .i64 _:: .int .i64 _:: .int .i64 _::[]=>some (s0,s1,s2,s3,s4,s5)
 | _=>none
theorem monS_ok {l:List At} {s0 s1 s2 s3 s4 s5:Bool} (h:monS l=some (s0,s1,s2,s3,s4,s5)):l=mon6 s0 s1 s2 s3 s4 s5 (intAt l):=by
 unfold monS at h
 split at h
 ·cases h;rfl
 ·cases h
theorem usR0 (s1 s2 s3 s4 s5:Bool) (x:Nat→Int) (n:Int):(runF Tryz.prog K31u Zl 4000 61 [A0,I 0,I n] [(0,⟨165,(0,0),0,mon6 false s1 s2 s3 s4 s5 x⟩)] 1 []).map (fun r=>(r.1,getM r.2.1 0,r.2.2.2))=some (.v (.one (.bool false)),some ⟨165,(0,0),0,mon6 false s1 s2 s3 s4 s5 x⟩,[]):=by kernel_rfl
theorem usR1 (s0 s2 s3 s4 s5:Bool) (x:Nat→Int) (n:Int):(runF Tryz.prog K31u Zl 4000 61 [A0,I 1,I n] [(0,⟨165,(0,0),0,mon6 s0 false s2 s3 s4 s5 x⟩)] 1 []).map (fun r=>(r.1,getM r.2.1 0,r.2.2.2))=some (.v (.one (.bool false)),some ⟨165,(0,0),0,mon6 s0 false s2 s3 s4 s5 x⟩,[]):=by kernel_rfl
theorem usR2 (s0 s1 s3 s4 s5:Bool) (x:Nat→Int) (n:Int):(runF Tryz.prog K31u Zl 4000 61 [A0,I 2,I n] [(0,⟨165,(0,0),0,mon6 s0 s1 false s3 s4 s5 x⟩)] 1 []).map (fun r=>(r.1,getM r.2.1 0,r.2.2.2))=some (.v (.one (.bool false)),some ⟨165,(0,0),0,mon6 s0 s1 false s3 s4 s5 x⟩,[]):=by kernel_rfl
theorem usR3 (s0 s1 s2 s4 s5:Bool) (x:Nat→Int) (n:Int):(runF Tryz.prog K31u Zl 4000 61 [A0,I 3,I n] [(0,⟨165,(0,0),0,mon6 s0 s1 s2 false s4 s5 x⟩)] 1 []).map (fun r=>(r.1,getM r.2.1 0,r.2.2.2))=some (.v (.one (.bool false)),some ⟨165,(0,0),0,mon6 s0 s1 s2 false s4 s5 x⟩,[]):=by kernel_rfl
theorem usR4 (s0 s1 s2 s3 s5:Bool) (x:Nat→Int) (n:Int):(runF Tryz.prog K31u Zl 4000 61 [A0,I 4,I n] [(0,⟨165,(0,0),0,mon6 s0 s1 s2 s3 false s5 x⟩)] 1 []).map (fun r=>(r.1,getM r.2.1 0,r.2.2.2))=some (.v (.one (.bool false)),some ⟨165,(0,0),0,mon6 s0 s1 s2 s3 false s5 x⟩,[]):=by kernel_rfl
theorem usR5 (s0 s1 s2 s3 s4:Bool) (x:Nat→Int) (n:Int):(runF Tryz.prog K31u Zl 4000 61 [A0,I 5,I n] [(0,⟨165,(0,0),0,mon6 s0 s1 s2 s3 s4 false x⟩)] 1 []).map (fun r=>(r.1,getM r.2.1 0,r.2.2.2))=some (.v (.one (.bool false)),some ⟨165,(0,0),0,mon6 s0 s1 s2 s3 s4 false x⟩,[]):=by kernel_rfl
def usI (i:Int) (b:Bool×Bool×Bool×Bool×Bool×Bool):Bool:=match i,b with
 | .ofNat 0,(false,_,_,_,_,_)=>true
 | .ofNat 1,(_,false,_,_,_,_)=>true
 | .ofNat 2,(_,_,false,_,_,_)=>true
 | .ofNat 3,(_,_,_,false,_,_)=>true
 | .ofNat 4,(_,_,_,_,false,_)=>true
 | .ofNat 5,(_,_,_,_,_,false)=>true
 | _,_=>false
def usF (k:Blk) (rest:List LV):Option (LV×Blk×List (Bool×Bool)):=
 match rest,k with
 | [.v (.one (.int .i64 i)),.v (.one (.int .i64 n))],⟨ty,(0,0),0,l⟩=>match Nat.beq ty 165 with
  | true=>match monS l with
   | some b=>match usI i b with
    | true=>some (.v (.one (.bool false)),⟨ty,(0,0),0,l⟩,[])
    | false=>none
   | none=>none
  | false=>none
 | _,_=>none
theorem genUs:GenOK Tryz.prog 61 (genOf (fM usF)):=by
 refine genOf_ok (fM_ok (z:=Zl) soundK31u (own_of soundK31u Tryz.func61 (by kernel_rfl)) fun k rest v k' cs hF hc hp=> ?_)
 unfold usF at hF
 split at hF
 ·rename_i i n ty l
  split at hF
  ·rename_i ht
   have ht:=Nat.eq_of_beq_eq_true ht
   subst ht
   split at hF
   ·rename_i b hb
    split at hF
    ·rename_i hi
     cases hF
     unfold usI at hi
     split at hi
     ·have e:=monS_ok hb
      obtain ⟨m,nb,h2,h3⟩:=map3 (usR0 _ _ _ _ _ (intAt l) n)
      rw [e]
      exact ⟨rfl,rfl,rfl,rfl,4000,[],m,nb,[],h2,h3,by simp⟩
     ·have e:=monS_ok hb
      obtain ⟨m,nb,h2,h3⟩:=map3 (usR1 _ _ _ _ _ (intAt l) n)
      rw [e]
      exact ⟨rfl,rfl,rfl,rfl,4000,[],m,nb,[],h2,h3,by simp⟩
     ·have e:=monS_ok hb
      obtain ⟨m,nb,h2,h3⟩:=map3 (usR2 _ _ _ _ _ (intAt l) n)
      rw [e]
      exact ⟨rfl,rfl,rfl,rfl,4000,[],m,nb,[],h2,h3,by simp⟩
     ·have e:=monS_ok hb
      obtain ⟨m,nb,h2,h3⟩:=map3 (usR3 _ _ _ _ _ (intAt l) n)
      rw [e]
      exact ⟨rfl,rfl,rfl,rfl,4000,[],m,nb,[],h2,h3,by simp⟩
     ·have e:=monS_ok hb
      obtain ⟨m,nb,h2,h3⟩:=map3 (usR4 _ _ _ _ _ (intAt l) n)
      rw [e]
      exact ⟨rfl,rfl,rfl,rfl,4000,[],m,nb,[],h2,h3,by simp⟩
     ·have e:=monS_ok hb
      obtain ⟨m,nb,h2,h3⟩:=map3 (usR5 _ _ _ _ _ (intAt l) n)
      rw [e]
      exact ⟨rfl,rfl,rfl,rfl,4000,[],m,nb,[],h2,h3,by simp⟩
     ·cases hi
    ·cases hF
   ·cases hF
  ·cases hF
 ·cases hF
noncomputable def G3:FuncId→Option SumK:=moreG G2 61 (orGen (genOf (fM usF)) (autoA Tryz.prog K31u Zl 4000 61))
theorem soundG3:Sound Tryz.prog G3:=soundG2.moreG (orGen_ok genUs (autoA_ok soundK31u (own_of soundK31u Tryz.func61 (by kernel_rfl))))
noncomputable def KPg:FuncId→Option SumK:=more K25u 52 (pureSum goodS)
theorem soundKPg:Sound Tryz.prog KPg:=soundK25u.more sumGood
end Go.Proofs.YtfepmlklbapfiaaGreat

/- astrolabetop.awake: stage by stage; numbers behind the tilt do not matter. -/
namespace Go.Proofs.YtfepmlklbapfiaaGreat
open Go.Lr
set_option linter.unusedVariables false
def zF:Md:=⟨false,false,false⟩
def wPar:List Go.Lr.P1:=[pI 8000,pI 40000,pI 16]++rp 7 (pI 5)++[pI 1000000,pI 1000000,pI 1000000,pI 1000000,pI 1000000,pI 1000000,pI 1048576,pI 1048576,pI 1048576,pI 1048576,pI 17179869184,pI 17179869184,pI 17179869184,pI 16384,pI 16384,pI 16384,pI 1024,pI 1024,pI 1024,pI 65536,pI 65536,pI 65536,pI 16384,pI 16384,pI 16384,pI 16384,pI 16384,pI 16384,pI 17179869184,pI 17179869184,pI 68719476736,pI 68719476736,pI 68719476736,pI 68719476736,pI 17592186044416,pI 17592186044416,pI 17592186044416,pI 17592186044416,pI 17592186044416,pI 17592186044416,pI 67108864,pI 67108864,pI 67108864,pI 4294967296,pI 4294967296,pI 4294967296,pI 17179869184,pI 17179869184,pI 17179869184,pI 17179869184,pI 17179869184,pI 17179869184,pI 17592186044416,pI 17592186044416,pI 5000000,pI 68719476736,pI 1,pI 268435456,pI 32,pI 0,pI 0,pI 0]
def wVar:List Go.Lr.P1:=[pI 68719476736,pI 68719476736,pI 68719476736,pI 68719476736,pI 17592186044416,pI 17592186044416,pI 17592186044416,pI 17592186044416,pI 17592186044416,pI 17592186044416,pI 67108864,pI 67108864,pI 67108864,pI 4294967296,pI 4294967296,pI 4294967296,pI 17179869184,pI 17179869184,pI 17179869184,pI 17179869184,pI 17179869184,pI 17179869184,pI 17592186044416,pI 17592186044416]
def wMon:List Go.Lr.P1:=[pI 0,pI 0,pB false,pI 0,pI 1000000,pI 5,pI 0,pI 0,pB false,pI 1,pI 1000000,pI 5,pI 0,pI 0,pB false,pI 2,pI 1000000,pI 5,pI 0,pI 0,pB false,pI 3,pI 1000000,pI 5,pI 0,pI 0,pB false,pI 4,pI 1000000,pI 5,pI 0,pI 0,pB false,pI 5,pI 1000000,pI 5,pI 0]
def wImu:List Go.Lr.P1:=[pI 8000,pI 0,pI 0,pI 0,pI 0,pI 0,pI (-84238486)]
def wPtr:List Go.Lr.P1:=[pL (.ptr 20 0),pL (.ptr 21 0),pL (.ptr 22 0),pL (.ptr 23 0),pL (.ptr 24 0),pL (.ptr 25 0),pL (.ptr 18 0)]
def wSum:List Go.Lr.P1:=[pI 1073741824]++rp 9 (pI 0)++[pL .nilsl]
def wFr:Nat×PB:=(16,⟨189,(0,0),0,[pI 0,pI 0,pI 0,pI 12157770197,pI 12239707452]⟩)
def wMo:Nat×PB:=(18,⟨165,(0,0),0,wMon⟩)
def wBuf (h:Int):List (Nat×PB):=[(20,⟨193,(0,0),0,[pI 0,pI 0,pI 0,pI 0,pI 0,pI 16,pL .nilsl,pI h]⟩),(21,⟨193,(0,0),0,[pI 0,pI 0,pI 0,pI 0,pI 0,pI 16,pL .nilsl,pI h]⟩),(22,⟨193,(0,0),0,[pI 0,pI 0,pI 0,pI 0,pI 0,pI 16,pL .nilsl,pI h]⟩),(23,⟨193,(0,0),0,[pI 0,pI 0,pI 0,pI 0,pI 0,pI 16,pL .nilsl,pI h]⟩),(24,⟨193,(0,0),0,[pI 0,pI 0,pI 0,pI 0,pI 0,pI 16,pL .nilsl,pI h]⟩),(25,⟨193,(0,0),0,[pI 0,pI 0,pI 0,pI 0,pI 0,pI 16,pL .nilsl,pI h]⟩)]
def pw_w0:PS:=⟨[],[],0⟩
theorem tw_w0 (s:Asg):ToP Tryz.prog 44 (c1 (bodyF Tryz.prog 6)) (⟨[],[],0⟩:Kst) .normal (Fil pw_w0):=ToP.run (z:=zF) (n:=20000) (dec:=[]) soundK37u (fun dead=>by kernel_rfl) (fun s=>by kernel_rfl) (by kernel_rfl)
def pw_w1:PS:=⟨[(1,.one (pL (.ptr 9 0))),(2,.one (pI 0))],[(9,⟨99,(0,0),0,wPar++[pB false,pI 1073741824]++rp 299 (pI 0)++wVar++[pL (.ptr 16 0),pL (.ptr 17 0),pL .nilsl]++wPtr++[pI 0,pI 0,pB false,pB false,pL (.ptr 19 0),pB false,pI 0,pI 0,pI 0,pI 0,pB false,pB false,pB false,pI 0,pI 0,pI 0]++wSum⟩),wFr,(17,⟨133,(0,0),0,[pI 8000]++rp 8 (pI 0)++[pB false]⟩),wMo,(19,⟨136,(0,0),0,[pI 32,pI 268435456,pL .nilsl]⟩)]++wBuf (-9223372036854775808),26⟩
theorem tw_w1 (s:Asg):ToP Tryz.prog 44 (c1 (c2 (bodyF Tryz.prog 6))) (filS s pw_w0) .normal (Fil pw_w1):=ToP.run (z:=zF) (n:=20000) (dec:=[]) soundK37u (fun dead=>by kernel_rfl) (fun s=>by kernel_rfl) (by kernel_rfl)
def pw_w2:PS:=⟨[(1,.one (pL (.ptr 9 0)))],[(9,⟨99,(0,0),0,wPar++[pB false,pI 1073741824]++rp 299 (pI 0)++wVar++[pL (.ptr 16 0),pL (.ptr 17 0),pL .nilsl]++wPtr++[pI 0,pI 0,pB false,pB false,pL (.ptr 19 0),pB false,pI 0,pI 0,pI 0,pI 0,pB false,pB false,pB false,pI 0,pI 0,pI 0]++wSum⟩),wFr,(17,⟨133,(0,0),0,[pI 8000]++rp 8 (pI 0)++[pB false]⟩),wMo,(19,⟨136,(0,0),0,[pI 32,pI 268435456,pL .nilsl]⟩)]++wBuf (-9223372036854775808),26⟩
theorem tw_w2 (s:Asg):ToP Tryz.prog 44 (c1 (c2 (c2 (bodyF Tryz.prog 6)))) (filS s pw_w1) .normal (Fil pw_w2):=ToP.run (z:=zF) (n:=20000) (dec:=[]) soundK37u (fun dead=>by kernel_rfl) (fun s=>by kernel_rfl) (by kernel_rfl)
def pw_w3:PS:=⟨[(1,.one (pL (.ptr 9 0))),(3,.one (pI 1))],[(9,⟨99,(0,0),0,wPar++[pB false,pI 1073741824]++rp 299 (pI 0)++wVar++[pL (.ptr 16 0),pL (.ptr 17 0),pL .nilsl]++wPtr++[pI 0,pI 0,pB false,pB false,pL (.ptr 19 0),pB false,pI 0,pI 0,pI 0,pI 0,pB false,pB false,pB false,pI 0,pI 0,pI 0]++wSum⟩),wFr,(17,⟨133,(0,0),0,[pI 8000]++rp 8 (pI 0)++[pB false]⟩),wMo,(19,⟨136,(0,0),0,[pI 32,pI 268435456,pL .nilsl]⟩)]++wBuf (-9223372036854775808),26⟩
theorem tw_w3 (s:Asg):ToP Tryz.prog 44 (c1 (c1 (c2 (c2 (c2 (bodyF Tryz.prog 6)))))) (filS s pw_w2) .normal (Fil pw_w3):=ToP.run (z:=zF) (n:=20000) (dec:=[]) soundK37u (fun dead=>by kernel_rfl) (fun s=>by kernel_rfl) (by kernel_rfl)
def pw_r1:PS:=⟨[(1,.one (pL (.ptr 9 0))),(3,.one (pI 2))],[(9,⟨99,(0,0),0,wPar++[pB false,pI 1073741824]++rp 299 (pI 0)++wVar++[pL (.ptr 16 0),pL (.ptr 17 0),pL (.slu 32 1)]++wPtr++[pI 0,pI 0,pB false,pB false,pL (.ptr 19 0),pB false,pI 0,pI 0,pI 0,pI 0,pB false,pB false,pB false,pI 0,pI 0,pI 0]++wSum⟩),wFr,(17,⟨133,(0,0),0,[pI 8000,pI 8000]++rp 7 (pI 0)++[pB true]⟩),wMo,(19,⟨136,(0,0),0,[pI 32,pI 268435456,pL .nilsl]⟩)]++wBuf (-9223372036854775808)++[(32,⟨36,(0,0),8,[pI 8000]++wImu⟩)],33⟩
theorem tw_r1 (s:Asg):ToP Tryz.prog 44 (c1 (c1 (c2 (c1 (c2 (c2 (c2 (bodyF Tryz.prog 6)))))))) (filS s pw_w3) .normal (Fil pw_r1):=ToP.run (z:=zF) (n:=20000) (dec:=[]) soundK37u (fun dead=>by kernel_rfl) (fun s=>by kernel_rfl) (by kernel_rfl)
def pw_r2:PS:=⟨[(1,.one (pL (.ptr 9 0))),(3,.one (pI 3))],[(9,⟨99,(0,0),0,wPar++[pB false,pI 1073741824]++rp 299 (pI 0)++wVar++[pL (.ptr 16 0),pL (.ptr 17 0),pL (.slu 39 2)]++wPtr++[pI 0,pI 0,pB false,pB false,pL (.ptr 19 0),pB false,pI 0,pI 0,pI 0,pI 0,pB false,pB false,pB false,pI 0,pI 0,pI 0]++wSum⟩),wFr,(17,⟨133,(0,0),0,[pI 8000,pI 16000]++rp 7 (pI 0)++[pB true]⟩),wMo,(19,⟨136,(0,0),0,[pI 32,pI 268435456,pL .nilsl]⟩)]++wBuf (-9223372036854775808)++[(39,⟨36,(0,0),8,[pI 8000]++wImu++[pI 16000]++wImu⟩)],40⟩
theorem tw_r2 (s:Asg):ToP Tryz.prog 44 (c1 (c1 (c2 (c1 (c2 (c2 (c2 (bodyF Tryz.prog 6)))))))) (filS s pw_r1) .normal (Fil pw_r2):=ToP.run (z:=zF) (n:=20000) (dec:=[]) soundK37u (fun dead=>by kernel_rfl) (fun s=>by kernel_rfl) (by kernel_rfl)
def pw_r3:PS:=⟨[(1,.one (pL (.ptr 9 0))),(3,.one (pI 4))],[(9,⟨99,(0,0),0,wPar++[pB false,pI 1073741824]++rp 299 (pI 0)++wVar++[pL (.ptr 16 0),pL (.ptr 17 0),pL (.slu 46 3)]++wPtr++[pI 0,pI 0,pB false,pB false,pL (.ptr 19 0),pB false,pI 0,pI 0,pI 0,pI 0,pB false,pB false,pB false,pI 0,pI 0,pI 0]++wSum⟩),wFr,(17,⟨133,(0,0),0,[pI 8000,pI 24000]++rp 7 (pI 0)++[pB true]⟩),wMo,(19,⟨136,(0,0),0,[pI 32,pI 268435456,pL .nilsl]⟩)]++wBuf (-9223372036854775808)++[(46,⟨36,(0,0),8,[pI 8000]++wImu++[pI 16000]++wImu++[pI 24000]++wImu⟩)],47⟩
theorem tw_r3 (s:Asg):ToP Tryz.prog 44 (c1 (c1 (c2 (c1 (c2 (c2 (c2 (bodyF Tryz.prog 6)))))))) (filS s pw_r2) .normal (Fil pw_r3):=ToP.run (z:=zF) (n:=20000) (dec:=[]) soundK37u (fun dead=>by kernel_rfl) (fun s=>by kernel_rfl) (by kernel_rfl)
def pw_r4:PS:=⟨[(1,.one (pL (.ptr 9 0))),(3,.one (pI 5))],[(9,⟨99,(0,0),0,wPar++[pB false,pI 1073741824]++rp 299 (pI 0)++wVar++[pL (.ptr 16 0),pL (.ptr 17 0),pL (.slu 53 4)]++wPtr++[pI 0,pI 0,pB false,pB false,pL (.ptr 19 0),pB false,pI 0,pI 0,pI 0,pI 0,pB false,pB false,pB false,pI 0,pI 0,pI 0]++wSum⟩),wFr,(17,⟨133,(0,0),0,[pI 8000,pI 32000]++rp 7 (pI 0)++[pB true]⟩),wMo,(19,⟨136,(0,0),0,[pI 32,pI 268435456,pL .nilsl]⟩)]++wBuf (-9223372036854775808)++[(53,⟨36,(0,0),8,[pI 8000]++wImu++[pI 16000]++wImu++[pI 24000]++wImu++[pI 32000]++wImu⟩)],54⟩
theorem tw_r4 (s:Asg):ToP Tryz.prog 44 (c1 (c1 (c2 (c1 (c2 (c2 (c2 (bodyF Tryz.prog 6)))))))) (filS s pw_r3) .normal (Fil pw_r4):=ToP.run (z:=zF) (n:=20000) (dec:=[]) soundK37u (fun dead=>by kernel_rfl) (fun s=>by kernel_rfl) (by kernel_rfl)
def pw_r5:PS:=⟨[(1,.one (pL (.ptr 9 0))),(3,.one (pI 6))],[(9,⟨99,(0,0),0,wPar++[pB false,pI 1073741824]++rp 299 (pI 0)++wVar++[pL (.ptr 16 0),pL (.ptr 17 0),pL (.slu 60 5)]++wPtr++[pI 0,pI 0,pB false,pB false,pL (.ptr 19 0),pB false,pI 0,pI 0,pI 0,pI 0,pB false,pB false,pB false,pI 0,pI 0,pI 0]++wSum⟩),wFr,(17,⟨133,(0,0),0,[pI 8000,pI 40000]++rp 7 (pI 0)++[pB true]⟩),wMo,(19,⟨136,(0,0),0,[pI 32,pI 268435456,pL .nilsl]⟩)]++wBuf (-9223372036854775808)++[(60,⟨36,(0,0),8,[pI 8000]++wImu++[pI 16000]++wImu++[pI 24000]++wImu++[pI 32000]++wImu++[pI 40000]++wImu⟩)],61⟩
theorem tw_r5 (s:Asg):ToP Tryz.prog 44 (c1 (c1 (c2 (c1 (c2 (c2 (c2 (bodyF Tryz.prog 6)))))))) (filS s pw_r4) .normal (Fil pw_r5):=ToP.run (z:=zF) (n:=20000) (dec:=[]) soundK37u (fun dead=>by kernel_rfl) (fun s=>by kernel_rfl) (by kernel_rfl)
def pw_r6:PS:=⟨[(1,.one (pL (.ptr 9 0))),(3,.one (pI 7))],[(9,⟨99,(0,0),0,wPar++[pB false,pI 1073741824]++rp 299 (pI 0)++wVar++[pL (.ptr 16 0),pL (.ptr 17 0),pL (.slu 69 5)]++wPtr++[pI 0,pI 0,pB false,pB false,pL (.ptr 19 0),pB false,pI 1,pI 0,pI 0,pI (-84238486),pB false,pB false,pB false,pI 0,pI 8000,pI 0]++wSum⟩),wFr,(17,⟨133,(0,0),0,[pI 8000,pI 48000]++rp 7 (pI 0)++[pB true]⟩),wMo,(19,⟨136,(0,0),0,[pI 32,pI 268435456,pL .nilsl]⟩)]++wBuf 8000++[(69,⟨36,(0,0),8,[pI 16000]++wImu++[pI 24000]++wImu++[pI 32000]++wImu++[pI 40000]++wImu++[pI 48000]++wImu⟩)],91⟩
theorem tw_r6 (s:Asg):ToP Tryz.prog 44 (c1 (c1 (c2 (c1 (c2 (c2 (c2 (bodyF Tryz.prog 6)))))))) (filS s pw_r5) .normal (Fil pw_r6):=ToP.run (z:=zF) (n:=20000) (dec:=[]) soundK37u (fun dead=>by kernel_rfl) (fun s=>by kernel_rfl) (by kernel_rfl)
def pw_r7:PS:=⟨[(1,.one (pL (.ptr 9 0))),(3,.one (pI 8))],[(9,⟨99,(0,0),0,wPar++[pB false,pI 1073741824]++rp 299 (pI 0)++wVar++[pL (.ptr 16 0),pL (.ptr 17 0),pL (.slu 99 5)]++wPtr++[pI 0,pI 0,pB false,pB false,pL (.ptr 19 0),pB false,pI 2,pI 0,pI 0,pI (-168476972),pB false,pB false,pB false,pI 0,pI 16000,pI 0]++wSum⟩),wFr,(17,⟨133,(0,0),0,[pI 8000,pI 56000]++rp 7 (pI 0)++[pB true]⟩),wMo,(19,⟨136,(0,0),0,[pI 32,pI 268435456,pL .nilsl]⟩)]++wBuf 16000++[(99,⟨36,(0,0),8,[pI 24000]++wImu++[pI 32000]++wImu++[pI 40000]++wImu++[pI 48000]++wImu++[pI 56000]++wImu⟩)],121⟩
theorem tw_r7 (s:Asg):ToP Tryz.prog 44 (c1 (c1 (c2 (c1 (c2 (c2 (c2 (bodyF Tryz.prog 6)))))))) (filS s pw_r6) .normal (Fil pw_r7):=ToP.run (z:=zF) (n:=20000) (dec:=[]) soundK37u (fun dead=>by kernel_rfl) (fun s=>by kernel_rfl) (by kernel_rfl)
def pw_r8:PS:=⟨[(1,.one (pL (.ptr 9 0))),(3,.one (pI 9))],[(9,⟨99,(0,0),0,wPar++[pB false,pI 1073741824]++rp 299 (pI 0)++wVar++[pL (.ptr 16 0),pL (.ptr 17 0),pL (.slu 129 5)]++wPtr++[pI 0,pI 0,pB false,pB false,pL (.ptr 19 0),pB false,pI 3,pI 0,pI 0,pI (-252715458),pB false,pB false,pB false,pI 0,pI 24000,pI 0]++wSum⟩),wFr,(17,⟨133,(0,0),0,[pI 8000,pI 64000]++rp 7 (pI 0)++[pB true]⟩),wMo,(19,⟨136,(0,0),0,[pI 32,pI 268435456,pL .nilsl]⟩)]++wBuf 24000++[(129,⟨36,(0,0),8,[pI 32000]++wImu++[pI 40000]++wImu++[pI 48000]++wImu++[pI 56000]++wImu++[pI 64000]++wImu⟩)],151⟩
theorem tw_r8 (s:Asg):ToP Tryz.prog 44 (c1 (c1 (c2 (c1 (c2 (c2 (c2 (bodyF Tryz.prog 6)))))))) (filS s pw_r7) .normal (Fil pw_r8):=ToP.run (z:=zF) (n:=20000) (dec:=[]) soundK37u (fun dead=>by kernel_rfl) (fun s=>by kernel_rfl) (by kernel_rfl)
def pw_r9:PS:=⟨[(1,.one (pL (.ptr 9 0))),(3,.one (pI 10))],[(9,⟨99,(0,0),0,wPar++[pB false,pI 1073741824]++rp 299 (pI 0)++wVar++[pL (.ptr 16 0),pL (.ptr 17 0),pL (.slu 159 5)]++wPtr++[pI 0,pI 0,pB false,pB false,pL (.ptr 19 0),pB false,pI 4,pI 0,pI 0,pI (-336953944),pB false,pB false,pB false,pI 0,pI 32000,pI 0]++wSum⟩),wFr,(17,⟨133,(0,0),0,[pI 8000,pI 72000]++rp 7 (pI 0)++[pB true]⟩),wMo,(19,⟨136,(0,0),0,[pI 32,pI 268435456,pL .nilsl]⟩)]++wBuf 32000++[(159,⟨36,(0,0),8,[pI 40000]++wImu++[pI 48000]++wImu++[pI 56000]++wImu++[pI 64000]++wImu++[pI 72000]++wImu⟩)],181⟩
theorem tw_r9 (s:Asg):ToP Tryz.prog 44 (c1 (c1 (c2 (c1 (c2 (c2 (c2 (bodyF Tryz.prog 6)))))))) (filS s pw_r8) .normal (Fil pw_r9):=ToP.run (z:=zF) (n:=20000) (dec:=[]) soundK37u (fun dead=>by kernel_rfl) (fun s=>by kernel_rfl) (by kernel_rfl)
def pw_r10:PS:=⟨[(1,.one (pL (.ptr 9 0))),(3,.one (pI 11))],[(9,⟨99,(0,0),0,wPar++[pB false,pI 1073741824]++rp 299 (pI 0)++wVar++[pL (.ptr 16 0),pL (.ptr 17 0),pL (.slu 189 5)]++wPtr++[pI 0,pI 0,pB false,pB false,pL (.ptr 19 0),pB false,pI 5,pI 0,pI 0,pI (-421192430),pB false,pB false,pB false,pI 0,pI 40000,pI 0]++wSum⟩),wFr,(17,⟨133,(0,0),0,[pI 8000,pI 80000]++rp 7 (pI 0)++[pB true]⟩),wMo,(19,⟨136,(0,0),0,[pI 32,pI 268435456,pL .nilsl]⟩)]++wBuf 40000++[(189,⟨36,(0,0),8,[pI 48000]++wImu++[pI 56000]++wImu++[pI 64000]++wImu++[pI 72000]++wImu++[pI 80000]++wImu⟩)],211⟩
theorem tw_r10 (s:Asg):ToP Tryz.prog 44 (c1 (c1 (c2 (c1 (c2 (c2 (c2 (bodyF Tryz.prog 6)))))))) (filS s pw_r9) .normal (Fil pw_r10):=ToP.run (z:=zF) (n:=20000) (dec:=[]) soundK37u (fun dead=>by kernel_rfl) (fun s=>by kernel_rfl) (by kernel_rfl)
def pw_r11:PS:=⟨[(1,.one (pL (.ptr 9 0))),(3,.one (pI 12))],[(9,⟨99,(0,0),0,wPar++[pB false,pI 1073741824]++rp 299 (pI 0)++wVar++[pL (.ptr 16 0),pL (.ptr 17 0),pL (.slu 219 5)]++wPtr++[pI 0,pI 0,pB false,pB false,pL (.ptr 19 0),pB false,pI 6,pI 0,pI 0,pI (-505430916),pB false,pB false,pB false,pI 0,pI 48000,pI 0]++wSum⟩),wFr,(17,⟨133,(0,0),0,[pI 8000,pI 88000]++rp 7 (pI 0)++[pB true]⟩),wMo,(19,⟨136,(0,0),0,[pI 32,pI 268435456,pL .nilsl]⟩)]++wBuf 48000++[(219,⟨36,(0,0),8,[pI 56000]++wImu++[pI 64000]++wImu++[pI 72000]++wImu++[pI 80000]++wImu++[pI 88000]++wImu⟩)],241⟩
theorem tw_r11 (s:Asg):ToP Tryz.prog 44 (c1 (c1 (c2 (c1 (c2 (c2 (c2 (bodyF Tryz.prog 6)))))))) (filS s pw_r10) .normal (Fil pw_r11):=ToP.run (z:=zF) (n:=20000) (dec:=[]) soundK37u (fun dead=>by kernel_rfl) (fun s=>by kernel_rfl) (by kernel_rfl)
def pw_r12:PS:=⟨[(1,.one (pL (.ptr 9 0))),(3,.one (pI 13))],[(9,⟨99,(0,0),0,wPar++[pB false,pI 1073741824]++rp 299 (pI 0)++wVar++[pL (.ptr 16 0),pL (.ptr 17 0),pL (.slu 249 5)]++wPtr++[pI 0,pI 0,pB false,pB false,pL (.ptr 19 0),pB false,pI 7,pI 0,pI 0,pI (-589669402),pB false,pB false,pB false,pI 0,pI 56000,pI 0]++wSum⟩),wFr,(17,⟨133,(0,0),0,[pI 8000,pI 96000]++rp 7 (pI 0)++[pB true]⟩),wMo,(19,⟨136,(0,0),0,[pI 32,pI 268435456,pL .nilsl]⟩)]++wBuf 56000++[(249,⟨36,(0,0),8,[pI 64000]++wImu++[pI 72000]++wImu++[pI 80000]++wImu++[pI 88000]++wImu++[pI 96000]++wImu⟩)],271⟩
theorem tw_r12 (s:Asg):ToP Tryz.prog 44 (c1 (c1 (c2 (c1 (c2 (c2 (c2 (bodyF Tryz.prog 6)))))))) (filS s pw_r11) .normal (Fil pw_r12):=ToP.run (z:=zF) (n:=20000) (dec:=[]) soundK37u (fun dead=>by kernel_rfl) (fun s=>by kernel_rfl) (by kernel_rfl)
def pw_r13:PS:=⟨[(1,.one (pL (.ptr 9 0))),(3,.one (pI 14))],[(9,⟨99,(0,0),0,wPar++[pB false,pI 1073741824]++rp 299 (pI 0)++wVar++[pL (.ptr 16 0),pL (.ptr 17 0),pL (.slu 279 5)]++wPtr++[pI 0,pI 0,pB false,pB false,pL (.ptr 19 0),pB false,pI 8,pI 0,pI 0,pI (-673907888),pB false,pB false,pB false,pI 0,pI 64000,pI 0]++wSum⟩),wFr,(17,⟨133,(0,0),0,[pI 8000,pI 104000]++rp 7 (pI 0)++[pB true]⟩),wMo,(19,⟨136,(0,0),0,[pI 32,pI 268435456,pL .nilsl]⟩)]++wBuf 64000++[(279,⟨36,(0,0),8,[pI 72000]++wImu++[pI 80000]++wImu++[pI 88000]++wImu++[pI 96000]++wImu++[pI 104000]++wImu⟩)],301⟩
theorem tw_r13 (s:Asg):ToP Tryz.prog 44 (c1 (c1 (c2 (c1 (c2 (c2 (c2 (bodyF Tryz.prog 6)))))))) (filS s pw_r12) .normal (Fil pw_r13):=ToP.run (z:=zF) (n:=20000) (dec:=[]) soundK37u (fun dead=>by kernel_rfl) (fun s=>by kernel_rfl) (by kernel_rfl)
def pw_r14:PS:=⟨[(1,.one (pL (.ptr 9 0))),(3,.one (pI 15))],[(9,⟨99,(0,0),0,wPar++[pB false,pI 1073741824]++rp 299 (pI 0)++wVar++[pL (.ptr 16 0),pL (.ptr 17 0),pL (.slu 309 5)]++wPtr++[pI 0,pI 0,pB false,pB false,pL (.ptr 19 0),pB false,pI 9,pI 0,pI 0,pI (-758146374),pB false,pB false,pB false,pI 0,pI 72000,pI 0]++wSum⟩),wFr,(17,⟨133,(0,0),0,[pI 8000,pI 112000]++rp 7 (pI 0)++[pB true]⟩),wMo,(19,⟨136,(0,0),0,[pI 32,pI 268435456,pL .nilsl]⟩)]++wBuf 72000++[(309,⟨36,(0,0),8,[pI 80000]++wImu++[pI 88000]++wImu++[pI 96000]++wImu++[pI 104000]++wImu++[pI 112000]++wImu⟩)],331⟩
theorem tw_r14 (s:Asg):ToP Tryz.prog 44 (c1 (c1 (c2 (c1 (c2 (c2 (c2 (bodyF Tryz.prog 6)))))))) (filS s pw_r13) .normal (Fil pw_r14):=ToP.run (z:=zF) (n:=20000) (dec:=[]) soundK37u (fun dead=>by kernel_rfl) (fun s=>by kernel_rfl) (by kernel_rfl)
def pw_r15:PS:=⟨[(1,.one (pL (.ptr 9 0))),(3,.one (pI 16))],[(9,⟨99,(0,0),0,wPar++[P1.hb,pI 1073741824]++rp 23 (pI 0)++rp 300 (P1.hi)++[pL (.ptr 16 0),pL (.ptr 17 0),pL (.slu 339 5)]++wPtr++[pI 1,pI 0,pB false,pB false,pL (.ptr 19 0),pB true,pI 10,pI 0,pI 0,pI (-842384860),pB true,pB false,pB false,pI 0,pI 80000,pI 0]++wSum⟩),wFr,(17,⟨133,(0,0),0,[pI 8000,pI 120000]++rp 7 (pI 0)++[pB true]⟩),wMo,(19,⟨136,(0,0),0,[pI 32,pI 268435456,pL (.slu 394 6)]⟩)]++wBuf 80000++[(339,⟨36,(0,0),8,[pI 88000]++wImu++[pI 96000]++wImu++[pI 104000]++wImu++[pI 112000]++wImu++[pI 120000]++wImu⟩),(394,⟨48,(0,0),11,[pI 80000,pI 1073741824]++rp 9 (pI 0)++[pI 88000]++rp 10 (P1.hi)++[pI 96000]++rp 10 (P1.hi)++[pI 104000]++rp 10 (P1.hi)++[pI 112000]++rp 10 (P1.hi)++[pI 120000]++rp 10 (P1.hi)⟩)],415⟩
theorem tw_r15 (s:Asg):ToP Tryz.prog 44 (c1 (c1 (c2 (c1 (c2 (c2 (c2 (bodyF Tryz.prog 6)))))))) (filS s pw_r14) .normal (Fil pw_r15):=ToP.run (z:=zF) (n:=20000) (dec:=[]) soundK37u (fun dead=>by kernel_rfl) (fun s=>by kernel_rfl) (by kernel_rfl)
def pw_rx:PS:=⟨[(1,.one (pL (.ptr 9 0)))],[(9,⟨99,(0,0),0,wPar++[P1.hb,pI 1073741824]++rp 23 (pI 0)++rp 300 (P1.hi)++[pL (.ptr 16 0),pL (.ptr 17 0),pL (.slu 339 5)]++wPtr++[pI 1,pI 0,pB false,pB false,pL (.ptr 19 0),pB true,pI 10,pI 0,pI 0,pI (-842384860),pB true,pB false,pB false,pI 0,pI 80000,pI 0]++wSum⟩),wFr,(17,⟨133,(0,0),0,[pI 8000,pI 120000]++rp 7 (pI 0)++[pB true]⟩),wMo,(19,⟨136,(0,0),0,[pI 32,pI 268435456,pL (.slu 394 6)]⟩)]++wBuf 80000++[(339,⟨36,(0,0),8,[pI 88000]++wImu++[pI 96000]++wImu++[pI 104000]++wImu++[pI 112000]++wImu++[pI 120000]++wImu⟩),(394,⟨48,(0,0),11,[pI 80000,pI 1073741824]++rp 9 (pI 0)++[pI 88000]++rp 10 (P1.hi)++[pI 96000]++rp 10 (P1.hi)++[pI 104000]++rp 10 (P1.hi)++[pI 112000]++rp 10 (P1.hi)++[pI 120000]++rp 10 (P1.hi)⟩)],415⟩
theorem tw_rx (s:Asg):ToP Tryz.prog 44 (c1 (c1 (c2 (c1 (c2 (c2 (c2 (bodyF Tryz.prog 6)))))))) (filS s pw_r15) (.exit 0) (Fil pw_rx):=ToP.run (z:=zF) (n:=20000) (dec:=[]) soundK37u (fun dead=>by kernel_rfl) (fun s=>by kernel_rfl) (by kernel_rfl)
def pw_w5:PS:=⟨[(1,.one (pL (.ptr 9 0))),(4,.one (pL (.ptr 417 0))),(5,.one (pB true))],[(9,⟨99,(0,0),0,wPar++[P1.hb,pI 1073741824]++rp 23 (pI 0)++rp 300 (P1.hi)++[pL (.ptr 16 0),pL (.ptr 17 0),pL (.slu 339 5)]++wPtr++[pI 1,pI 0,pB false,pB false,pL (.ptr 19 0),pB true,pI 10,pI 0,pI 0,pI (-842384860),pB true,pB false,pB false,pI 0,pI 80000,pI 0]++wSum⟩),wFr,(17,⟨133,(0,0),0,[pI 8000,pI 120000]++rp 7 (pI 0)++[pB true]⟩),wMo,(19,⟨136,(0,0),0,[pI 32,pI 268435456,pL (.slu 394 6)]⟩)]++wBuf 80000++[(339,⟨36,(0,0),8,[pI 88000]++wImu++[pI 96000]++wImu++[pI 104000]++wImu++[pI 112000]++wImu++[pI 120000]++wImu⟩),(394,⟨48,(0,0),11,[pI 80000,pI 1073741824]++rp 9 (pI 0)++[pI 88000]++rp 10 (P1.hi)++[pI 96000]++rp 10 (P1.hi)++[pI 104000]++rp 10 (P1.hi)++[pI 112000]++rp 10 (P1.hi)++[pI 120000]++rp 10 (P1.hi)⟩),(417,⟨48,(0,0),0,[pI 120000]++rp 10 (P1.hi)⟩)],418⟩
theorem tw_w5 (s:Asg):ToP Tryz.prog 44 (c1 (c2 (c2 (c2 (c2 (bodyF Tryz.prog 6)))))) (filS s pw_rx) .normal (Fil pw_w5):=ToP.run (z:=zF) (n:=20000) (dec:=[]) soundK37u (fun dead=>by kernel_rfl) (fun s=>by kernel_rfl) (by kernel_rfl)
def pw_w6:PS:=⟨[(0,.one (pB true))],[],419⟩
theorem tw_w6 (s:Asg):ToP Tryz.prog 44 (c1 (c2 (c2 (c2 (c2 (c2 (bodyF Tryz.prog 6))))))) (filS s pw_w5) .normal (Fil pw_w6):=ToP.run (z:=zF) (n:=20000) (dec:=[]) soundK37u (fun dead=>by kernel_rfl) (fun s=>by kernel_rfl) (by kernel_rfl)
def pw_w7:PS:=⟨[(0,.one (pB true))],[],419⟩
theorem tw_w7 (s:Asg):ToP Tryz.prog 44 (c2 (c2 (c2 (c2 (c2 (c2 (bodyF Tryz.prog 6))))))) (filS s pw_w6) .ret (Fil pw_w7):=ToP.run (z:=zF) (n:=20000) (dec:=[]) soundK37u (fun dead=>by kernel_rfl) (fun s=>by kernel_rfl) (by kernel_rfl)
theorem awkLoop (s:Asg):RdP Tryz.prog 44 (c1 (c1 (c2 (c1 (c2 (c2 (c2 (bodyF Tryz.prog 6)))))))) 16 (filS s pw_w3) (.exit 0) (Fil pw_rx):=by
 refine RdP.next (tw_r1 s) ?_
 rintro x ⟨s,rfl⟩
 refine RdP.next (tw_r2 s) ?_
 rintro x ⟨s,rfl⟩
 refine RdP.next (tw_r3 s) ?_
 rintro x ⟨s,rfl⟩
 refine RdP.next (tw_r4 s) ?_
 rintro x ⟨s,rfl⟩
 refine RdP.next (tw_r5 s) ?_
 rintro x ⟨s,rfl⟩
 refine RdP.next (tw_r6 s) ?_
 rintro x ⟨s,rfl⟩
 refine RdP.next (tw_r7 s) ?_
 rintro x ⟨s,rfl⟩
 refine RdP.next (tw_r8 s) ?_
 rintro x ⟨s,rfl⟩
 refine RdP.next (tw_r9 s) ?_
 rintro x ⟨s,rfl⟩
 refine RdP.next (tw_r10 s) ?_
 rintro x ⟨s,rfl⟩
 refine RdP.next (tw_r11 s) ?_
 rintro x ⟨s,rfl⟩
 refine RdP.next (tw_r12 s) ?_
 rintro x ⟨s,rfl⟩
 refine RdP.next (tw_r13 s) ?_
 rintro x ⟨s,rfl⟩
 refine RdP.next (tw_r14 s) ?_
 rintro x ⟨s,rfl⟩
 refine RdP.next (tw_r15 s) ?_
 rintro x ⟨s,rfl⟩
 exact RdP.last (by simp) (tw_rx s)
theorem awkAll:ToP Tryz.prog 44 (bodyF Tryz.prog 6) ⟨argsL 0 [],[],0⟩ .ret (Fil pw_w7):=by
 refine ToP.seq (by kernel_rfl) (tw_w0 ⟨fun _ _=>0,fun _ _=>false,fun _ _=>0,fun _ _=>false⟩) ?_
 rintro x ⟨s,rfl⟩
 refine ToP.seq (by kernel_rfl) (tw_w1 s) ?_
 rintro x ⟨s,rfl⟩
 refine ToP.seq (by kernel_rfl) (tw_w2 s) ?_
 rintro x ⟨s,rfl⟩
 refine ToP.seq (by kernel_rfl) (B:=Fil pw_rx) (ToP.seq (by kernel_rfl) (tw_w3 s) ?_) ?_
 ·rintro x ⟨s,rfl⟩
  exact ToP.block (id:=0) (e:= .exit 0) (by kernel_rfl) (ToP.loop (by kernel_rfl) (awkLoop s)) (.inl rfl)
 rintro x ⟨s,rfl⟩
 refine ToP.seq (by kernel_rfl) (tw_w5 s) ?_
 rintro x ⟨s,rfl⟩
 refine ToP.seq (by kernel_rfl) (tw_w6 s) ?_
 rintro x ⟨s,rfl⟩
 exact tw_w7 s
def awkS:List LV→Option (LV×List (Bool×Bool))
 | []=>some (.v (.one (.bool true)),[])
 | _=>none
theorem sumAwk:SumOK Tryz.prog 6 (pureSum awkS):=by
 refine pureSum_ok' fun args v cs hF hc hp hv w=> ?_
 unfold awkS at hF
 split at hF
 ·cases hF
  have ho:=own_of soundK37u Tryz.func6 (by kernel_rfl)
  refine pure_of_ToP (fn:=Tryz.f6) ho Tryz.func6 (c:=(bodyF Tryz.prog 6)) (by kernel_rfl) (by decide) (by decide) hp awkAll (.inr rfl) ?_ hv w
  rintro x ⟨s,rfl⟩ dead
  kernel_rfl
 ·cases hF
end Go.Proofs.YtfepmlklbapfiaaGreat

/- Blocks by other numbers: a walk in pieces in which a call's own blocks may be told by other numbers. -/
set_option linter.unusedVariables false
namespace Go.Lr
open Go.RowKit
def sw (a b i:Nat):Nat:=match Nat.beq i a with
 | true=>b
 | false=>match Nat.beq i b with
  | true=>a
  | false=>i
theorem sw_eq (a b i:Nat):sw a b i=if i=a then b else if i=b then a else i:=by
 unfold sw
 by_cases h:i=a
 ·subst h
  simp
 ·have h1:Nat.beq i a=false:=by cases h1:Nat.beq i a with
   | true=>exact absurd (Nat.eq_of_beq_eq_true h1) h
   | false=>rfl
  rw [h1,if_neg h]
  by_cases h2:i=b
  ·subst h2
   simp
  ·have h3:Nat.beq i b=false:=by cases h3:Nat.beq i b with
    | true=>exact absurd (Nat.eq_of_beq_eq_true h3) h2
    | false=>rfl
   rw [h3,if_neg h2]
theorem sw_sw (a b i:Nat):sw a b (sw a b i)=i:=by
 simp only [sw_eq]
 by_cases h:i=a
 ·subst h
  rw [if_pos rfl]
  by_cases h2:b=i
  ·rw [if_pos h2,h2]
  ·rw [if_neg h2,if_pos rfl]
 ·rw [if_neg h]
  by_cases h2:i=b
  ·subst h2
   rw [if_pos rfl,if_pos rfl]
  ·rw [if_neg h2,if_neg h,if_neg h2]
def swp:List (Nat×Nat)→Nat→Nat
 | [],i=>i
 | (a,b)::l,i=>swp l (sw a b i)
def swq:List (Nat×Nat)→Nat→Nat
 | [],i=>i
 | (a,b)::l,i=>sw a b (swq l i)
theorem swq_swp:∀(l:List (Nat×Nat)) (i:Nat),swq l (swp l i)=i
 | [],i=>rfl
 | (a,b)::l,i=>by simp only [swp,swq];rw [swq_swp l,sw_sw]
theorem swp_swq:∀(l:List (Nat×Nat)) (i:Nat),swp l (swq l i)=i
 | [],i=>rfl
 | (a,b)::l,i=>by simp only [swp,swq];rw [sw_sw,swp_swq l]
def swOK (N:Nat):List (Nat×Nat)→Bool
 | []=>true
 | (a,b)::l=>match Nat.ble N a with
  | true=>match Nat.ble N b with
   | true=>swOK N l
   | false=>false
  | false=>false
theorem swq_below {N:Nat}:∀{l:List (Nat×Nat)},swOK N l=true→∀i,i<N→swq l i=i
 | [],_,i,_=>rfl
 | (a,b)::l,h,i,hi=>by
  unfold swOK at h
  split at h
  ·rename_i h1
   split at h
   ·rename_i h2
    have h1':=Nat.le_of_ble_eq_true h1
    have h2':=Nat.le_of_ble_eq_true h2
    simp only [swq]
    rw [swq_below h i hi,sw_eq,if_neg (by omega),if_neg (by omega)]
   ·cases h
  ·cases h
def renCaps (ρ:Nat→Nat):List (Nat×Nat)→List (Nat×Nat)
 | []=>[]
 | (b,o)::l=>(ρ b,o)::renCaps ρ l
def renA (ρ:Nat→Nat):At→At
 | .int k n=> .int k n
 | .bool b=> .bool b
 | .ptr b o=> .ptr (ρ b) o
 | .nilp=> .nilp
 | .sl b o l c=> .sl (ρ b) o l c
 | .slu b l=> .slu (ρ b) l
 | .slx b o l c=> .slx (ρ b) o l c
 | .ptx b o=> .ptx (ρ b) o
 | .nilsl=> .nilsl
 | .slt b o n=> .slt (ρ b) o n
 | .fn f caps=> .fn f (renCaps ρ caps)
 | .opq v=> .opq v
def renL (ρ:Nat→Nat):List At→List At
 | []=>[]
 | a::l=>renA ρ a::renL ρ l
def renV1 (ρ:Nat→Nat):V1→V1
 | .one a=> .one (renA ρ a)
 | .agg l=> .agg (renL ρ l)
def renV (ρ:Nat→Nat):LV→LV
 | .v x=> .v (renV1 ρ x)
 | .tup l=> .tup (l.map (renV1 ρ))
def renB (ρ:Nat→Nat) (b:Blk):Blk:=⟨b.ty,b.fr,b.es,renL ρ b.cells⟩
def renLv (ρ:Nat→Nat):List (Nat×LV)→List (Nat×LV)
 | []=>[]
 | (i,v)::l=>(i,renV ρ v)::renLv ρ l
def renM (ρ:Nat→Nat):Mem→Mem
 | []=>[]
 | (i,b)::l=>(ρ i,renB ρ b)::renM ρ l
theorem renA_den {ρ:Nat→Nat} {E E':Env} (h:∀b,E' (ρ b)=E b) (a:At):(renA ρ a).den E'=a.den E:=by
 cases a with
 | fn f caps=>
  simp only [renA,At.den]
  congr 1
  congr 1
  induction caps with
  | nil=>rfl
  | cons c l ih=>simp only [renCaps,List.map_cons,h,ih]
 | _=>simp only [renA,At.den,h]
theorem renL_den {ρ:Nat→Nat} {E E':Env} (h:∀b,E' (ρ b)=E b):∀l:List At,(renL ρ l).map (At.den E')=l.map (At.den E)
 | []=>rfl
 | a::l=>by simp only [renL,List.map_cons,renA_den h,renL_den h l]
theorem renL_len (ρ:Nat→Nat):∀l:List At,(renL ρ l).length=l.length
 | []=>rfl
 | a::l=>by simp [renL,renL_len ρ l]
theorem renV1_den {ρ:Nat→Nat} {E E':Env} (h:∀b,E' (ρ b)=E b) (x:V1):(renV1 ρ x).den E'=x.den E:=by
 cases x with
 | one a=>exact renA_den h a
 | agg l=>simp only [renV1,V1.den,renL_den h]
theorem renV_den {ρ:Nat→Nat} {E E':Env} (h:∀b,E' (ρ b)=E b) (v:LV):(renV ρ v).den E'=v.den E:=by
 cases v with
 | v x=>exact renV1_den h x
 | tup l=>simp only [renV,LV.den,List.map_map];congr 1;congr 1;exact List.map_congr_left fun x _=>renV1_den h x
theorem renLv_mem {ρ:Nat→Nat}:∀{l:List (Nat×LV)} {q:Nat×LV},q∈renLv ρ l→∃v,(q.1,v)∈l∧q.2=renV ρ v
 | [],q,h=>by simp [renLv] at h
 | (i,v)::l,q,h=>by
  simp only [renLv,List.mem_cons] at h
  rcases h with rfl | h
  ·exact ⟨v,List.mem_cons_self ..,rfl⟩
  ·obtain ⟨u,h1,h2⟩:=renLv_mem h
   exact ⟨u,List.mem_cons_of_mem _ h1,h2⟩
theorem renM_get {ρ σ:Nat→Nat} (h1:∀i,σ (ρ i)=i) (h2:∀i,ρ (σ i)=i):∀(m:Mem) (j:Nat),getM (renM ρ m) j=(getM m (σ j)).map (renB ρ)
 | [],j=>rfl
 | (i,b)::m,j=>by
  simp only [renM]
  rw [getM_cons,getM_cons]
  by_cases h:j=ρ i
  ·rw [if_pos h,if_pos (by rw [h,h1])];rfl
  ·rw [if_neg h,if_neg (fun e=>h (by rw [←e,h2])),renM_get h1 h2 m j]
section
variable {P:Program} {sz:Nat}
theorem KR.ren {E:Env} {A:Kst} {a:Act} {w:World} (h:KR E sz A a w) (l:List (Nat×Nat)) {nb:Nat} (hB:KstOK ⟨renLv (swp l) A.live,renM (swp l) A.mem,nb⟩):
  KR (fun j=>E (swq l j)) sz ⟨renLv (swp l) A.live,renM (swp l) A.mem,nb⟩ a w:=by
 have hE:∀b,(fun j=>E (swq l j)) ((swp l) b)=E b:=fun b=>by show E (swq l (swp l b))=E b;rw [swq_swp]
 refine ⟨hB,h.size,h.le,h.defers,fun q hq=> ?_,⟨fun j b' hj=> ?_,fun i j hi hj he=> ?_⟩⟩
 ·obtain ⟨v,h1,h2⟩:=renLv_mem hq
  rw [h2,renV_den (ρ:=swp l) (E:=E) (E':=fun j=>E (swq l j)) hE]
  exact h.tm _ h1
 ·have hj':getM (renM (swp l) A.mem) j=some b':=hj
  rw [renM_get (swq_swp l) (swp_swq l)] at hj'
  cases hg:getM A.mem (swq l j) with
  | none=>rw [hg] at hj';cases hj'
  | some b=>
   rw [hg] at hj'
   cases hj'
   obtain ⟨r,g1,g2,g3⟩:=h.rel.blk _ b hg
   refine ⟨r, ?_,g2,fun hne=> ?_⟩
   ·show w.heap[(E (swq l j)).1]? = _
    rw [g1]
    show some (Obj.cells _ _ _)=some (Obj.cells ((E (swq l j)).pre++(renL (swp l) b.cells).map (At.den fun j=>E (swq l j))++r++(E (swq l j)).suf).toArray ((E (swq l j)).ty.getD b.ty) b.fr)
    rw [renL_den (ρ:=swp l) (E:=E) (E':=fun j=>E (swq l j)) hE]
   ·show (renL (swp l) b.cells).length+r.length=_
    rw [renL_len]
    exact g3 hne
 ·have hi':(getM (renM (swp l) A.mem) i).isSome:=hi
  have hj':(getM (renM (swp l) A.mem) j).isSome:=hj
  rw [renM_get (swq_swp l) (swp_swq l),Option.isSome_map] at hi' hj'
  have:=h.rel.inj _ _ hi' hj' he
  rw [←swp_swq l i,this,swp_swq]
def ToR (P:Program) (sz N:Nat) (c:Code) (A:Kst) (e:Ex) (B:Kst→Prop):Prop:=
 ∀E a w,KR E sz A a w→∀Q:Exit→Act→World→Prop,(∀B0,B B0→∀E' a' w',KR E' sz B0 a' w'→ExtG N w E (getM A.mem) w' E' (getM B0.mem)→Q e.to a' w')→c.wp P Q a w
theorem Ext.toG {N:Nat} {w w':World} {E E':Env} {s s':St} (h:Ext w E s w' E' s') (hN:N≤s.nb):ExtG N w E (getM s.mem) w' E' (getM s'.mem):=
 ⟨fun i hi=>h.agree i (Nat.lt_of_lt_of_le hi hN),h.os,h.tape,h.output,h.size,h.frame,h.src⟩
theorem ToR.of_ToP {N:Nat} {c:Code} {A:Kst} {e:Ex} {B:Kst→Prop} (h:ToP P sz c A e B) (hN:Nat.ble N A.nb=true):ToR P sz N c A e B:=
 fun E a w hr Q hQ=>h E a w hr Q fun B0 hB E' a' w' hr' hx=>hQ B0 hB E' a' w' hr' (hx.toG (Nat.le_of_ble_eq_true hN))
theorem ToR.mono {N:Nat} {c:Code} {A:Kst} {e:Ex} {B C:Kst→Prop} (h:ToR P sz N c A e B) (k:∀x,B x→C x):ToR P sz N c A e C:=
 fun E a w hr Q hQ=>h E a w hr Q fun B0 hB0=>hQ B0 (k B0 hB0)
theorem ToR.ren {N:Nat} {c:Code} {A:Kst} {e:Ex} {B C:Kst→Prop} (h:ToR P sz N c A e B) (l:List (Nat×Nat)) (hl:swOK N l=true)
  (k:∀x,B x→∃nb,KstOK ⟨renLv (swp l) x.live,renM (swp l) x.mem,nb⟩∧C ⟨renLv (swp l) x.live,renM (swp l) x.mem,nb⟩):ToR P sz N c A e C:=by
 intro E a w hr Q hQ
 refine h E a w hr Q fun B0 hB E' a' w' hr' hx=> ?_
 obtain ⟨nb,h1,h2⟩:=k B0 hB
 refine hQ _ h2 (fun j=>E' (swq l j)) a' w' (hr'.ren l h1) ⟨fun i hi=> ?_,hx.os,hx.tape,hx.output,hx.size,hx.frame,fun i hi=> ?_⟩
 ·show E' (swq l i)=E i
  rw [swq_below hl i hi]
  exact hx.agree i hi
 ·have hi':(getM (renM (swp l) B0.mem) i).isSome:=hi
  rw [renM_get (swq_swp l) (swp_swq l),Option.isSome_map] at hi'
  exact hx.src _ hi'
theorem ToR.seq {N:Nat} {c:Code} {A:Kst} {e:Ex} {B C:Kst→Prop} (hc:isSeq c=true) (h:ToR P sz N (c1 c) A .normal B) (k:∀x,B x→ToR P sz N (c2 c) x e C):ToR P sz N c A e C:=by
 cases c <;> simp only [isSeq,Bool.false_eq_true] at hc
 intro E a w hr Q hQ
 refine wp_seq (h E a w hr _ fun B0 hB E' a' w' hr' hx'=> ?_)
 exact k B0 hB E' a' w' hr' Q fun C0 hC E'' a'' w'' hr'' hx''=>hQ C0 hC E'' a'' w'' hr'' (hx'.trans hx'')
theorem ToR.seq_out {N:Nat} {c:Code} {A:Kst} {e:Ex} {B:Kst→Prop} (hc:isSeq c=true) (he:e≠ .normal) (h:ToR P sz N (c1 c) A e B):ToR P sz N c A e B:=by
 cases c <;> simp only [isSeq,Bool.false_eq_true] at hc
 intro E a w hr Q hQ
 refine wp_seq (h E a w hr _ fun B0 hB E' a' w' hr' hx'=> ?_)
 have:=hQ B0 hB E' a' w' hr' hx'
 cases e <;> first | exact absurd rfl he | exact this
theorem ToR.block {N:Nat} {c:Code} {id:Nat} {A:Kst} {e:Ex} {B:Kst→Prop} (hc:blkId c=some id) (h:ToR P sz N (c1 c) A e B) (he:e = .exit id∨e = .normal):ToR P sz N c A .normal B:=by
 cases c <;> simp only [blkId,reduceCtorEq] at hc
 cases hc
 intro E a w hr Q hQ
 refine wp_block (h E a w hr _ fun B0 hB E' a' w' hr' hx'=> ?_)
 have:=hQ B0 hB E' a' w' hr' hx'
 rcases he with rfl | rfl
 ·simpa only [Ex.to,Exit.inBlock,if_true] using this
 ·exact this
def RdR (P:Program) (sz N:Nat) (c:Code) (m:Nat) (A:Kst) (e:Ex) (B:Kst→Prop):Prop:=
 ∀E a w,KR E sz A a w→∀Q:Exit→Act→World→Prop,(∀B0,B B0→∀E' a' w',KR E' sz B0 a' w'→ExtG N w E (getM A.mem) w' E' (getM B0.mem)→Q e.to a' w')→Code.rounds P c Q m a w
theorem RdR.last {N:Nat} {c:Code} {A:Kst} {e:Ex} {B:Kst→Prop} (he:e≠ .normal) (h:ToR P sz N c A e B):RdR P sz N c 1 A e B:=by
 intro E a w hr Q hQ
 rw [rounds_succ]
 refine h E a w hr _ fun B0 hB E' a' w' hr' hx'=> ?_
 have:=hQ B0 hB E' a' w' hr' hx'
 cases e <;> first | exact absurd rfl he | exact this
theorem RdR.next {N:Nat} {c:Code} {A:Kst} {e:Ex} {B C:Kst→Prop} {m:Nat} (h:ToR P sz N c A .normal B) (k:∀x,B x→RdR P sz N c m x e C):RdR P sz N c (m+1) A e C:=by
 intro E a w hr Q hQ
 rw [rounds_succ]
 refine h E a w hr _ fun B0 hB E' a' w' hr' hx'=> ?_
 exact k B0 hB E' a' w' hr' Q fun C0 hC E'' a'' w'' hr'' hx''=>hQ C0 hC E'' a'' w'' hr'' (hx'.trans hx'')
theorem ToR.loop {N:Nat} {c:Code} {A:Kst} {e:Ex} {B:Kst→Prop} {m:Nat} (hc:isLoop c=true) (h:RdR P sz N (c1 c) m A e B):ToR P sz N c A e B:=by
 cases c <;> simp only [isLoop,Bool.false_eq_true] at hc
 exact fun E a w hr Q hQ=>wp_loop_rounds m (h E a w hr Q hQ)
end
end Go.Lr

/- Laws that are handed slices: the blocks behind them, as the evaluator's memory. -/
namespace Go.Lr
set_option linter.unusedVariables false
open Go.ChangeShapes Go.WideShapes Go.ChangeAt Go.RowKit
def conv:Value→At
 | .int k n=> .int k n
 | .bool b=> .bool b
 | v=> .opq v
def convL (arr:Array Value):List At:=arr.toList.map conv
structure RowL (arr:Array Value) (o cap:Nat) (zs:List Int):Prop where
 len:zs.length=cap
 le:o+cap≤arr.size
 at':∀i (h:i<cap),arr[o+i]? = some (.int .i64 (zs.getD i 0))
theorem RowL.atL {arr:Array Value} {o cap:Nat} {zs:List Int} (h:RowL arr o cap zs) {i:Nat} (hi:i<cap):(convL arr)[o+i]? = some (.int .i64 (zs.getD i 0)):=by
 unfold convL
 rw [List.getElem?_map,Array.getElem?_toList,h.at' i hi]
 rfl
theorem RowL.cut {arr:Array Value} {o cap:Nat} {zs:List Int} (h:RowL arr o cap zs) {p n:Nat} (hn:p+n≤cap):((convL arr).drop (o+p)).take n=((zs.drop p).take n).map (At.int .i64):=by
 refine List.ext_getElem? fun i=> ?_
 by_cases hi:i<n
 ·rw [List.getElem?_take,if_pos hi,List.getElem?_drop,Nat.add_assoc,h.atL (i:=p+i) (by omega),List.getElem?_map,List.getElem?_take,if_pos hi,List.getElem?_drop,List.getD_eq_getElem?_getD]
  have:p+i<zs.length:=by have:=h.len;omega
  rw [List.getElem?_eq_getElem this]
  rfl
 ·rw [List.getElem?_take,if_neg hi,List.getElem?_map,List.getElem?_take,if_neg hi];rfl
section
variable {P:Program} {S:FuncId→Option SumK} {z:Md}
end
end Go.Lr

/- A law off a walk in pieces in which blocks change their numbers; lists of cells that name no block. -/
set_option linter.unusedVariables false
namespace Go.Lr
open Go.RowKit
section
variable {P:Program}
theorem law_ToR {f:FuncId} {fn:Func} {c:Code} {args:List LV} {m:Mem} {nb N:Nat} {B:Kst→Prop} {v:LV} (hf:P.funcs[f]? = some fn) (hb:fn.body=some c)
  (hle:fn.ntmps≤60000) (hargs:args.length≤fn.ntmps) (hA:∀u∈args,u.ok (below nb)=true) (hm:memOKb nb m=true) (hz:∀i b,getM m i=some b→b.es=0) (hn:∀i b,getM m i=some b→i<N)
  (ho:∀i b,getM m i=some b→okL noP b.cells=true)
  (h:ToR P fn.ntmps N c ⟨argsL 0 args,m,nb⟩ .ret B) (hres:∀x,B x→(∀dead,resultsD P fn.results.toList (getT (x.tm dead)) x.mem=some v)∧∀i b,getM m i=some b→getM x.mem i=some b) (hv:v.ok noP=true)
  (E:Env) (w:World) (hrel:Rel E (getM m) w):Calls P f (args.map (LV.den E)).toArray w fun e w'=>e = .returned (v.den E0)∧Below w.heap.size w w':=by
 obtain ⟨k1,k2⟩:=memOKb_ok hm
 refine calls_of_wp hf hb (h E _ w ⟨⟨fun q hq=> ?_,(argsL_fst args 0).1,fun q hq=> ?_,k1,k2⟩,by simp;omega,hle,rfl,fun q hq=> ?_,hrel⟩ _ fun B0 hB E' a' w' hr' hx'=> ?_)
 ·have:=(argsL_mem args 0 q).1 hq
  have:=(List.getElem?_eq_some_iff.1 this.2).1
  omega
 ·exact hA q.2 (List.mem_of_getElem? ((argsL_mem args 0 q).1 hq).2)
 ·have:=((argsL_mem args 0 q).1 hq).2
  simp only [Nat.sub_zero] at this
  have hlt:=(List.getElem?_eq_some_iff.1 this).1
  simp only [Array.getD_eq_getD_getElem?,Array.getElem?_append,List.size_toArray,List.length_map]
  rw [if_pos hlt]
  simp [this]
 ·have hR:=hr'.toR []
  obtain ⟨hr1,hr2⟩:=hres B0 hB
  refine ⟨hr'.defers,v.den E',resultsD_spec hR.m.rel hR.tm (hr1 _),by rw [den_noP hv],hx'.os,hx'.tape,hx'.output,hx'.size,fun k hk=> ?_⟩
  by_cases hex:∃i b,getM m i=some b∧(E i).1=k
  ·obtain ⟨i,b,hi,rfl⟩:=hex
   obtain ⟨r,u1,u2,-⟩:=hrel.blk i b hi
   obtain ⟨r',v1,v2,-⟩:=hr'.rel.blk i b (hr2 i b hi)
   rw [hx'.agree i (hn i b hi),v2 (hz i b hi),denA_noP (E:=E') (ho i b hi),←denA_noP (E:=E) (ho i b hi)] at v1
   rw [u2 (hz i b hi)] at u1
   rw [u1,v1]
  ·refine hx'.frame k hk fun i hi e=>hex ?_
   obtain ⟨b,hb⟩:=Option.isSome_iff_exists.1 hi
   exact ⟨i,b,hb,e⟩
end
def mskC:Nat→List Bool→List Bool
 | 0,l=>l
 | n+1,l=>false::mskC n l
def mskO:Nat→List Bool→List Bool
 | 0,l=>l
 | n+1,l=>true::mskO n l
theorem w1 {x:Int} (h: -9223372036854775808≤x∧x<9223372036854775808):wr .i64 x=x:=by
 show w64 x=x
 unfold w64
 omega
end Go.Lr

/- Polynomials with whole coefficients, in one and in two numbers: their values, sums, products; bounds by the coefficients' sizes. Plain. -/
namespace Go.Tg
set_option linter.unusedVariables false
def pv:List Int→Int→Int
 | [],_=>0
 | a::l,x=>a+x*pv l x
def padd:List Int→List Int→List Int
 | [],m=>m
 | a::l,[]=>a::l
 | a::l,b::m=>(a+b)::padd l m
def psm (k:Int):List Int→List Int
 | []=>[]
 | a::l=>(k*a)::psm k l
def pabs:List Int→List Int
 | []=>[]
 | a::l=>(a.natAbs:Int)::pabs l
theorem pv_add:∀(l m:List Int) (x:Int),pv (padd l m) x=pv l x+pv m x
 | [],m,x=>by simp [padd,pv]
 | a::l,[],x=>by simp [padd,pv]
 | a::l,b::m,x=>by
  simp only [padd,pv,pv_add l m x];grind
theorem pv_sm (k:Int):∀(l:List Int) (x:Int),pv (psm k l) x=k*pv l x
 | [],x=>by simp [psm,pv]
 | a::l,x=>by simp only [psm,pv,pv_sm k l x];grind
theorem abs_mul_le {a b k l:Int} (ha:(a.natAbs:Int)≤k) (hb:(b.natAbs:Int)≤l):((a*b).natAbs:Int)≤k*l:=by
 rw [Int.natAbs_mul,Int.natCast_mul]
 exact Int.mul_le_mul ha hb (by omega) (by omega)
theorem pv_abs {x R:Int} (hx:(x.natAbs:Int)≤R):∀l:List Int,((pv l x).natAbs:Int)≤pv (pabs l) R
 | []=>by simp [pv,pabs]
 | a::l=>by
  have h:=abs_mul_le hx (pv_abs hx l)
  simp only [pv,pabs]
  have h2:=Int.natAbs_add_le a (x*pv l x)
  omega
def pneg:List Int→List Int
 | []=>[]
 | a::l=>(-a)::pneg l
def alt:List Int→List Int
 | []=>[]
 | a::l=>a::pneg (alt l)
theorem pv_pneg:∀(l:List Int) (x:Int),pv (pneg l) x = -pv l x
 | [],x=>rfl
 | a::l,x=>by simp only [pneg,pv,pv_pneg l x];grind
def ev2:List (List Int)→Int→Int→Int
 | [],_,_=>0
 | p::l,x,y=>pv p x+y*ev2 l x y
def add2:List (List Int)→List (List Int)→List (List Int)
 | [],m=>m
 | a::l,[]=>a::l
 | a::l,b::m=>padd a b::add2 l m
def sm2 (k:Int):List (List Int)→List (List Int)
 | []=>[]
 | a::l=>psm k a::sm2 k l
def out2 (p:List Int):List Int→List (List Int)
 | []=>[]
 | b::l=>psm b p::out2 p l
def shx:List (List Int)→List (List Int)
 | []=>[]
 | a::l=>(0::a)::shx l
def sumP:List Int→List (List Int)
 | []=>[]
 | a::l=>add2 [[a]] (add2 (shx (sumP l)) ([]::sumP l))
def abs2:List (List Int)→List (List Int)
 | []=>[]
 | a::l=>pabs a::abs2 l
theorem ev2_add:∀(l m:List (List Int)) (x y:Int),ev2 (add2 l m) x y=ev2 l x y+ev2 m x y
 | [],m,x,y=>by simp [add2,ev2]
 | a::l,[],x,y=>by simp [add2,ev2]
 | a::l,b::m,x,y=>by simp only [add2,ev2,pv_add,ev2_add l m x y];grind
theorem ev2_sm (k:Int):∀(l:List (List Int)) (x y:Int),ev2 (sm2 k l) x y=k*ev2 l x y
 | [],x,y=>by simp [sm2,ev2]
 | a::l,x,y=>by simp only [sm2,ev2,pv_sm,ev2_sm k l x y];grind
theorem ev2_out (p:List Int):∀(q:List Int) (x y:Int),ev2 (out2 p q) x y=pv p x*pv q y
 | [],x,y=>by simp [out2,ev2,pv]
 | b::l,x,y=>by simp only [out2,ev2,pv,pv_sm,ev2_out p l x y];grind
theorem ev2_shx:∀(l:List (List Int)) (x y:Int),ev2 (shx l) x y=x*ev2 l x y
 | [],x,y=>by simp [shx,ev2]
 | a::l,x,y=>by simp only [shx,ev2,pv,ev2_shx l x y];grind
theorem ev2_sumP:∀(l:List Int) (x y:Int),ev2 (sumP l) x y=pv l (x+y)
 | [],x,y=>by simp [sumP,ev2,pv]
 | a::l,x,y=>by simp only [sumP,ev2_add,ev2_shx,ev2,pv,ev2_sumP l x y];grind
theorem ev2_abs {x y R S:Int} (hx:(x.natAbs:Int)≤R) (hy:(y.natAbs:Int)≤S):∀l:List (List Int),((ev2 l x y).natAbs:Int)≤ev2 (abs2 l) R S
 | []=>by simp [ev2,abs2]
 | a::l=>by
  have h:=abs_mul_le hy (ev2_abs hx hy l)
  have h1:=pv_abs hx a
  simp only [ev2,abs2]
  have h2:=Int.natAbs_add_le (pv a x) (y*ev2 l x y)
  omega
def leB (a b:Int):Bool:=decide (a≤b)
theorem leB_le {a b:Int} (h:leB a b=true):a≤b:=of_decide_eq_true h
end Go.Tg

/- The reference's cosine and sine: partial sums of their series, as polynomials with whole coefficients; the sums of angles. Plain. -/
namespace Go.Tg
set_option linter.unusedVariables false
abbrev U:Int:=1073741824
abbrev Qt:Int:=1686629713
def MN:Int:=15511210043330985984000000*1073741824 ^ 25
def tayF:Nat→Int→Int→Bool→Bool→List Int
 | 0,_,_,_,_=>[]
 | k+1,n,d,odd,neg=>
  (match odd with
  | true=>0
  | false=>match neg with
   | true=> -d
   | false=>d)::tayF k (n+1) (d/((n+1)*1073741824)) (!odd) (match odd with
    | true=>neg
    | false=> !neg)
def cosL:List Int:=tayF 26 0 MN false false
def sinL:List Int:=0::tayF 25 1 (MN/1073741824) false false
def eL (R:Int) (l:List (List Int)):Bool:=leB (1099511627776*ev2 (abs2 l) R R) (MN*MN)
theorem chk1:eL 1700000000 (add2 (add2 (out2 cosL cosL) (sm2 (-1) (out2 sinL sinL))) (sm2 (-MN) (sumP cosL)))=true:=by kernel_rfl
theorem chk2:eL 1700000000 (add2 (add2 (out2 sinL cosL) (out2 cosL sinL)) (sm2 (-MN) (sumP sinL)))=true:=by kernel_rfl
def nb (a k:Int):Prop:= -k≤a∧a≤k
theorem nb.abs {a k:Int} (h:nb a k):(a.natAbs:Int)≤k:=by unfold nb at h;omega
theorem nb.of {a k:Int} (h:(a.natAbs:Int)≤k):nb a k:=by unfold nb;omega
theorem nb.mul {a b k l:Int} (h:nb a k) (g:nb b l):nb (a*b) (k*l):=nb.of (abs_mul_le h.abs g.abs)
theorem nb.add {a b k l:Int} (h:nb a k) (g:nb b l):nb (a+b) (k+l):=by unfold nb at *;omega
theorem nb.sub {a b k l:Int} (h:nb a k) (g:nb b l):nb (a - b) (k+l):=by unfold nb at *;omega
theorem nb.neg {a k:Int} (h:nb a k):nb (-a) k:=by unfold nb at *;omega
theorem nb.le {a k l:Int} (h:nb a k) (g:k≤l):nb a l:=by unfold nb at *;omega
theorem nb.lmul {a k m:Int} (h:nb a k) (hm:0≤m):nb (m*a) (m*k):=by
 have h1:=Int.mul_le_mul_of_nonneg_left h.2 hm
 have h2:=Int.mul_le_mul_of_nonneg_left h.1 hm
 rw [Int.mul_neg] at h2
 exact ⟨h2,h1⟩
theorem nb.cancel {a k m:Int} (hm:0<m) (h:nb (m*a) (m*k)):nb a k:=by
 refine ⟨?_,Int.le_of_mul_le_mul_left h.2 hm⟩
 have h1:=h.1
 rw [←Int.mul_neg] at h1
 exact Int.le_of_mul_le_mul_left h1 hm
def Cp (x:Int):Int:=pv cosL x
def Sp (x:Int):Int:=pv sinL x
theorem MN_pos:0<MN:=by decide +kernel
theorem pv_neg:∀(l:List Int) (x:Int),pv l (-x)=pv (alt l) x
 | [],x=>rfl
 | a::l,x=>by
  have h:=pv_neg l x
  have h2:pv (pneg (alt l)) x = -pv (alt l) x:=pv_pneg _ _
  simp only [pv,alt,h,h2];grind
theorem Cp_neg (x:Int):Cp (-x)=Cp x:=by
 unfold Cp;rw [pv_neg,show alt cosL=cosL by kernel_rfl]
theorem Sp_neg (x:Int):Sp (-x) = -Sp x:=by
 unfold Sp;rw [pv_neg,show alt sinL=pneg sinL by kernel_rfl,pv_pneg]
theorem eL_nb {R x y:Int} {l:List (List Int)} (h:eL R l=true) (hx:nb x R) (hy:nb y R):nb (1099511627776*ev2 l x y) (MN*MN):=by
 have h1:=leB_le h
 have h2:=ev2_abs hx.abs hy.abs l
 unfold nb
 omega
theorem add_c {x y:Int} (hx:nb x 1700000000) (hy:nb y 1700000000):nb (1099511627776*(Cp x*Cp y - Sp x*Sp y - MN*Cp (x+y))) (MN*MN):=by
 have h:=eL_nb chk1 hx hy
 rw [ev2_add,ev2_add,ev2_sm,ev2_sm,ev2_out,ev2_out,ev2_sumP] at h
 have e:Cp x*Cp y - Sp x*Sp y - MN*Cp (x+y)=pv cosL x*pv cosL y + -1*(pv sinL x*pv sinL y) + -MN*pv cosL (x+y):=by unfold Cp Sp;grind
 rw [e];exact h
theorem add_s {x y:Int} (hx:nb x 1700000000) (hy:nb y 1700000000):nb (1099511627776*(Sp x*Cp y+Cp x*Sp y - MN*Sp (x+y))) (MN*MN):=by
 have h:=eL_nb chk2 hx hy
 rw [ev2_add,ev2_add,ev2_sm,ev2_out,ev2_out,ev2_sumP] at h
 have e:Sp x*Cp y+Cp x*Sp y - MN*Sp (x+y)=pv sinL x*pv cosL y+pv cosL x*pv sinL y + -MN*pv sinL (x+y):=by unfold Cp Sp;grind
 rw [e];exact h
theorem Cp_0:Cp 0=MN:=by unfold Cp;kernel_rfl
theorem Cp_Q:nb (8589934592*Cp 1686629713) MN:=⟨leB_le (by kernel_rfl),leB_le (by kernel_rfl)⟩
theorem Sp_Q:nb (1099511627776*(Sp 1686629713 - MN)) MN:=⟨leB_le (by kernel_rfl),leB_le (by kernel_rfl)⟩
theorem one_of {M T c s:Int} (hM:0<M) (h:1099511627776*(c*c+s*s - M*M)≤M*M) (hT:s=M+T):2199023255552*T≤M:=by
 rcases Int.lt_or_le M (2199023255552*T) with g | g
 ·exfalso
  have hc:0≤c*c:=by
   rcases Int.le_total 0 c with k | k
   ·exact Int.mul_nonneg k k
   ·exact Int.mul_nonneg_of_nonpos_of_nonpos k k
  have hT2:0<T:=by omega
  have hTT:0≤T*T:=Int.mul_nonneg (by omega) (by omega)
  have e:s*s=M*M+2*(M*T)+T*T:=by rw [hT];grind
  have k:M*M<M*(2199023255552*T):=Int.mul_lt_mul_of_pos_left g hM
  have e2:M*(2199023255552*T)=2199023255552*(M*T):=by grind
  omega
 ·exact g
theorem sq_1 {x:Int} (hx:nb x 1700000000):1099511627776*(Cp x*Cp x+Sp x*Sp x - MN*MN)≤MN*MN∧ -(MN*MN)≤1099511627776*(Cp x*Cp x+Sp x*Sp x - MN*MN):=by
 have h:=add_c hx hx.neg
 rw [show x + -x=0 by omega,Cp_0,Cp_neg,Sp_neg] at h
 have e:Cp x*Cp x - Sp x * -Sp x - MN*MN=Cp x*Cp x+Sp x*Sp x - MN*MN:=by grind
 rw [e] at h
 exact ⟨h.2,h.1⟩
theorem Sp_one {x:Int} (hx:nb x 1700000000):nb (2199023255552*Sp x) (2199023255553*MN):=by
 obtain ⟨h,-⟩:=sq_1 hx
 have h1:=one_of (c:=Cp x) MN_pos h (show Sp x=MN+(Sp x - MN) by omega)
 have h2:=one_of (c:=Cp x) (s:= -Sp x) MN_pos (by rw [Int.neg_mul_neg];exact h) (show -Sp x=MN+(-Sp x - MN) by omega)
 unfold nb
 generalize Sp x=s at *
 generalize MN=m at *
 omega
theorem Cp_one {x:Int} (hx:nb x 1700000000):nb (2199023255552*Cp x) (2199023255553*MN):=by
 obtain ⟨h,-⟩:=sq_1 hx
 rw [Int.add_comm (Cp x*Cp x)] at h
 have h1:=one_of (c:=Sp x) MN_pos h (show Cp x=MN+(Cp x - MN) by omega)
 have h2:=one_of (c:=Sp x) (s:= -Cp x) MN_pos (by rw [Int.neg_mul_neg];exact h) (show -Cp x=MN+(-Cp x - MN) by omega)
 unfold nb
 generalize Cp x=s at *
 generalize MN=m at *
 omega
theorem co_eq {w:Int} (hw:nb w 1700000000):nb (4294967296*(Cp (1686629713 - w) - Sp w)) MN∧nb (4294967296*(Sp (1686629713 - w) - Cp w)) MN:=by
 have hQ:nb 1686629713 1700000000:=by unfold nb;omega
 have c:=add_c hQ hw.neg
 have s:=add_s hQ hw.neg
 rw [Cp_neg,Sp_neg,show (1686629713:Int) + -w=1686629713 - w by omega] at c s
 have q1:=Cp_Q
 have q2:=Sp_Q
 have o1:=Sp_one hw
 have o2:=Cp_one hw
 have hM:=MN_pos
 generalize Cp 1686629713=cq at *
 generalize Sp 1686629713=sq at *
 generalize Cp (1686629713 - w)=a at *
 generalize Sp (1686629713 - w)=b at *
 generalize Cp w=cw at *
 generalize Sp w=sw at *
 generalize MN=M at *
 have p1:=q1.mul o2
 have p2:=q2.mul o1
 have p3:=q1.mul o1
 have p4:=q2.mul o2
 constructor
 ·refine nb.cancel hM ?_
  have e1:cq*cw - sq * -sw - M*a=cq*cw+(sq - M)*sw - M*(a - sw):=by grind
  rw [e1] at c
  have e2:8589934592*cq*(2199023255552*cw)=18889465931478580854784*(cq*cw):=by grind
  have e3:1099511627776*(sq - M)*(2199023255552*sw)=2417851639229258349412352*((sq - M)*sw):=by grind
  have e4:M*(4294967296*(a - sw))=4294967296*(M*(a - sw)):=by grind
  have e5:M*(2199023255553*M)=2199023255553*(M*M):=by grind
  rw [e2,e5] at p1
  rw [e3,e5] at p2
  rw [e4]
  unfold nb at *
  generalize M*(a - sw)=A at *
  generalize cq*cw=B at *
  generalize (sq - M)*sw=D at *
  generalize M*M=MM at *
  omega
 ·refine nb.cancel hM ?_
  have e1:sq*cw+cq * -sw - M*b=(sq - M)*cw - cq*sw - M*(b - cw):=by grind
  rw [e1] at s
  have e2:8589934592*cq*(2199023255552*sw)=18889465931478580854784*(cq*sw):=by grind
  have e3:1099511627776*(sq - M)*(2199023255552*cw)=2417851639229258349412352*((sq - M)*cw):=by grind
  have e4:M*(4294967296*(b - cw))=4294967296*(M*(b - cw)):=by grind
  have e5:M*(2199023255553*M)=2199023255553*(M*M):=by grind
  rw [e2,e5] at p3
  rw [e3,e5] at p4
  rw [e4]
  unfold nb at *
  generalize M*(b - cw)=A at *
  generalize cq*sw=B at *
  generalize (sq - M)*cw=D at *
  generalize M*M=MM at *
  omega
end Go.Tg

/- The program's sine and cosine against the reference's: how far off they are; the ways they turn. Plain. -/
namespace Go.Proofs.YtfepmlklbapfiaaGreat
open Go.Lr Go.Tg
set_option linter.unusedVariables false
set_option linter.unusedSimpArgs false
def hP (x2:Int):Int→Int→List Int→Int
 | p,_,[]=>p
 | p,w,k::l=>hP x2 (k*(w*1152921504606846976)+x2*p) (w*1152921504606846976) l
def hW:Int→List Int→Int
 | w,[]=>w
 | w,_::l=>hW (w*1152921504606846976) l
def hL:List Int→Int→List Int→List Int
 | q,_,[]=>q
 | q,w,k::l=>hL ((k*(w*1152921504606846976))::q) (w*1152921504606846976) l
theorem hP_ev (x2:Int):∀(l q:List Int) (w:Int),hP x2 (pv q x2) w l=pv (hL q w l) x2
 | [],q,w=>rfl
 | k::l,q,w=>hP_ev x2 l ((k*(w*1152921504606846976))::q) (w*1152921504606846976)
def sprd:List Int→List Int
 | []=>[]
 | a::l=>a::0::sprd l
theorem pv_sprd (x:Int):∀l:List Int,pv (sprd l) x=pv l (x*x)
 | []=>rfl
 | a::l=>by simp only [sprd,pv,pv_sprd x l];grind
theorem mul30 {a b:Int} (ha:nb a 4294967296) (hb:nb b 4294967296):nb (2*(mulV a b 30*1073741824 - a*b)) 1073741824:=by
 have h:=rnd_bd (a*b) 30
 rw [show pow2 30=1073741824 from rfl] at h
 have hp:=ha.mul hb
 unfold nb at ha hb hp
 have e:mulV a b 30=rndV (a*b) 30:=by
  unfold mulV rndS
  rw [if_neg (by decide),if_neg (by decide),sat_in (a:=a) (by omega) (by omega),sat_in (a:=b) (by omega) (by omega),show Int.toNat 30=30 from rfl]
  exact sat_in (by omega) (by omega)
 rw [e];exact h
theorem addnb {a b:Int} (ha:nb a 4294967296) (hb:nb b 4294967296):faddV [a,b]=a+b:=by
 unfold nb at ha hb
 unfold faddV
 simp only [sumS]
 rw [sat_in (a:=a) (by omega) (by omega),sat_in (a:=b) (by omega) (by omega),sat_in (by omega) (by omega)];omega
theorem z_bd {z x2:Int} (hx0:0≤x2) (hx1:x2≤711180000000000000) (hz:nb (2*(z*1073741824 - x2)) 1073741824):0≤z∧z≤662338200:=by
 unfold nb at hz;omega
theorem step {z x2 s k w p:Int} (hx0:0≤x2) (hx1:x2≤711180000000000000) (hz:nb (2*(z*1073741824 - x2)) 1073741824) (hw:0<w) (hk:nb k 1073741824) (hs:nb s 1503238553) (he:nb (s*w - p) (4*w)):
  faddV [k,mulV z s 30]=k+mulV z s 30∧nb (mulV z s 30) 927400000∧nb ((k+mulV z s 30)*(w*1152921504606846976) - (k*(w*1152921504606846976)+x2*p)) (4*(w*1152921504606846976)):=by
 obtain ⟨z0,z1⟩:=z_bd hx0 hx1 hz
 have zn:nb z 662338200:=⟨by omega,z1⟩
 have hm:=mul30 (zn.le (by omega)) (hs.le (by omega))
 have hzs:=zn.mul hs
 generalize mulV z s 30=m at *
 have mb:nb m 927400000:=by unfold nb at *;omega
 refine ⟨addnb (hk.le (by omega)) (mb.le (by omega)),mb, ?_⟩
 have xn:nb x2 711180000000000000:=⟨by omega,hx1⟩
 have a1:=xn.mul he
 have a2:=hs.mul hz
 have a3:=(show nb 1073741824 1073741824 by unfold nb;omega).mul hm
 have a4:=(a2.add a3).lmul (show 0≤w by omega)
 have e:2*((k+m)*(w*1152921504606846976) - (k*(w*1152921504606846976)+x2*p))=2*(x2*(s*w - p))+w*(s*(2*(z*1073741824 - x2))+1073741824*(2*(m*1073741824 - z*s))):=by grind
 unfold nb at a1 a4 ⊢
 generalize (k+m)*(w*1152921504606846976) - (k*(w*1152921504606846976)+x2*p)=X at *
 generalize w*(s*(2*(z*1073741824 - x2))+1073741824*(2*(m*1073741824 - z*s)))=Y at *
 generalize x2*(s*w - p)=Z at *
 omega
theorem ser_err {z x2:Int} (hx0:0≤x2) (hx1:x2≤711180000000000000) (hz:nb (2*(z*1073741824 - x2)) 1073741824):∀(l:List Int) (s p w:Int),0<w→(∀k∈l,nb k 536870912)→nb s 1503238553→nb (s*w - p) (4*w)→
  nb (serV z s l) 1503238553∧nb (serV z s l*hW w l - hP x2 p w l) (4*hW w l)∧0<hW w l
 | [],s,p,w,hw,_,hs,he=>⟨hs,he,hw⟩
 | k::l,s,p,w,hw,hk,hs,he=>by
  have hk0:=hk k (List.mem_cons_self ..)
  obtain ⟨e1,e2,e3⟩:=step hx0 hx1 hz hw (hk0.le (by omega)) hs he
  simp only [serV,hW,hP]
  rw [e1]
  refine ser_err hx0 hx1 hz l _ _ _ (by omega) (fun j hj=>hk j (List.mem_cons_of_mem _ hj)) ?_ e3
  unfold nb at *;omega
theorem ser_app (z:Int) (k:Int):∀(l:List Int) (s:Int),serV z s (l++[k])=faddV [k,mulV z (serV z s l) 30]
 | [],s=>rfl
 | j::l,s=>by simp only [List.cons_append,serV];exact ser_app z k l _
theorem hP_app (x2 k:Int):∀(l:List Int) (p w:Int),hP x2 p w (l++[k])=k*(hW w l*1152921504606846976)+x2*hP x2 p w l
 | [],p,w=>rfl
 | j::l,p,w=>by simp only [List.cons_append,hP,hW];exact hP_app x2 k l _ _
theorem hW_app (k:Int):∀(l:List Int) (w:Int),hW w (l++[k])=hW w l*1152921504606846976
 | [],w=>rfl
 | j::l,w=>by simp only [List.cons_append,hW];exact hW_app k l _
theorem ser_all {z x2 a:Int} {l:List Int} (hx0:0≤x2) (hx1:x2≤711180000000000000) (hz:nb (2*(z*1073741824 - x2)) 1073741824) (ha:nb a 536870912) (hk:∀k∈l,nb k 536870912):
  nb (serV z a (l++[1073741824])) 2001141824∧nb (serV z a (l++[1073741824])*hW 1 (l++[1073741824]) - pv (hL [a] 1 (l++[1073741824])) x2) (4*hW 1 (l++[1073741824]))∧0<hW 1 (l++[1073741824]):=by
 obtain ⟨b0,b1,b2⟩:=ser_err hx0 hx1 hz l a a 1 (by omega) hk (ha.le (by omega)) (by unfold nb;omega)
 obtain ⟨e1,e2,e3⟩:=step hx0 hx1 hz b2 (show nb 1073741824 1073741824 by unfold nb;omega) b0 b1
 have e:=hP_ev x2 (l++[1073741824]) [a] 1
 rw [show pv [a] x2=a by simp [pv]] at e
 rw [←e,ser_app,hP_app,hW_app,e1]
 exact ⟨by unfold nb at *;omega,e3,by omega⟩
theorem sqx_bd {x:Int} (hx:nb x 843314857):0≤x*x∧x*x≤711180000000000000:=by
 have h:=(hx.mul hx).2
 refine ⟨?_,by omega⟩
 rcases Int.le_total 0 x with k | k
 ·exact Int.mul_nonneg k k
 ·exact Int.mul_nonneg_of_nonpos_of_nonpos k k
theorem chk3:leB (2*pv (pabs (padd (psm MN (0::sprd (hL [-27] 1 sL1))) (psm (-(1073741824 ^ 12)) sinL))) 843314857) (MN*1073741824 ^ 11)=true:=by kernel_rfl
theorem chk4:leB (2*pv (pabs (padd (psm MN (sprd (hL [2] 1 sL2))) (psm (-(1073741824 ^ 13)) cosL))) 843314857) (MN*1073741824 ^ 12)=true:=by kernel_rfl
theorem s0_err {x:Int} (hx:nb x 843314857):nb (2*(MN*sinS0 x - 1073741824*Sp x)) (9*MN):=by
 obtain ⟨q0,q1⟩:=sqx_bd hx
 have hz:=mul30 (hx.le (by omega)) (hx.le (by omega))
 unfold sinS0
 have hl:sL1=[2959,-213044,8947849,-178956971]++[1073741824]:=rfl
 obtain ⟨a0,a1,-⟩:=ser_all (a:= -27) (l:=[2959,-213044,8947849,-178956971]) q0 q1 hz (by unfold nb;omega) (by unfold nb;simp)
 rw [←hl] at a0 a1
 have c:=(show nb (2*pv (padd (psm MN (0::sprd (hL [-27] 1 sL1))) (psm (-(1073741824 ^ 12)) sinL)) x) (MN*1073741824 ^ 11) from by
  have h:=leB_le chk3
  have h2:=pv_abs hx.abs (padd (psm MN (0::sprd (hL [-27] 1 sL1))) (psm (-(1073741824 ^ 12)) sinL))
  unfold nb;omega)
 rw [pv_add,pv_sm,pv_sm] at c
 rw [show pv (0::sprd (hL [-27] 1 sL1)) x=x*pv (hL [-27] 1 sL1) (x*x) by simp only [pv,pv_sprd];omega] at c
 generalize mulV x x 30=z at *
 generalize serV z (-27) sL1=S at *
 have hm:=mul30 (hx.le (show (843314857:Int)≤4294967296 by omega)) (a0.le (show (2001141824:Int)≤4294967296 by omega))
 generalize mulV x S 30=m at *
 generalize pv (hL [-27] 1 sL1) (x*x)=p at *
 rw [show hW 1 sL1=1073741824 ^ 10 by decide +kernel] at a1
 have hM:=MN_pos
 change nb (2*(MN*(x*p) + -1073741824 ^ 12*Sp x)) (MN*1073741824 ^ 11) at c
 generalize Sp x=sp at *
 generalize MN=M at *
 have b1:=(hx.mul a1).lmul (show 0≤M by omega)
 have b2:=hm.lmul (show 0≤M by omega)
 refine nb.cancel (m:=1073741824 ^ 11) (by decide) ?_
 have e:1073741824 ^ 11*(2*(M*m - 1073741824*sp))=2*(M*(x*(S*1073741824 ^ 10 - p)))+1073741824 ^ 10*(M*(2*(m*1073741824 - x*S)))+2*(M*(x*p) + -1073741824 ^ 12*sp):=by grind
 rw [e]
 unfold nb at b1 b2 c ⊢
 generalize M*(x*(S*1073741824 ^ 10 - p))=A at *
 generalize M*(2*(m*1073741824 - x*S))=B at *
 generalize 2*(M*(x*p) + -1073741824 ^ 12*sp)=D at *
 omega
theorem c0_err {x:Int} (hx:nb x 843314857):nb (2*(MN*serV (mulV x x 30) 2 sL2 - 1073741824*Cp x)) (9*MN)∧nb (serV (mulV x x 30) 2 sL2) 2001141824:=by
 obtain ⟨q0,q1⟩:=sqx_bd hx
 have hz:=mul30 (hx.le (by omega)) (hx.le (by omega))
 have hl:sL2=[-296,26631,-1491308,44739243,-536870912]++[1073741824]:=rfl
 obtain ⟨a0,a1,-⟩:=ser_all (a:=2) (l:=[-296,26631,-1491308,44739243,-536870912]) q0 q1 hz (by unfold nb;omega) (by unfold nb;simp)
 rw [←hl] at a0 a1
 have c:=(show nb (2*pv (padd (psm MN (sprd (hL [2] 1 sL2))) (psm (-(1073741824 ^ 13)) cosL)) x) (MN*1073741824 ^ 12) from by
  have h:=leB_le chk4
  have h2:=pv_abs hx.abs (padd (psm MN (sprd (hL [2] 1 sL2))) (psm (-(1073741824 ^ 13)) cosL))
  unfold nb;omega)
 rw [pv_add,pv_sm,pv_sm,pv_sprd] at c
 generalize mulV x x 30=z at *
 refine ⟨?_,a0⟩
 generalize serV z 2 sL2=S at *
 generalize pv (hL [2] 1 sL2) (x*x)=p at *
 rw [show hW 1 sL2=1073741824 ^ 12 by decide +kernel] at a1
 have hM:=MN_pos
 change nb (2*(MN*p + -1073741824 ^ 13*Cp x)) (MN*1073741824 ^ 12) at c
 generalize Cp x=cp at *
 generalize MN=M at *
 have b1:=a1.lmul (show 0≤M by omega)
 refine nb.cancel (m:=1073741824 ^ 12) (by decide) ?_
 have e:1073741824 ^ 12*(2*(M*S - 1073741824*cp))=2*(M*(S*1073741824 ^ 12 - p))+2*(M*p + -1073741824 ^ 13*cp):=by grind
 rw [e]
 unfold nb at b1 c ⊢
 generalize M*(S*1073741824 ^ 12 - p)=A at *
 generalize 2*(M*p + -1073741824 ^ 13*cp)=D at *
 omega
end Go.Proofs.YtfepmlklbapfiaaGreat

/- The program's sine as a function of the wrapped angle: its symmetries; how far off the reference's it is. Plain. -/
namespace Go.Proofs.YtfepmlklbapfiaaGreat
open Go.Lr Go.Tg
set_option linter.unusedVariables false
set_option linter.unusedSimpArgs false
theorem mm_def (s:Int):mmV s=if s>1073741824 then 1073741824 else if s < -1073741824 then -1073741824 else s:=by
 unfold mmV;(repeat' split) <;> omega
theorem mm_bd (s:Int):nb (mmV s) 1073741824:=by
 rw [mm_def];unfold nb;(repeat' split) <;> omega
theorem mm_neg (s:Int):mmV (-s) = -mmV s:=by
 rw [mm_def,mm_def];(repeat' split) <;> omega
theorem mm_err {s v M:Int} (hM:0<M) (h:nb (2*(M*s - v)) (10*M)) (hv:nb (2048*v) (2199023255553*M)):nb (2*(M*mmV s - v)) (10*M):=by
 rw [mm_def]
 unfold nb at *
 split
 ·rename_i g
  have:=Int.mul_le_mul_of_nonneg_left (show (1073741824:Int)≤s by omega) (show 0≤M by omega)
  omega
 ·split
  ·rename_i g
   have:=Int.mul_le_mul_of_nonneg_left (show s≤(-1073741824:Int) by omega) (show 0≤M by omega)
   omega
  ·exact h
theorem Sp_v {x:Int} (hx:nb x 1700000000):nb (2048*(1073741824*Sp x)) (2199023255553*MN):=by
 have h:=Sp_one hx
 rw [show 2048*(1073741824*Sp x)=2199023255552*Sp x by omega];exact h
theorem fabs_sm {w:Int} (h:nb w 1152921504606846975):fabsV w=if w<0 then -w else w:=by
 unfold nb at h;unfold fabsV;(repeat' split) <;> omega
theorem sinF_err {w:Int} (hw:nb w 1686629713):nb (2*(MN*sinF w - 1073741824*Sp w)) (10*MN):=by
 have hM:=MN_pos
 have hx:nb w 1700000000:=hw.le (by omega)
 have hf:=fabs_sm (hw.le (show (1686629713:Int)≤1152921504606846975 by omega))
 unfold sinF
 by_cases c:fabsV w≤843314857
 ·rw [decide_eq_true c,cond_true]
  refine mm_err hM ((s0_err ?_).le (by omega)) (Sp_v hx)
  rw [hf] at c;unfold nb;split at c <;> omega
 ·rw [decide_eq_false c,cond_false]
  refine mm_err hM ?_ (Sp_v hx)
  rw [hf] at c
  unfold nb at hw
  by_cases n:w<0
  ·rw [if_pos n] at c
   have e:sinX w=1686629713 - -w:=by unfold sinX;rw [hf,if_pos n,wr_i,w64_in (by omega) (by omega)]
   rw [e,decide_eq_true n]
   have hy:nb (1686629713 - -w) 843314857:=by unfold nb;omega
   obtain ⟨c1,c2⟩:=c0_err hy
   obtain ⟨c3,-⟩:=co_eq (w:= -w) (by unfold nb;omega)
   have e2:sinG0 true (1686629713 - -w) = -serV (mulV (1686629713 - -w) (1686629713 - -w) 30) 2 sL2:=by
    show wr IntKind.i64 (0 - _)=_
    unfold nb at c2
    rw [wr_i,w64_in (by omega) (by omega)];omega
   rw [e2]
   rw [Sp_neg] at c3
   generalize serV (mulV (1686629713 - -w) (1686629713 - -w) 30) 2 sL2=s at *
   generalize Cp (1686629713 - -w)=cp at *
   generalize Sp w=sp at *
   rw [show MN * -s = -(MN*s) by grind]
   generalize MN*s=ms at *
   generalize MN=M at *
   unfold nb at *
   omega
  ·rw [if_neg n] at c
   have e:sinX w=1686629713 - w:=by unfold sinX;rw [hf,if_neg n,wr_i,w64_in (by omega) (by omega)]
   rw [e,decide_eq_false n]
   have hy:nb (1686629713 - w) 843314857:=by unfold nb;omega
   obtain ⟨c1,c2⟩:=c0_err hy
   obtain ⟨c3,-⟩:=co_eq (w:=w) (by unfold nb;omega)
   show nb (2*(MN*serV (mulV (1686629713 - w) (1686629713 - w) 30) 2 sL2 - 1073741824*Sp w)) (10*MN)
   generalize serV (mulV (1686629713 - w) (1686629713 - w) 30) 2 sL2=s at *
   generalize Cp (1686629713 - w)=cp at *
   generalize Sp w=sp at *
   generalize MN*s=ms at *
   generalize MN=M at *
   unfold nb at *
   omega
theorem mul_nn (a b s:Int):mulV (-a) (-b) s=mulV a b s:=by unfold mulV;rw [sat_odd,sat_odd,Int.neg_mul_neg]
theorem rndS_neg (w s:Int):rndS (-w) s = -rndS w s:=by
 unfold rndS
 (repeat' split) <;> first | omega | rw [rnd_odd,sat_odd]
theorem mul_neg1 (a b s:Int):mulV (-a) b s = -mulV a b s:=by unfold mulV;rw [sat_odd,Int.neg_mul,rndS_neg]
theorem sinF_neg {w:Int} (hw:nb w 1686629713):sinF (-w) = -sinF w:=by
 have hf:=fabs_sm (hw.le (show (1686629713:Int)≤1152921504606846975 by omega))
 have hg:=fabs_sm (hw.neg.le (show (1686629713:Int)≤1152921504606846975 by omega))
 have hfg:fabsV (-w)=fabsV w:=by rw [hf,hg];(repeat' split) <;> omega
 unfold sinF
 rw [hfg]
 by_cases c:fabsV w≤843314857
 ·rw [decide_eq_true c,cond_true,cond_true,←mm_neg]
  unfold sinS0
  rw [mul_nn,mul_neg1]
 ·rw [decide_eq_false c,cond_false,cond_false,←mm_neg]
  have ex:sinX (-w)=sinX w:=by unfold sinX;rw [hfg]
  rw [ex]
  have hb:nb (sinX w) 843314857:=by
   unfold sinX
   rw [hf] at c ⊢
   unfold nb at *
   split at c
   ·rename_i n
    rw [if_pos n,wr_i,w64_in (by omega) (by omega)];omega
   ·rename_i n
    rw [if_neg n,wr_i,w64_in (by omega) (by omega)];omega
  obtain ⟨-,c2⟩:=c0_err hb
  have key:sinG0 true (sinX w) = -sinG0 false (sinX w):=by
   show wr IntKind.i64 (0 - serV (mulV (sinX w) (sinX w) 30) 2 sL2) = -serV (mulV (sinX w) (sinX w) 30) 2 sL2
   unfold nb at c2
   rw [wr_i,w64_in (by omega) (by omega)];omega
  rw [hf] at c
  by_cases n:w<0
  ·have n2:¬ -w<0:=by omega
   rw [decide_eq_true n,decide_eq_false n2,key,Int.neg_neg]
  ·have n2: -w<0:=by rw [if_neg n] at c;omega
   rw [decide_eq_false n,decide_eq_true n2,key]
def foldV (w:Int):Int:=if w>1686629713 then 3373259426 - w else if w < -1686629713 then -3373259426 - w else w
def SG (a:Int):Int:=sinF (foldV (wrapV a))
def CG (a:Int):Int:=SG (1686629713+a)
theorem fold_bd {w:Int} (h0: -3373259426<w) (h1:w≤3373259426):nb (foldV w) 1686629713:=by
 unfold foldV nb;(repeat' split) <;> omega
theorem sinF_0:sinF 0=0:=by
 have h:=sinF_neg (w:=0) (by unfold nb;omega)
 rw [Int.neg_zero] at h;omega
theorem fold_neg (w:Int):foldV (-w) = -foldV w:=by unfold foldV;(repeat' split) <;> omega
theorem SG_neg (a:Int):SG (-a) = -SG a:=by
 obtain ⟨b0,b1,j,hj⟩:=wrap_spec a
 unfold SG
 by_cases h:wrapV a=3373259426
 ·rw [wrap_unique (a:= -a) (w:=3373259426) (k:= -j - 1) (by omega) (by omega) (by omega),h,show foldV 3373259426=0 by decide,sinF_0];rfl
 ·rw [wrap_unique (a:= -a) (w:= -wrapV a) (k:= -j) (by omega) (by omega) (by omega),fold_neg,sinF_neg (fold_bd b0 b1)]
theorem SG_half (a:Int):SG (3373259426 - a)=SG a:=by
 obtain ⟨b0,b1,j,hj⟩:=wrap_spec a
 unfold SG
 by_cases h:0≤wrapV a
 ·rw [wrap_unique (a:=3373259426 - a) (w:=3373259426 - wrapV a) (k:= -j) (by omega) (by omega) (by omega)]
  congr 1
  unfold foldV;(repeat' split) <;> omega
 ·rw [wrap_unique (a:=3373259426 - a) (w:= -3373259426 - wrapV a) (k:= -j+1) (by omega) (by omega) (by omega)]
  congr 1
  unfold foldV;(repeat' split) <;> omega
theorem SG_bd (a:Int):nb (SG a) 1073741824:=by
 unfold SG sinF
 cases decide (fabsV (foldV (wrapV a))≤843314857)
 ·exact mm_bd _
 ·exact mm_bd _
theorem CG_bd (a:Int):nb (CG a) 1073741824:=SG_bd _
theorem SG_q (a:Int):SG (a+1686629713)=CG a:=by unfold CG;rw [Int.add_comm]
theorem CG_q (a:Int):CG (a+1686629713) = -SG a:=by
 unfold CG
 rw [←SG_half,←SG_neg]
 congr 1;omega
theorem CG_neg (a:Int):CG (-a)=CG a:=by
 unfold CG
 rw [←SG_half]
 congr 1;omega
theorem SG_co (a:Int):SG (1686629713 - a)=CG a:=by
 unfold CG
 rw [←SG_half (1686629713 - a)]
 congr 1;omega
theorem SG_err {w:Int} (hw:nb w 1686629713):nb (2*(MN*SG w - 1073741824*Sp w)) (10*MN):=by
 unfold nb at hw
 have e:SG w=sinF w:=by
  unfold SG
  rw [wrap_unique (a:=w) (w:=w) (k:=0) (by omega) (by omega) (by omega)]
  congr 1
  unfold foldV;(repeat' split) <;> omega
 rw [e];exact sinF_err hw
theorem CG_err {w:Int} (hw:nb w 1686629713):nb (2*(MN*CG w - 1073741824*Cp w)) (11*MN):=by
 have hM:=MN_pos
 have key:∀v:Int,0≤v→v≤1686629713→nb (2*(MN*CG v - 1073741824*Cp v)) (11*MN):=by
  intro v v0 v1
  have h:=SG_err (w:=1686629713 - v) (by unfold nb;omega)
  rw [SG_co] at h
  obtain ⟨-,c⟩:=co_eq (w:=v) (by unfold nb;omega)
  generalize MN*CG v=x at *
  generalize Sp (1686629713 - v)=y at *
  generalize Cp v=z at *
  generalize MN=M at *
  unfold nb at *
  omega
 unfold nb at hw
 rcases Int.le_total 0 w with h | h
 ·exact key w h (by omega)
 ·have:=key (-w) (by omega) (by omega)
  rw [CG_neg,Cp_neg] at this
  exact this
end Go.Proofs.YtfepmlklbapfiaaGreat

/- The sine and the cosine of a sum of angles (within 28), and on the circle. Plain. -/
namespace Go.Proofs.YtfepmlklbapfiaaGreat
open Go.Lr Go.Tg
set_option linter.unusedVariables false
set_option linter.unusedSimpArgs false
theorem prod_err {M a b c d x y z w:Int} (hM:0<M) (ha:nb a 1073741824) (hb:nb b 1073741824) (hc:nb c 1073741824) (hd:nb d 1073741824)
  (ea:nb (2*(M*a - 1073741824*x)) (11*M)) (eb:nb (2*(M*b - 1073741824*y)) (11*M)) (ec:nb (2*(M*c - 1073741824*z)) (11*M)) (ed:nb (2*(M*d - 1073741824*w)) (11*M)):
  nb (4*(M*M*(a*b+c*d) - 1152921504606846976*(x*y+z*w))) (M*M*94489281000):=by
 have p1:=(((hb.mul ea).add (ha.mul eb)).add ((hd.mul ec).add (hc.mul ed))).lmul (show 0≤M by omega)
 have p2:=(ea.mul eb).add (ec.mul ed)
 have e:4*(M*M*(a*b+c*d) - 1152921504606846976*(x*y+z*w))=2*(M*(b*(2*(M*a - 1073741824*x))+a*(2*(M*b - 1073741824*y))+(d*(2*(M*c - 1073741824*z))+c*(2*(M*d - 1073741824*w)))))
   - (2*(M*a - 1073741824*x)*(2*(M*b - 1073741824*y))+2*(M*c - 1073741824*z)*(2*(M*d - 1073741824*w))):=by grind
 rw [e]
 have e1:M*(1073741824*(11*M)+1073741824*(11*M)+(1073741824*(11*M)+1073741824*(11*M)))=47244640256*(M*M):=by grind
 have e2:11*M*(11*M)+11*M*(11*M)=242*(M*M):=by grind
 rw [e1] at p1
 rw [e2] at p2
 have hMM:0≤M*M:=Int.mul_nonneg (by omega) (by omega)
 have e3:M*M*94489281000=94489281000*(M*M):=by grind
 rw [e3]
 unfold nb at p1 p2 ⊢
 generalize M*(b*(2*(M*a - 1073741824*x))+a*(2*(M*b - 1073741824*y))+(d*(2*(M*c - 1073741824*z))+c*(2*(M*d - 1073741824*w))))=A at *
 generalize 2*(M*a - 1073741824*x)*(2*(M*b - 1073741824*y))+2*(M*c - 1073741824*z)*(2*(M*d - 1073741824*w))=B at *
 generalize M*M=MM at *
 omega
theorem sum_err {M X v r q:Int} (hM:0<M) (h1:nb (4*(M*M*X - 1152921504606846976*q)) (M*M*94489281000)) (h2:nb (1099511627776*(q - M*r)) (M*M)) (h3:nb (2*(M*v - 1073741824*r)) (11*M)):
  nb (X - 1073741824*v) 30064771072:=by
 refine nb.cancel (m:=M*M) (Int.mul_pos hM hM) ?_
 have p3:=h3.lmul (show 0≤M by omega)
 have e:M*M*(X - 1073741824*v)=(M*M*X - 1152921504606846976*q)+1152921504606846976*(q - M*r) - 1073741824*(M*(M*v - 1073741824*r)):=by grind
 have e1:M*(2*(M*v - 1073741824*r))=2*(M*(M*v - 1073741824*r)):=by grind
 have e2:M*(11*M)=11*(M*M):=by grind
 rw [e1,e2] at p3
 rw [e]
 have hMM:0≤M*M:=Int.mul_nonneg (by omega) (by omega)
 unfold nb at *
 generalize M*M*X - 1152921504606846976*q=A at *
 generalize M*(M*v - 1073741824*r)=B at *
 generalize q - M*r=D at *
 generalize M*M=MM at *
 omega
def SumQ (a b:Int):Prop:=nb (CG a*CG b - SG a*SG b - 1073741824*CG (a+b)) 30064771072∧nb (SG a*CG b+CG a*SG b - 1073741824*SG (a+b)) 30064771072
theorem sum_base {a b:Int} (ha:nb a 843314856) (hb:nb b 843314856):SumQ a b:=by
 have hM:=MN_pos
 have hs:nb (a+b) 1686629713:=(ha.add hb).le (by omega)
 have a1:=CG_err (ha.le (show (843314856:Int)≤1686629713 by omega))
 have a2:=(SG_err (ha.le (show (843314856:Int)≤1686629713 by omega))).le (show 10*MN≤11*MN by omega)
 have b1:=CG_err (hb.le (show (843314856:Int)≤1686629713 by omega))
 have b2:=(SG_err (hb.le (show (843314856:Int)≤1686629713 by omega))).le (show 10*MN≤11*MN by omega)
 have s1:=CG_err hs
 have s2:=(SG_err hs).le (show 10*MN≤11*MN by omega)
 have c:=add_c (ha.le (show (843314856:Int)≤1700000000 by omega)) (hb.le (show (843314856:Int)≤1700000000 by omega))
 have s:=add_s (ha.le (show (843314856:Int)≤1700000000 by omega)) (hb.le (show (843314856:Int)≤1700000000 by omega))
 have neg:∀{u v:Int},nb (2*(MN*u - 1073741824*v)) (11*MN)→nb (2*(MN * -u - 1073741824 * -v)) (11*MN):=by
  intro u v h
  have e:2*(MN * -u - 1073741824 * -v) = -(2*(MN*u - 1073741824*v)):=by grind
  rw [e];exact h.neg
 constructor
 ·have p:=prod_err hM (CG_bd a) (CG_bd b) (SG_bd a).neg (SG_bd b) a1 b1 (neg a2) b2
  have q:=sum_err (v:=CG (a+b)) (r:=Cp (a+b)) hM p (by rw [Int.neg_mul];exact c) s1
  rw [Int.neg_mul] at q
  exact q
 ·have p:=prod_err hM (SG_bd a) (CG_bd b) (CG_bd a) (SG_bd b) a2 b1 a1 b2
  exact sum_err hM p s s2
theorem sum_up {a b:Int}:SumQ (a+1686629713) b↔SumQ a b:=by
 unfold SumQ
 rw [show a+1686629713+b=a+b+1686629713 by omega,CG_q,CG_q,SG_q,SG_q,Int.neg_mul,Int.neg_mul]
 generalize CG a*CG b=x
 generalize SG a*SG b=y
 generalize SG a*CG b=z
 generalize CG a*SG b=t
 unfold nb
 omega
theorem sum_comm {a b:Int} (h:SumQ a b):SumQ b a:=by
 unfold SumQ at *
 rw [Int.add_comm b a,Int.mul_comm (CG b),Int.mul_comm (SG b),Int.mul_comm (SG b),Int.mul_comm (CG b),Int.add_comm (CG a*SG b)]
 exact h
theorem sum_nat {a b:Int}:∀n:Nat,SumQ (a+n*1686629713) b↔SumQ a b
 | 0=>by rw [show a+((0:Nat):Int)*1686629713=a by omega]
 | n+1=>by
  rw [show a+((n+1:Nat):Int)*1686629713=a+(n:Int)*1686629713+1686629713 by omega,sum_up]
  exact sum_nat n
theorem sum_int {a b:Int} (k:Int):SumQ (a+k*1686629713) b↔SumQ a b:=by
 rcases Int.le_total 0 k with h | h
 ·have:=sum_nat (a:=a) (b:=b) k.toNat
  rw [show ((k.toNat:Nat):Int)=k by omega] at this
  exact this
 ·have:=sum_nat (a:=a+k*1686629713) (b:=b) (-k).toNat
  rw [show a+k*1686629713+(((-k).toNat:Nat):Int)*1686629713=a by
   rw [show (((-k).toNat:Nat):Int) = -k by omega];omega] at this
  exact this.symm
theorem to_base (a:Int):∃x k,a=x+k*1686629713∧nb x 843314856:=by
 refine ⟨a - (a+843314856)/1686629713*1686629713,(a+843314856)/1686629713,by omega, ?_⟩
 unfold nb;omega
theorem sum_all (a b:Int):SumQ a b:=by
 obtain ⟨x,k,rfl,hx⟩:=to_base a
 obtain ⟨y,l,rfl,hy⟩:=to_base b
 exact (sum_int k).2 (sum_comm ((sum_int l).2 (sum_comm (sum_base hx hy))))
theorem CG_0:CG 0=1073741824:=by decide +kernel
theorem on_circle (a:Int):nb (CG a*CG a+SG a*SG a - 1152921504606846976) 30064771072:=by
 have h:=(sum_all a (-a)).1
 rw [CG_neg,SG_neg,show a + -a=0 by omega,CG_0,Int.mul_neg] at h
 generalize CG a*CG a=x at *
 generalize SG a*SG a=y at *
 unfold nb at *
 omega
end Go.Proofs.YtfepmlklbapfiaaGreat

/- The program's angle of a tangent against the reference's sine and cosine. Plain. -/
namespace Go.Proofs.YtfepmlklbapfiaaGreat
open Go.Lr Go.Tg
set_option linter.unusedVariables false
set_option linter.unusedSimpArgs false
end Go.Proofs.YtfepmlklbapfiaaGreat

/- The program's angle of a point: the point lies in that direction (within 81). Plain. -/
namespace Go.Proofs.YtfepmlklbapfiaaGreat
open Go.Lr Go.Tg
set_option linter.unusedVariables false
set_option linter.unusedSimpArgs false
end Go.Proofs.YtfepmlklbapfiaaGreat

/- Nothing is clamped in sines, cosines, angles. Plain. -/
namespace Go.Proofs.YtfepmlklbapfiaaGreat
open Go.Lr Go.Tg
set_option linter.unusedVariables false
set_option linter.unusedSimpArgs false
end Go.Proofs.YtfepmlklbapfiaaGreat

/- The laws of sines, cosines and angles, in plain numbers. -/
namespace Go.Proofs.YtfepmlklbapfiaaGreat
open Go.Lr Go.Tg
set_option linter.unusedVariables false
set_option linter.unusedSimpArgs false
theorem dot2 {x0 x1 y0 y1:Int} (a0:nb x0 4294967296) (a1:nb x1 4294967296) (b0:nb y0 4294967296) (b1:nb y1 4294967296):
  nb (2*(dotV 30 [x0,x1] [y0,y1]*1073741824 - (x0*y0+x1*y1))) 1073741824∧dotH 30 [x0,x1] [y0,y1]=false:=by
 have m0:=a0.mul b0
 have m1:=a1.mul b1
 unfold nb at a0 a1 b0 b1 m0 m1
 have e:dotS [x0,x1] [y0,y1]=x0*y0+x1*y1:=by
  simp only [dotS]
  rw [sat_in (a:=x0) (by omega) (by omega),sat_in (a:=x1) (by omega) (by omega),sat_in (a:=y0) (by omega) (by omega),sat_in (a:=y1) (by omega) (by omega)]
  omega
 have f:dotFl [x0,x1] [y0,y1]=false:=by
  simp only [dotFl]
  rw [satH_in (a:=x0) (by omega) (by omega),satH_in (a:=x1) (by omega) (by omega),satH_in (a:=y0) (by omega) (by omega),satH_in (a:=y1) (by omega) (by omega)]
  rfl
 have hb:=rnd_bd (x0*y0+x1*y1) 30
 rw [show pow2 30=1073741824 from rfl] at hb
 have g:rndS (x0*y0+x1*y1) 30=rndV (x0*y0+x1*y1) 30∧rndH (x0*y0+x1*y1) 30=false:=by
  unfold rndS rndH
  rw [if_neg (by decide),if_neg (by decide),show Int.toNat 30=30 from rfl,sat_in (by omega) (by omega),satH_in (by omega) (by omega)]
  exact ⟨rfl,by decide⟩
 constructor
 ·show nb (2*(rndS (dotS [x0,x1] [y0,y1]) 30*1073741824 - (x0*y0+x1*y1))) 1073741824
  rw [e,g.1];exact hb
 ·show (dotFl [x0,x1] [y0,y1]||rndH (dotS [x0,x1] [y0,y1]) 30)=false
  rw [e,f,g.2];rfl
theorem circle (a:Int):nb (dotV 30 [SG a,CG a] [SG a,CG a] - 1073741824) 29∧dotH 30 [SG a,CG a] [SG a,CG a]=false:=by
 obtain ⟨d,f⟩:=dot2 ((SG_bd a).le (show (1073741824:Int)≤4294967296 by omega)) ((CG_bd a).le (show (1073741824:Int)≤4294967296 by omega)) ((SG_bd a).le (show (1073741824:Int)≤4294967296 by omega)) ((CG_bd a).le (show (1073741824:Int)≤4294967296 by omega))
 have h:=on_circle a
 refine ⟨?_,f⟩
 unfold nb at *;omega
theorem sqnn0 (a:Int):0≤a*a:=by
 rcases Int.le_total 0 a with k | k
 ·exact Int.mul_nonneg k k
 ·exact Int.mul_nonneg_of_nonpos_of_nonpos k k
end Go.Proofs.YtfepmlklbapfiaaGreat

/- Levels: a heading's Unit has no second and third number; divisions by what is about One. -/
namespace Go.Proofs.YtfepmlklbapfiaaGreat
open Go.Lr
set_option linter.unusedVariables false
set_option linter.unusedSimpArgs false
end Go.Proofs.YtfepmlklbapfiaaGreat

/- Directions: a Unit's; of twice an angle; headings in plain numbers. -/
namespace Go.Proofs.YtfepmlklbapfiaaGreat
open Go.Lr Go.Tg
set_option linter.unusedVariables false
set_option linter.unusedSimpArgs false
theorem rn30 (w:Int):nb (2*(rndV w 30*1073741824 - w)) 1073741824:=by
 have h:=rnd_bd w 30
 rw [show pow2 30=1073741824 from rfl] at h
 exact h
end Go.Proofs.YtfepmlklbapfiaaGreat

/- Units of numbers that nearly have length one; a vector's length; the exponential in plain numbers. -/
namespace Go.Proofs.YtfepmlklbapfiaaGreat
open Go.Lr Go.Tg
set_option linter.unusedVariables false
set_option linter.unusedSimpArgs false
theorem inS_nb {a k:Int} (h:nb a k) (hk:k≤1152921504606846976):inS a:=by unfold nb at h;unfold inS;omega
theorem satH_S {a:Int} (h:inS a):satH a=false:=satH_in h.1 h.2
theorem satV_S {a:Int} (h:inS a):satV a=a:=sat_in h.1 h.2
theorem hyp3 {a b c:Int} (ha:nb a 1099511627776) (hb:nb b 1099511627776) (hc:nb c 1099511627776):
  0≤exN a b c∧exN a b c≤2199023255552∧(a≤exN a b c∧ -a≤exN a b c)∧(b≤exN a b c∧ -b≤exN a b c)∧(c≤exN a b c∧ -c≤exN a b c)∧a*a+(b*b+c*c)≤exN a b c*exN a b c+exN a b c∧
  (exN a b c=0∨exN a b c*exN a b c - exN a b c<a*a+(b*b+c*c))∧hypH [satV a,satV b,satV c]=false:=by
 have ia:=inS_nb ha (by omega)
 have ib:=inS_nb hb (by omega)
 have ic:=inS_nb hc (by omega)
 obtain ⟨s0,s1,s2,s3,s4⟩:=exN_side a b c
 rw [satV_S ia] at s0
 rw [satV_S ib] at s1
 rw [satV_S ic] at s2
 have q0:=sqnn0 a
 have q1:=sqnn0 b
 have q2:=sqnn0 c
 have a2:=(ha.mul ha).2
 have b2:=(hb.mul hb).2
 have c2:=(hc.mul hc).2
 have hN:a*a+(b*b+c*c)<340282366920938463463374607431768211456:=by omega
 obtain ⟨r0,r1,r2⟩:=rootW_spec (N:=a*a+(b*b+c*c)) (by omega) hN
 have r3:rootW (a*a+(b*b+c*c))≤2199023255552:=root_le (by omega) hN (by omega) (by omega)
 have ev:exN a b c=rootW (a*a+(b*b+c*c)):=by
  unfold exN hypV
  rw [sqS3,satV_S ia,satV_S ib,satV_S ic,satV_S ia,satV_S ib,satV_S ic,sat_in (by omega) (by omega)]
 have ef:hypH [satV a,satV b,satV c]=false:=by
  unfold hypH
  rw [sqS3,satV_S ia,satV_S ib,satV_S ic,satV_S ia,satV_S ib,satV_S ic]
  show ((satH a||(satH b||(satH c||false)))||_)=_
  rw [satH_S ia,satH_S ib,satH_S ic,satH_in (by omega) (by omega)]
  rfl
 rw [ev] at s0 s1 s2
 rw [ev]
 exact ⟨r0,r3,s0,s1,s2,r1,r2,ef⟩
end Go.Proofs.YtfepmlklbapfiaaGreat

/- The exponential near its direction; half a rotation twice. Plain. -/
namespace Go.Proofs.YtfepmlklbapfiaaGreat
open Go.Lr Go.Tg
set_option linter.unusedVariables false
set_option linter.unusedSimpArgs false
structure ExpN (v0 v1 v2 n al C S d0 d1 d2:Int):Prop where
 n1:1≤n
 al2:nb (2*al - n) 1
 al0:0≤al
 eC:C=CG al
 eS:S=SG al
 b0:nb v0 n
 b1:nb v1 n
 b2:nb v2 n
 hv:nb (v0*v0+(v1*v1+v2*v2) - n*n) n
 e0:nb (2*(n*d0 - v0*S)) (5*n)
 e1:nb (2*(n*d1 - v1*S)) (5*n)
 e2:nb (2*(n*d2 - v2*S)) (5*n)
 x0:nb (eV0 v0 v1 v2 - C) 28
 x1:nb (eV1 v0 v1 v2 - d0) 28
 x2:nb (eV2 v0 v1 v2 - d1) 28
 x3:nb (eV3 v0 v1 v2 - d2) 28
 sn:nb S (n+1)
end Go.Proofs.YtfepmlklbapfiaaGreat

/- Half a rotation twice, all cases; small rotations; turned vectors. Plain. -/
namespace Go.Proofs.YtfepmlklbapfiaaGreat
open Go.Lr Go.Tg
set_option linter.unusedVariables false
set_option linter.unusedSimpArgs false
end Go.Proofs.YtfepmlklbapfiaaGreat

/- Matrices of Units: turned vectors. Plain. -/
namespace Go.Proofs.YtfepmlklbapfiaaGreat
open Go.Lr Go.Tg
set_option linter.unusedVariables false
set_option linter.unusedSimpArgs false
theorem dot3 {x0 x1 x2 y0 y1 y2:Int} (a0:nb x0 4294967296) (a1:nb x1 4294967296) (a2:nb x2 4294967296) (b0:nb y0 4398046511104) (b1:nb y1 4398046511104) (b2:nb y2 4398046511104):
  nb (2*(dotV 30 [x0,x1,x2] [y0,y1,y2]*1073741824 - (x0*y0+x1*y1+x2*y2))) 1073741824∧dotH 30 [x0,x1,x2] [y0,y1,y2]=false:=by
 have m0:=a0.mul b0
 have m1:=a1.mul b1
 have m2:=a2.mul b2
 have i0:=inS_nb a0 (by omega)
 have i1:=inS_nb a1 (by omega)
 have i2:=inS_nb a2 (by omega)
 have j0:=inS_nb b0 (by omega)
 have j1:=inS_nb b1 (by omega)
 have j2:=inS_nb b2 (by omega)
 have e:dotS [x0,x1,x2] [y0,y1,y2]=x0*y0+x1*y1+x2*y2:=by
  simp only [dotS]
  rw [satV_S i0,satV_S i1,satV_S i2,satV_S j0,satV_S j1,satV_S j2]
  omega
 have f:dotFl [x0,x1,x2] [y0,y1,y2]=false:=by
  simp only [dotFl]
  rw [satH_S i0,satH_S i1,satH_S i2,satH_S j0,satH_S j1,satH_S j2]
  rfl
 have hb:=rn30 (x0*y0+x1*y1+x2*y2)
 have g:rndS (x0*y0+x1*y1+x2*y2) 30=rndV (x0*y0+x1*y1+x2*y2) 30∧rndH (x0*y0+x1*y1+x2*y2) 30=false:=by
  unfold nb at *
  unfold rndS rndH
  rw [if_neg (by decide),if_neg (by decide),show Int.toNat 30=30 from rfl,sat_in (by omega) (by omega),satH_in (by omega) (by omega)]
  exact ⟨rfl,by decide⟩
 constructor
 ·show nb (2*(rndS (dotS [x0,x1,x2] [y0,y1,y2]) 30*1073741824 - (x0*y0+x1*y1+x2*y2))) 1073741824
  rw [e,g.1];exact hb
 ·show (dotFl [x0,x1,x2] [y0,y1,y2]||rndH (dotS [x0,x1,x2] [y0,y1,y2]) 30)=false
  rw [e,f,g.2];rfl
theorem mx_le (s0 s1 s2 s3:Int):nb (mx0 s0 s1 s2 s3) (n4 s0 s1 s2 s3)∧nb (mx1 s0 s1 s2 s3) (n4 s0 s1 s2 s3)∧nb (mx2 s0 s1 s2 s3) (n4 s0 s1 s2 s3)∧nb (mx3 s0 s1 s2 s3) (n4 s0 s1 s2 s3)∧nb (mx4 s0 s1 s2 s3) (n4 s0 s1 s2 s3)∧nb (mx5 s0 s1 s2 s3) (n4 s0 s1 s2 s3)∧nb (mx6 s0 s1 s2 s3) (n4 s0 s1 s2 s3)∧nb (mx7 s0 s1 s2 s3) (n4 s0 s1 s2 s3)∧nb (mx8 s0 s1 s2 s3) (n4 s0 s1 s2 s3):=by
 have q0:=sqnn0 s0
 have q1:=sqnn0 s1
 have q2:=sqnn0 s2
 have q3:=sqnn0 s3
 have am:∀a b:Int,nb (2*(a*b)) (a*a+b*b):=by
  intro a b
  have h1:=sqnn0 (a - b)
  have h2:=sqnn0 (a+b)
  have e1:(a - b)*(a - b)=a*a - 2*(a*b)+b*b:=by grind
  have e2:(a+b)*(a+b)=a*a+2*(a*b)+b*b:=by grind
  unfold nb;omega
 have p12:=am s1 s2
 have p03:=am s0 s3
 have p13:=am s1 s3
 have p02:=am s0 s2
 have p23:=am s2 s3
 have p01:=am s0 s1
 unfold nb at *
 unfold mx0 mx1 mx2 mx3 mx4 mx5 mx6 mx7 mx8 n4
 generalize s0*s0=a0 at *
 generalize s1*s1=a1 at *
 generalize s2*s2=a2 at *
 generalize s3*s3=a3 at *
 omega
theorem ent {m n M N:Int} (hm:nb (2*(m*1073741824 - M)) 1073741824) (hn:nb (2*(n*1073741824 - N)) 1073741824) (bM:nb M 1152921508365000000) (bN:nb N 1152921508365000000):
  nb (1152921504606846976*(m*n) - M*N) 1237940043700000000000000000:=by
 have a:=bM.mul hn
 have b:=bN.mul hm
 have c:=hm.mul hn
 have e:4*(1152921504606846976*(m*n) - M*N)=2*(M*(2*(n*1073741824 - N)))+2*(N*(2*(m*1073741824 - M)))+2*(m*1073741824 - M)*(2*(n*1073741824 - N)):=by grind
 unfold nb at *
 generalize M*(2*(n*1073741824 - N))=A at *
 generalize N*(2*(m*1073741824 - M))=B at *
 generalize 2*(m*1073741824 - M)*(2*(n*1073741824 - N))=C at *
 generalize 1152921504606846976*(m*n) - M*N=X at *
 omega
structure Cols (m0 m1 m2 m3 m4 m5 m6 m7 m8:Int):Prop where
 c00:nb (m0*m0+m3*m3+m6*m6 - 1152921504606846976) 11811160064
 c11:nb (m1*m1+m4*m4+m7*m7 - 1152921504606846976) 11811160064
 c22:nb (m2*m2+m5*m5+m8*m8 - 1152921504606846976) 11811160064
 c01:nb (m0*m1+m3*m4+m6*m7) 4294967296
 c02:nb (m0*m2+m3*m5+m6*m8) 4294967296
 c12:nb (m1*m2+m4*m5+m7*m8) 4294967296
 b0:nb m0 1073741830
 b1:nb m1 1073741830
 b2:nb m2 1073741830
 b3:nb m3 1073741830
 b4:nb m4 1073741830
 b5:nb m5 1073741830
 b6:nb m6 1073741830
 b7:nb m7 1073741830
 b8:nb m8 1073741830
theorem col_cancel {x a b c A B C k:Int} (h:x=a+b+c) (ea:nb (1152921504606846976*a - A) 1237940043700000000000000000) (eb:nb (1152921504606846976*b - B) 1237940043700000000000000000) (ec:nb (1152921504606846976*c - C) 1237940043700000000000000000) (hk:A+B+C=k):nb (1152921504606846976*x - k) 3713820131100000000000000000:=by
 subst h hk
 unfold nb at *;omega
theorem cols_ok {s0 s1 s2 s3:Int} (h:UnitQ s0 s1 s2 s3):Cols (rm0 s0 s1 s2 s3) (rm1 s0 s1 s2 s3) (rm2 s0 s1 s2 s3) (rm3 s0 s1 s2 s3) (rm4 s0 s1 s2 s3) (rm5 s0 s1 s2 s3) (rm6 s0 s1 s2 s3) (rm7 s0 s1 s2 s3) (rm8 s0 s1 s2 s3):=by
 obtain ⟨e0,e1,e2,e3,e4,e5,e6,e7,e8,-⟩:=rm_eq h.ha h.hb h.hc h.hd
 have hn:=h.hn
 obtain ⟨l0,l1,l2,l3,l4,l5,l6,l7,l8⟩:=mx_le s0 s1 s2 s3
 rw [e0,e1,e2,e3,e4,e5,e6,e7,e8]
 have hN:nb (n4 s0 s1 s2 s3 - 1152921504606846976) 3758096384:=by unfold nearU at hn;unfold nb;omega
 have hN2:n4 s0 s1 s2 s3≤1152921508365000000:=by unfold nb at hN;omega
 have i00:mx0 s0 s1 s2 s3*mx0 s0 s1 s2 s3+mx3 s0 s1 s2 s3*mx3 s0 s1 s2 s3+mx6 s0 s1 s2 s3*mx6 s0 s1 s2 s3=n4 s0 s1 s2 s3*n4 s0 s1 s2 s3:=by unfold mx0 mx3 mx6 n4;grind
 have i11:mx1 s0 s1 s2 s3*mx1 s0 s1 s2 s3+mx4 s0 s1 s2 s3*mx4 s0 s1 s2 s3+mx7 s0 s1 s2 s3*mx7 s0 s1 s2 s3=n4 s0 s1 s2 s3*n4 s0 s1 s2 s3:=by unfold mx1 mx4 mx7 n4;grind
 have i22:mx2 s0 s1 s2 s3*mx2 s0 s1 s2 s3+mx5 s0 s1 s2 s3*mx5 s0 s1 s2 s3+mx8 s0 s1 s2 s3*mx8 s0 s1 s2 s3=n4 s0 s1 s2 s3*n4 s0 s1 s2 s3:=by unfold mx2 mx5 mx8 n4;grind
 have i01:mx0 s0 s1 s2 s3*mx1 s0 s1 s2 s3+mx3 s0 s1 s2 s3*mx4 s0 s1 s2 s3+mx6 s0 s1 s2 s3*mx7 s0 s1 s2 s3=0:=by unfold mx0 mx1 mx3 mx4 mx6 mx7;grind
 have i02:mx0 s0 s1 s2 s3*mx2 s0 s1 s2 s3+mx3 s0 s1 s2 s3*mx5 s0 s1 s2 s3+mx6 s0 s1 s2 s3*mx8 s0 s1 s2 s3=0:=by unfold mx0 mx2 mx3 mx5 mx6 mx8;grind
 have i12:mx1 s0 s1 s2 s3*mx2 s0 s1 s2 s3+mx4 s0 s1 s2 s3*mx5 s0 s1 s2 s3+mx7 s0 s1 s2 s3*mx8 s0 s1 s2 s3=0:=by unfold mx1 mx2 mx4 mx5 mx7 mx8;grind
 have hNN:nb (n4 s0 s1 s2 s3*n4 s0 s1 s2 s3 - 1152921504606846976*1152921504606846976) 8665600000000000000000000000:=by
  have p:=hN.mul hN
  have e:n4 s0 s1 s2 s3*n4 s0 s1 s2 s3 - 1152921504606846976*1152921504606846976=(n4 s0 s1 s2 s3 - 1152921504606846976)*(n4 s0 s1 s2 s3 - 1152921504606846976)+2305843009213693952*(n4 s0 s1 s2 s3 - 1152921504606846976):=by grind
  rw [e]
  generalize (n4 s0 s1 s2 s3 - 1152921504606846976)*(n4 s0 s1 s2 s3 - 1152921504606846976)=X at *
  generalize n4 s0 s1 s2 s3 - 1152921504606846976=Y at *
  unfold nb at *;omega
 generalize n4 s0 s1 s2 s3*n4 s0 s1 s2 s3=NN at *
 have r0:=rn30 (mx0 s0 s1 s2 s3)
 have r1:=rn30 (mx1 s0 s1 s2 s3)
 have r2:=rn30 (mx2 s0 s1 s2 s3)
 have r3:=rn30 (mx3 s0 s1 s2 s3)
 have r4:=rn30 (mx4 s0 s1 s2 s3)
 have r5:=rn30 (mx5 s0 s1 s2 s3)
 have r6:=rn30 (mx6 s0 s1 s2 s3)
 have r7:=rn30 (mx7 s0 s1 s2 s3)
 have r8:=rn30 (mx8 s0 s1 s2 s3)
 have L0:=l0.le hN2
 have L1:=l1.le hN2
 have L2:=l2.le hN2
 have L3:=l3.le hN2
 have L4:=l4.le hN2
 have L5:=l5.le hN2
 have L6:=l6.le hN2
 have L7:=l7.le hN2
 have L8:=l8.le hN2
 clear l0 l1 l2 l3 l4 l5 l6 l7 l8
 have bd:∀{m M:Int},nb (2*(m*1073741824 - M)) 1073741824→nb M 1152921508365000000→nb m 1073741830:=by
  intro m M h1 h2;unfold nb at *;omega
 have dg:∀{x k:Int},nb (1152921504606846976*x - k) 3713820131100000000000000000→nb (k - 1152921504606846976*1152921504606846976) 8665600000000000000000000000→nb (x - 1152921504606846976) 11811160064:=by
  intro x k h1 h2;unfold nb at *;omega
 have og:∀{x:Int},nb (1152921504606846976*x - 0) 3713820131100000000000000000→nb x 4294967296:=by
  intro x h1;unfold nb at *;omega
 exact ⟨dg (col_cancel rfl (ent r0 r0 L0 L0) (ent r3 r3 L3 L3) (ent r6 r6 L6 L6) i00) hNN,dg (col_cancel rfl (ent r1 r1 L1 L1) (ent r4 r4 L4 L4) (ent r7 r7 L7 L7) i11) hNN,dg (col_cancel rfl (ent r2 r2 L2 L2) (ent r5 r5 L5 L5) (ent r8 r8 L8 L8) i22) hNN,
  og (col_cancel rfl (ent r0 r1 L0 L1) (ent r3 r4 L3 L4) (ent r6 r7 L6 L7) i01),og (col_cancel rfl (ent r0 r2 L0 L2) (ent r3 r5 L3 L5) (ent r6 r8 L6 L8) i02),og (col_cancel rfl (ent r1 r2 L1 L2) (ent r4 r5 L4 L5) (ent r7 r8 L7 L8) i12),
  bd r0 L0,bd r1 L1,bd r2 L2,bd r3 L3,bd r4 L4,bd r5 L5,bd r6 L6,bd r7 L7,bd r8 L8⟩
theorem norm_turn {m0 m1 m2 m3 m4 m5 m6 m7 m8 v0 v1 v2 w0 w1 w2:Int} (hc:Cols m0 m1 m2 m3 m4 m5 m6 m7 m8) (hv0:nb v0 1099511627776) (hv1:nb v1 1099511627776) (hv2:nb v2 1099511627776) (gw0:nb w0 4398046511104) (gw1:nb w1 4398046511104) (gw2:nb w2 4398046511104)
  (hw0:nb (2*(w0*1073741824 - (m0*v0+m1*v1+m2*v2))) 1073741824) (hw1:nb (2*(w1*1073741824 - (m3*v0+m4*v1+m5*v2))) 1073741824) (hw2:nb (2*(w2*1073741824 - (m6*v0+m7*v1+m8*v2))) 1073741824):
  nb (1073741824*(w0*w0+w1*w1+w2*w2 - (v0*v0+v1*v1+v2*v2))) (20*(v0*v0+v1*v1+v2*v2)+1073741824*(w0.natAbs+w1.natAbs+w2.natAbs)+4294967296):=by
 have q0:=sqnn0 v0
 have q1:=sqnn0 v1
 have q2:=sqnn0 v2
 have am:∀a b:Int,nb (2*(a*b)) (a*a+b*b):=by
  intro a b
  have h1:=sqnn0 (a - b)
  have h2:=sqnn0 (a+b)
  have e1:(a - b)*(a - b)=a*a - 2*(a*b)+b*b:=by grind
  have e2:(a+b)*(a+b)=a*a+2*(a*b)+b*b:=by grind
  unfold nb;omega
 have f0:=hc.c00.mul (show nb (v0*v0) (v0*v0) by unfold nb;omega)
 have f1:=hc.c11.mul (show nb (v1*v1) (v1*v1) by unfold nb;omega)
 have f2:=hc.c22.mul (show nb (v2*v2) (v2*v2) by unfold nb;omega)
 have g01:=hc.c01.mul (am v0 v1)
 have g02:=hc.c02.mul (am v0 v2)
 have g12:=hc.c12.mul (am v1 v2)
 have sq:∀{w S:Int},nb (2*(w*1073741824 - S)) 1073741824→nb (1152921504606846976*(w*w) - S*S) (1152921504606846976*w.natAbs+1152921504606846976):=by
  intro w S h
  have hw:nb w w.natAbs:=by unfold nb;omega
  have p:=hw.mul h
  have p2:=h.mul h
  have e:4*(1152921504606846976*(w*w) - S*S)=4294967296*(w*(2*(w*1073741824 - S))) - 2*(w*1073741824 - S)*(2*(w*1073741824 - S)):=by grind
  generalize (w.natAbs:Int)=n at *
  have hn:0≤n:=by unfold nb at hw;omega
  unfold nb at *
  generalize w*(2*(w*1073741824 - S))=A at *
  generalize 2*(w*1073741824 - S)*(2*(w*1073741824 - S))=B at *
  generalize 1152921504606846976*(w*w) - S*S=X at *
  omega
 have s0:=sq hw0
 have s1:=sq hw1
 have s2:=sq hw2
 have e:(m0*v0+m1*v1+m2*v2)*(m0*v0+m1*v1+m2*v2)+(m3*v0+m4*v1+m5*v2)*(m3*v0+m4*v1+m5*v2)+(m6*v0+m7*v1+m8*v2)*(m6*v0+m7*v1+m8*v2)
   = 1152921504606846976*(v0*v0+v1*v1+v2*v2)+(m0*m0+m3*m3+m6*m6 - 1152921504606846976)*(v0*v0)+(m1*m1+m4*m4+m7*m7 - 1152921504606846976)*(v1*v1)+(m2*m2+m5*m5+m8*m8 - 1152921504606846976)*(v2*v2)
    + (m0*m1+m3*m4+m6*m7)*(2*(v0*v1))+(m0*m2+m3*m5+m6*m8)*(2*(v0*v2))+(m1*m2+m4*m5+m7*m8)*(2*(v1*v2)):=by grind
 generalize (m0*v0+m1*v1+m2*v2)*(m0*v0+m1*v1+m2*v2)=S0 at *
 generalize (m3*v0+m4*v1+m5*v2)*(m3*v0+m4*v1+m5*v2)=S1 at *
 generalize (m6*v0+m7*v1+m8*v2)*(m6*v0+m7*v1+m8*v2)=S2 at *
 generalize (m0*m0+m3*m3+m6*m6 - 1152921504606846976)*(v0*v0)=F0 at *
 generalize (m1*m1+m4*m4+m7*m7 - 1152921504606846976)*(v1*v1)=F1 at *
 generalize (m2*m2+m5*m5+m8*m8 - 1152921504606846976)*(v2*v2)=F2 at *
 generalize (m0*m1+m3*m4+m6*m7)*(2*(v0*v1))=G01 at *
 generalize (m0*m2+m3*m5+m6*m8)*(2*(v0*v2))=G02 at *
 generalize (m1*m2+m4*m5+m7*m8)*(2*(v1*v2))=G12 at *
 generalize v0*v0=V0 at *
 generalize v1*v1=V1 at *
 generalize v2*v2=V2 at *
 generalize w0*w0=W0 at *
 generalize w1*w1=W1 at *
 generalize w2*w2=W2 at *
 clear hw0 hw1 hw2 hc sq am
 unfold nb at *
 generalize (w0.natAbs:Int)=N0 at *
 generalize (w1.natAbs:Int)=N1 at *
 generalize (w2.natAbs:Int)=N2 at *
 omega
end Go.Proofs.YtfepmlklbapfiaaGreat

/- The matrix of a product, a vector turned twice. Plain. -/
namespace Go.Proofs.YtfepmlklbapfiaaGreat
open Go.Lr Go.Tg
set_option linter.unusedVariables false
set_option linter.unusedSimpArgs false
end Go.Proofs.YtfepmlklbapfiaaGreat

/- Tilts: a vector brought upright. Plain. -/
namespace Go.Proofs.YtfepmlklbapfiaaGreat
open Go.Lr Go.Tg
set_option linter.unusedVariables false
set_option linter.unusedSimpArgs false
theorem two_pass {x t q n m:Int} (h1:nb (2*(t*n - x*1073741824)) n) (h2:nb (2*(q*m - t*1073741824)) m) (hn:0≤n):nb (2*(n*m*q - 1152921504606846976*x)) (n*m+1073741824*n):=by
 have e:2*(n*m*q - 1152921504606846976*x)=n*(2*(q*m - t*1073741824))+1073741824*(2*(t*n - x*1073741824)):=by grind
 rw [e]
 exact (h2.lmul hn).add (h1.lmul (by omega))
theorem sq_pass {x t n:Int} (h:nb (2*(t*n - x*1073741824)) n) (hx:nb x n) (hn:1≤n):nb (4*(n*n*(t*t) - 1152921504606846976*(x*x))) (5*1073741824*(n*n)):=by
 have e:4*(n*n*(t*t) - 1152921504606846976*(x*x))=4*1073741824*(x*(2*(t*n - x*1073741824)))+2*(t*n - x*1073741824)*(2*(t*n - x*1073741824)):=by grind
 have p:=hx.mul h
 have q:=h.mul h
 rw [e]
 generalize x*(2*(t*n - x*1073741824))=A at *
 generalize 2*(t*n - x*1073741824)*(2*(t*n - x*1073741824))=B at *
 generalize n*n=C at *
 unfold nb at *;omega
theorem m_bounds {n m N:Int} (hn:17≤n) (hm:0≤m) (hN0:n*n - n+1≤N) (hN1:N≤n*n+n) (h:nb (n*n*(m*m) - 1152921504606846976*N) (n*n*(m+4*1073741824))):1030792152≤m∧m≤1116691497:=by
 have p17:17*n≤n*n:=Int.mul_le_mul_of_nonneg_right hn (by omega)
 have e:n*n*(m+4*1073741824)=n*n*m+4*1073741824*(n*n):=by grind
 rw [e] at h
 constructor
 ·rcases Int.lt_or_le m 1030792152 with g | g
  ·exfalso
   have q:m*(m+1)≤1030792152*1030792153:=Int.mul_le_mul (by omega) (by omega) (by omega) (by omega)
   have q2:n*n*(m*(m+1))≤n*n*(1030792152*1030792153):=Int.mul_le_mul_of_nonneg_left q (by omega)
   have e2:n*n*(m*(m+1))=n*n*(m*m)+n*n*m:=by grind
   generalize n*n*(m*(m+1))=X1 at *
   generalize n*n*(m*m)=X2 at *
   generalize n*n*m=X3 at *
   generalize n*n=P at *
   unfold nb at h;omega
  ·exact g
 ·rcases Int.lt_or_le 1116691497 m with g | g
  ·exfalso
   have q:1116691498*1116691497≤m*(m - 1):=Int.mul_le_mul (by omega) (by omega) (by omega) (by omega)
   have q2:n*n*(1116691498*1116691497)≤n*n*(m*(m - 1)):=Int.mul_le_mul_of_nonneg_left q (by omega)
   have e2:n*n*(m*(m - 1))=n*n*(m*m) - n*n*m:=by grind
   generalize n*n*(m*(m - 1))=X1 at *
   generalize n*n*(m*m)=X2 at *
   generalize n*n*m=X3 at *
   generalize n*n=P at *
   unfold nb at h;omega
  ·exact g
structure TwoPass (x0 x1 x2 q0 q1 q2 n m:Int):Prop where
 hn:17≤n
 m0:1030792152≤m
 m1:m≤1116691497
 b0:nb x0 n
 b1:nb x1 n
 b2:nb x2 n
 N0:n*n - n+1≤x0*x0+x1*x1+x2*x2
 N1:x0*x0+x1*x1+x2*x2≤n*n+n
 d0:nb (2*(n*m*q0 - 1152921504606846976*x0)) (n*m+1073741824*n)
 d1:nb (2*(n*m*q1 - 1152921504606846976*x1)) (n*m+1073741824*n)
 d2:nb (2*(n*m*q2 - 1152921504606846976*x2)) (n*m+1073741824*n)
 hM:nb (n*n*(m*m) - 1152921504606846976*(x0*x0+x1*x1+x2*x2)) (n*n*(m+4*1073741824))
theorem tz (d:Int):divPV 0 d 30=0:=by
 have e:pow2 (Int.toNat 30)=1073741824:=rfl
 have s0:satV 0=0:=by rw [sat_in (by omega) (by omega)]
 unfold divPV byV
 rw [if_neg (by decide),if_neg (by decide),e,s0,Int.zero_mul]
 by_cases h:satV d=0
 ·rw [if_pos h,if_pos rfl]
 ·rw [if_neg h]
  have:divV 0 (satV d)=0:=by
   unfold divV
   rw [show absV 0=0 from rfl,quoR_zero (by unfold absV;split <;> omega)]
   unfold sgn;split <;> rfl
  rw [this];exact s0
theorem two_ok {x0 x1 x2:Int} (h0:17≤x0) (h0':x0≤2147483648) (h1:nb x1 2147483648) (h2:nb x2 2147483648):
  ∃n m,TwoPass x0 x1 x2 (uV0 x0 x1 x2 0) (uV1 x0 x1 x2 0) (uV2 x0 x1 x2 0) n m∧uV3 x0 x1 x2 0=0:=by
 have i0:inS x0:=by unfold inS;omega
 have i1:=inS_nb h1 (by omega)
 have i2:=inS_nb h2 (by omega)
 have i3:inS 0:=by unfold inS;omega
 have en:n4 x0 x1 x2 0=x0*x0+x1*x1+x2*x2:=by unfold n4;omega
 have t0:=sqnn0 x0
 have t1:=sqnn0 x1
 have t2:=sqnn0 x2
 have g0:17*17≤x0*x0:=Int.mul_le_mul (by omega) (by omega) (by omega) (by omega)
 have hN:1≤n4 x0 x1 x2 0:=by rw [en];omega
 have l0:x0*x0≤2147483648*2147483648:=Int.mul_le_mul (by omega) (by omega) (by omega) (by omega)
 have l1:=(h1.mul h1).2
 have l2:=(h2.mul h2).2
 have hz:uZ x0 x1 x2 0=false:=by
  rcases bool_cases (uZ x0 x1 x2 0) with g | g
  ·exfalso
   unfold uZ at g
   rw [satV_S i0,satV_S i1,satV_S i2,satV_S i3] at g
   simp only [Bool.and_eq_true,Bool.and_true,beq_iff_eq] at g
   omega
  ·exact g
 unfold uV0 uV1 uV2 uV3
 rw [cond_f hz,cond_f hz,cond_f hz,cond_f hz,satV_S i0,satV_S i1,satV_S i2,satV_S i3]
 unfold uE
 obtain ⟨m0,mA,mB,mC,mD,m1,m2⟩:=hyp4 i0 i1 i2 i3 hN
 obtain ⟨m3,-⟩:=m2 (by rw [en];omega)
 have p1:=pass1 m0.1 m0.2 mA mB mC mD m1
 obtain ⟨a1,a2,-⟩:=dpass mA.1 mA.2 m0.1 m0.2
 obtain ⟨b1,b2,-⟩:=dpass mB.1 mB.2 m0.1 m0.2
 obtain ⟨c1,c2,-⟩:=dpass mC.1 mC.2 m0.1 m0.2
 rw [tz] at *
 rw [en] at m1 m3
 generalize hypV [x0,x1,x2,0]=n at *
 obtain ⟨k0,kA,kB,kC,kD,k1,k2⟩:=hyp4 (inS_bd a2) (inS_bd b2) (inS_bd c2) i3 (by omega)
 have le:=n4_le a2 b2 c2 (show -1073741824≤(0:Int)∧(0:Int)≤1073741824 by omega)
 obtain ⟨k3,-⟩:=k2 (by omega)
 obtain ⟨e1,e2,-⟩:=dpass kA.1 kA.2 k0.1 k0.2
 obtain ⟨f1,f2,-⟩:=dpass kB.1 kB.2 k0.1 k0.2
 obtain ⟨g1,g2,-⟩:=dpass kC.1 kC.2 k0.1 k0.2
 generalize divPV x0 n 30=s0 at *
 generalize divPV x1 n 30=s1 at *
 generalize divPV x2 n 30=s2 at *
 have et:n4 s0 s1 s2 0=s0*s0+s1*s1+s2*s2:=by unfold n4;omega
 rw [et] at k1 k3
 generalize hypV [s0,s1,s2,0]=m at *
 have v0:=sq_pass a1 (show nb x0 n by unfold nb;omega) m0.1
 have v1:=sq_pass b1 (show nb x1 n by unfold nb;omega) m0.1
 have v2:=sq_pass c1 (show nb x2 n by unfold nb;omega) m0.1
 have hM:nb (n*n*(m*m) - 1152921504606846976*(x0*x0+x1*x1+x2*x2)) (n*n*(m+4*1073741824)):=by
  have pn:=sqnn0 n
  have r0:n*n*(m*m - m+1)≤n*n*(s0*s0+s1*s1+s2*s2):=Int.mul_le_mul_of_nonneg_left k1 pn
  have r1:n*n*(s0*s0+s1*s1+s2*s2)≤n*n*(m*m+m):=Int.mul_le_mul_of_nonneg_left k3 pn
  have q0:n*n*(m*m - m+1)=n*n*(m*m) - n*n*m+n*n:=by grind
  have q1:n*n*(m*m+m)=n*n*(m*m)+n*n*m:=by grind
  have q2:n*n*(s0*s0+s1*s1+s2*s2)=n*n*(s0*s0)+n*n*(s1*s1)+n*n*(s2*s2):=by grind
  have q3:n*n*(m+4*1073741824)=n*n*m+4*1073741824*(n*n):=by grind
  rw [q0,q2] at r0
  rw [q1,q2] at r1
  rw [q3]
  clear q0 q1 q2 q3 m1 m3 k1 k3 l0 l1 l2 p1 le en et hN a1 b1 c1 e1 f1 g1 g0
  generalize n*n*(m*m)=X0 at *
  generalize n*n*m=X1 at *
  generalize n*n*(s0*s0)=X2 at *
  generalize n*n*(s1*s1)=X3 at *
  generalize n*n*(s2*s2)=X4 at *
  generalize n*n=X5 at *
  unfold nb at *
  omega
 obtain ⟨w0,w1⟩:=m_bounds (by omega) (by omega) m1 m3 hM
 exact ⟨n,m,⟨by omega,w0,w1,by unfold nb;omega,by unfold nb;omega,by unfold nb;omega,m1,m3,two_pass a1 e1 (by omega),two_pass b1 f1 (by omega),two_pass c1 g1 (by omega),hM⟩,tz _⟩
theorem nb_eq {a b k:Int} (h:nb b k) (e:a=b):nb a k:=by rw [e];exact h
theorem xd_bd {x d n m:Int} (hn:17≤n) (m0:1030792152≤m) (hx:nb x n) (hd:nb (2*d) (n*m+1073741824*n)):nb (1073741824*(x*d)) (2*(n*m*(n*m)))∧nb (20*d) (21*(n*m)):=by
 have un:100*(1073741824*n)≤105*(n*m):=by
  have:n*(100*1073741824)≤n*(105*m):=Int.mul_le_mul_of_nonneg_left (by omega) (by omega)
  have e1:n*(105*m)=105*(n*m):=by grind
  have e2:n*(100*1073741824)=100*(1073741824*n):=by grind
  omega
 have hd2:nb (20*d) (21*(n*m)):=by
  have pk:0≤n*m:=Int.mul_nonneg (by omega) (by omega)
  generalize n*m=K at *
  unfold nb at *;omega
 refine ⟨?_,hd2⟩
 have p:=hx.mul hd2
 have p2:=p.lmul (show (0:Int)≤1073741824 by omega)
 have r:(105*(n*m))*(n*m)≥(100*(1073741824*n))*(n*m):=Int.mul_le_mul_of_nonneg_right un (Int.mul_nonneg (by omega) (by omega))
 have e1:1073741824*(x*(20*d))=20*(1073741824*(x*d)):=by grind
 have e2:1073741824*(n*(21*(n*m)))=21*(1073741824*n*(n*m)):=by grind
 have e3:(105*(n*m))*(n*m)=105*(n*m*(n*m)):=by grind
 have e4:(100*(1073741824*n))*(n*m)=100*(1073741824*n*(n*m)):=by grind
 rw [e1,e2] at p2
 rw [e3,e4] at r
 have pk:0≤n*m*(n*m):=sqnn0 _
 clear p un hd hd2 hx e1 e2 e3 e4
 generalize 1073741824*(x*d)=X at *
 generalize 1073741824*n*(n*m)=Y at *
 generalize n*m*(n*m)=Z at *
 unfold nb at *;omega
theorem dd_bd {c d K:Int} (hc:nb (20*c) (21*K)) (hd:nb (20*d) (21*K)):nb (c*d) (2*(K*K)):=by
 have p:=hc.mul hd
 have e1:20*c*(20*d)=400*(c*d):=by grind
 have e2:21*K*(21*K)=441*(K*K):=by grind
 rw [e1,e2] at p
 have:=sqnn0 K
 generalize c*d=X at *
 generalize K*K=Y at *
 unfold nb at *;omega
theorem qd_sq {q x d K P:Int} (hP:K*K=P) (hd:d=K*q - 1152921504606846976*x) (h:nb (1073741824*(x*d)) (2*P)) (g:nb (d*d) (2*P)):nb (P*(q*q) - 1329227995784915872903807060280344576*(x*x)) (4*(1073741824*P)+2*P):=by
 have e:P*(q*q) - 1329227995784915872903807060280344576*(x*x)=2*(1073741824*(1073741824*(x*d)))+d*d:=by subst hP hd;grind
 rw [e]
 generalize 1073741824*(x*d)=X at *
 generalize d*d=Y at *
 unfold nb at *;omega
theorem qd_xy {p q x y c d K P:Int} (hP:K*K=P) (hc:c=K*p - 1152921504606846976*x) (hd:d=K*q - 1152921504606846976*y) (h0:nb (1073741824*(x*d)) (2*P)) (h1:nb (1073741824*(y*c)) (2*P)) (g:nb (c*d) (2*P)):nb (P*(p*q) - 1329227995784915872903807060280344576*(x*y)) (4*(1073741824*P)+2*P):=by
 have e:P*(p*q) - 1329227995784915872903807060280344576*(x*y)=1073741824*(1073741824*(x*d))+1073741824*(1073741824*(y*c))+c*d:=by subst hP hc hd;grind
 rw [e]
 generalize 1073741824*(x*d)=X at *
 generalize 1073741824*(y*c)=Y at *
 generalize c*d=Z at *
 unfold nb at *;omega
theorem mx_two {x0 x1 x2 q0 q1 q2 n m:Int} (h:TwoPass x0 x1 x2 q0 q1 q2 n m):
  nb (n*m*(n*m)*mx0 q0 q1 q2 0 - 1329227995784915872903807060280344576*mx0 x0 x1 x2 0) (13*(1073741824*(n*m*(n*m))))∧nb (n*m*(n*m)*mx1 q0 q1 q2 0 - 1329227995784915872903807060280344576*mx1 x0 x1 x2 0) (13*(1073741824*(n*m*(n*m))))∧nb (n*m*(n*m)*mx2 q0 q1 q2 0 - 1329227995784915872903807060280344576*mx2 x0 x1 x2 0) (13*(1073741824*(n*m*(n*m))))∧nb (n*m*(n*m)*mx3 q0 q1 q2 0 - 1329227995784915872903807060280344576*mx3 x0 x1 x2 0) (13*(1073741824*(n*m*(n*m))))∧nb (n*m*(n*m)*mx4 q0 q1 q2 0 - 1329227995784915872903807060280344576*mx4 x0 x1 x2 0) (13*(1073741824*(n*m*(n*m))))∧nb (n*m*(n*m)*mx5 q0 q1 q2 0 - 1329227995784915872903807060280344576*mx5 x0 x1 x2 0) (13*(1073741824*(n*m*(n*m))))∧nb (n*m*(n*m)*mx6 q0 q1 q2 0 - 1329227995784915872903807060280344576*mx6 x0 x1 x2 0) (13*(1073741824*(n*m*(n*m))))∧nb (n*m*(n*m)*mx7 q0 q1 q2 0 - 1329227995784915872903807060280344576*mx7 x0 x1 x2 0) (13*(1073741824*(n*m*(n*m))))∧nb (n*m*(n*m)*mx8 q0 q1 q2 0 - 1329227995784915872903807060280344576*mx8 x0 x1 x2 0) (13*(1073741824*(n*m*(n*m)))):=by
 have s00:=(xd_bd h.hn h.m0 h.b0 h.d0).1
 have s01:=(xd_bd h.hn h.m0 h.b0 h.d1).1
 have s02:=(xd_bd h.hn h.m0 h.b0 h.d2).1
 have t0:=(xd_bd h.hn h.m0 h.b0 h.d0).2
 have s10:=(xd_bd h.hn h.m0 h.b1 h.d0).1
 have s11:=(xd_bd h.hn h.m0 h.b1 h.d1).1
 have s12:=(xd_bd h.hn h.m0 h.b1 h.d2).1
 have t1:=(xd_bd h.hn h.m0 h.b1 h.d1).2
 have s20:=(xd_bd h.hn h.m0 h.b2 h.d0).1
 have s21:=(xd_bd h.hn h.m0 h.b2 h.d1).1
 have s22:=(xd_bd h.hn h.m0 h.b2 h.d2).1
 have t2:=(xd_bd h.hn h.m0 h.b2 h.d2).2
 have g00:=dd_bd t0 t0
 have g11:=dd_bd t1 t1
 have g22:=dd_bd t2 t2
 have g01:=dd_bd t0 t1
 have g02:=dd_bd t0 t2
 have g12:=dd_bd t1 t2
 have y0:=qd_sq (q:=q0) rfl rfl s00 g00
 have y1:=qd_sq (q:=q1) rfl rfl s11 g11
 have y2:=qd_sq (q:=q2) rfl rfl s22 g22
 have z01:=qd_xy (p:=q0) (q:=q1) rfl rfl rfl s01 s10 g01
 have z02:=qd_xy (p:=q0) (q:=q2) rfl rfl rfl s02 s20 g02
 have z12:=qd_xy (p:=q1) (q:=q2) rfl rfl rfl s12 s21 g12
 have pk:0≤n*m*(n*m):=sqnn0 _
 clear s00 s01 s02 s10 s11 s12 s20 s21 s22 t0 t1 t2 g00 g11 g22 g01 g02 g12 h
 unfold mx0 mx1 mx2 mx3 mx4 mx5 mx6 mx7 mx8
 generalize n*m*(n*m)=P at *
 refine ⟨?_, ?_, ?_, ?_, ?_, ?_, ?_, ?_, ?_⟩
 ·refine nb_eq (b:=(P*(q0*q0) - 1329227995784915872903807060280344576*(x0*x0))+(P*(q1*q1) - 1329227995784915872903807060280344576*(x1*x1)) - (P*(q2*q2) - 1329227995784915872903807060280344576*(x2*x2))) ?_ (by grind)
  clear z01 z02 z12
  generalize P*(q0*q0) - 1329227995784915872903807060280344576*(x0*x0)=G0 at *
  generalize P*(q1*q1) - 1329227995784915872903807060280344576*(x1*x1)=G1 at *
  generalize P*(q2*q2) - 1329227995784915872903807060280344576*(x2*x2)=G2 at *
  unfold nb at *;omega
 ·refine nb_eq (b:=2*(P*(q1*q2) - 1329227995784915872903807060280344576*(x1*x2))) ?_ (by grind)
  clear y0 y1 y2 z01 z02
  generalize P*(q1*q2) - 1329227995784915872903807060280344576*(x1*x2)=G0 at *
  unfold nb at *;omega
 ·refine nb_eq (b:=2*(P*(q0*q2) - 1329227995784915872903807060280344576*(x0*x2))) ?_ (by grind)
  clear y0 y1 y2 z01 z12
  generalize P*(q0*q2) - 1329227995784915872903807060280344576*(x0*x2)=G0 at *
  unfold nb at *;omega
 ·refine nb_eq (b:=2*(P*(q1*q2) - 1329227995784915872903807060280344576*(x1*x2))) ?_ (by grind)
  clear y0 y1 y2 z01 z02
  generalize P*(q1*q2) - 1329227995784915872903807060280344576*(x1*x2)=G0 at *
  unfold nb at *;omega
 ·refine nb_eq (b:=(P*(q0*q0) - 1329227995784915872903807060280344576*(x0*x0)) - (P*(q1*q1) - 1329227995784915872903807060280344576*(x1*x1))+(P*(q2*q2) - 1329227995784915872903807060280344576*(x2*x2))) ?_ (by grind)
  clear z01 z02 z12
  generalize P*(q0*q0) - 1329227995784915872903807060280344576*(x0*x0)=G0 at *
  generalize P*(q1*q1) - 1329227995784915872903807060280344576*(x1*x1)=G1 at *
  generalize P*(q2*q2) - 1329227995784915872903807060280344576*(x2*x2)=G2 at *
  unfold nb at *;omega
 ·refine nb_eq (b:= -2*(P*(q0*q1) - 1329227995784915872903807060280344576*(x0*x1))) ?_ (by grind)
  clear y0 y1 y2 z02 z12
  generalize P*(q0*q1) - 1329227995784915872903807060280344576*(x0*x1)=G0 at *
  unfold nb at *;omega
 ·refine nb_eq (b:= -2*(P*(q0*q2) - 1329227995784915872903807060280344576*(x0*x2))) ?_ (by grind)
  clear y0 y1 y2 z01 z12
  generalize P*(q0*q2) - 1329227995784915872903807060280344576*(x0*x2)=G0 at *
  unfold nb at *;omega
 ·refine nb_eq (b:=2*(P*(q0*q1) - 1329227995784915872903807060280344576*(x0*x1))) ?_ (by grind)
  clear y0 y1 y2 z02 z12
  generalize P*(q0*q1) - 1329227995784915872903807060280344576*(x0*x1)=G0 at *
  unfold nb at *;omega
 ·refine nb_eq (b:=(P*(q0*q0) - 1329227995784915872903807060280344576*(x0*x0)) - (P*(q1*q1) - 1329227995784915872903807060280344576*(x1*x1)) - (P*(q2*q2) - 1329227995784915872903807060280344576*(x2*x2))) ?_ (by grind)
  clear z01 z02 z12
  generalize P*(q0*q0) - 1329227995784915872903807060280344576*(x0*x0)=G0 at *
  generalize P*(q1*q1) - 1329227995784915872903807060280344576*(x1*x1)=G1 at *
  generalize P*(q2*q2) - 1329227995784915872903807060280344576*(x2*x2)=G2 at *
  unfold nb at *;omega
theorem rowK {A0 A1 A2 B0 B1 B2 u0 u1 u2 P:Int} (h0:nb (P*A0 - 1329227995784915872903807060280344576*B0) (13*(1073741824*P))) (h1:nb (P*A1 - 1329227995784915872903807060280344576*B1) (13*(1073741824*P))) (h2:nb (P*A2 - 1329227995784915872903807060280344576*B2) (13*(1073741824*P))) (g0:nb u0 1073741824) (g1:nb u1 1073741824) (g2:nb u2 1073741824):
  nb (P*(A0*u0+A1*u1+A2*u2) - 1329227995784915872903807060280344576*(B0*u0+B1*u1+B2*u2)) (39*(1152921504606846976*P)):=by
 have e:P*(A0*u0+A1*u1+A2*u2) - 1329227995784915872903807060280344576*(B0*u0+B1*u1+B2*u2)=(P*A0 - 1329227995784915872903807060280344576*B0)*u0+(P*A1 - 1329227995784915872903807060280344576*B1)*u1+(P*A2 - 1329227995784915872903807060280344576*B2)*u2:=by grind
 rw [e]
 have p0:=h0.mul g0
 have p1:=h1.mul g1
 have p2:=h2.mul g2
 clear h0 h1 h2 e
 generalize (P*A0 - 1329227995784915872903807060280344576*B0)*u0=X0 at *
 generalize (P*A1 - 1329227995784915872903807060280344576*B1)*u1=X1 at *
 generalize (P*A2 - 1329227995784915872903807060280344576*B2)*u2=X2 at *
 unfold nb at *;omega
theorem dotX {m0 m1 m2 A0 A1 A2 u0 u1 u2 z:Int} (h0:nb (2*(m0*1073741824 - A0)) 1073741824) (h1:nb (2*(m1*1073741824 - A1)) 1073741824) (h2:nb (2*(m2*1073741824 - A2)) 1073741824) (g0:nb u0 1073741824) (g1:nb u1 1073741824) (g2:nb u2 1073741824) (hz:nb (2*(z*1073741824 - (m0*u0+m1*u1+m2*u2))) 1073741824):
  nb (1152921504606846976*z - (A0*u0+A1*u1+A2*u2)) (2*1152921504606846976):=by
 have e:2*(1152921504606846976*z - (A0*u0+A1*u1+A2*u2))=1073741824*(2*(z*1073741824 - (m0*u0+m1*u1+m2*u2)))+2*(m0*1073741824 - A0)*u0+2*(m1*1073741824 - A1)*u1+2*(m2*1073741824 - A2)*u2:=by grind
 have p0:=h0.mul g0
 have p1:=h1.mul g1
 have p2:=h2.mul g2
 generalize 2*(m0*1073741824 - A0)*u0=X0 at *
 generalize 2*(m1*1073741824 - A1)*u1=X1 at *
 generalize 2*(m2*1073741824 - A2)*u2=X2 at *
 generalize 2*(z*1073741824 - (m0*u0+m1*u1+m2*u2))=Z at *
 generalize 1152921504606846976*z - (A0*u0+A1*u1+A2*u2)=Y at *
 clear h0 h1 h2
 unfold nb at *;omega
theorem dotK {P X Y z:Int} (hP:0≤P) (h:nb (1152921504606846976*z - X) (2*1152921504606846976)) (g:nb (P*X - 1329227995784915872903807060280344576*Y) (39*(1152921504606846976*P))):nb (1152921504606846976*(P*z) - 1329227995784915872903807060280344576*Y) (41*(1152921504606846976*P)):=by
 have p:=h.lmul hP
 have e:1152921504606846976*(P*z) - 1329227995784915872903807060280344576*Y=P*(1152921504606846976*z - X)+(P*X - 1329227995784915872903807060280344576*Y):=by grind
 rw [e]
 generalize P*(1152921504606846976*z - X)=A at *
 generalize P*X - 1329227995784915872903807060280344576*Y=B at *
 unfold nb at *;omega
theorem tilt_row (u0 u1 u2:Int):
  mx0 (1073741824 - u2) (-u1) u0 0*u0+mx1 (1073741824 - u2) (-u1) u0 0*u1+mx2 (1073741824 - u2) (-u1) u0 0*u2 = -((u0*u0+u1*u1+u2*u2 - 1152921504606846976)*u0)∧
  mx3 (1073741824 - u2) (-u1) u0 0*u0+mx4 (1073741824 - u2) (-u1) u0 0*u1+mx5 (1073741824 - u2) (-u1) u0 0*u2 = -((u0*u0+u1*u1+u2*u2 - 1152921504606846976)*u1)∧
  mx6 (1073741824 - u2) (-u1) u0 0*u0+mx7 (1073741824 - u2) (-u1) u0 0*u1+mx8 (1073741824 - u2) (-u1) u0 0*u2 = -(1073741824*((1073741824 - u2)*(1073741824 - u2) + -u1 * -u1+u0*u0)+(u0*u0+u1*u1+u2*u2 - 1152921504606846976)*(1073741824 - u2)):=by
 unfold mx0 mx1 mx2 mx3 mx4 mx5 mx6 mx7 mx8
 refine ⟨?_, ?_, ?_⟩ <;> grind
theorem lev_small {n m e u z:Int} (hn:40000000≤n) (m0:1030792152≤m) (he:nb e 72000000000) (hu:nb u n) (h:nb (1152921504606846976*(n*m*(n*m)*z) - 1329227995784915872903807060280344576 * -(e*u)) (41*(1152921504606846976*(n*m*(n*m))))):nb z 3100:=by
 have p:=he.mul hu
 have mm:1030792152*1030792152≤m*m:=Int.mul_le_mul m0 m0 (by omega) (by omega)
 have nn:40000000*n≤n*n:=Int.mul_le_mul_of_nonneg_right hn (by omega)
 have big:40000000*n*(1030792152*1030792152)≤n*n*(m*m):=Int.mul_le_mul nn mm (by omega) (by omega)
 have ek:n*m*(n*m)=n*n*(m*m):=by grind
 have pos:0<n*n*(m*m):=by omega
 rw [ek] at h
 refine nb.cancel pos ?_
 clear mm nn ek he hu
 generalize e*u=X at *
 generalize n*n*(m*m)*z=Y at *
 have e2:n*n*(m*m)*3100=3100*(n*n*(m*m)):=by grind
 rw [e2]
 generalize n*n*(m*m)=P at *
 unfold nb at *;omega
theorem up_near {n m e w N z:Int} (hn:17≤n) (m0:1030792152≤m) (m1:m≤1116691497) (hN:0≤N) (he:nb (e*w) (80*N)) (hM:nb (n*n*(m*m) - 1152921504606846976*N) (n*n*(m+4*1073741824)))
  (h:nb (1152921504606846976*(n*m*(n*m)*z) - 1329227995784915872903807060280344576 * -(1073741824*N+e*w)) (41*(1152921504606846976*(n*m*(n*m))))):nb (z+1073741824) 300:=by
 have mm:1030792152*1030792152≤m*m:=Int.mul_le_mul m0 m0 (by omega) (by omega)
 have pn:0<n*n:=Int.mul_pos (by omega) (by omega)
 have big:n*n*(1030792152*1030792152)≤n*n*(m*m):=Int.mul_le_mul_of_nonneg_left mm (by omega)
 have c:n*n*(m+4*1073741824)≤n*n*(5*1073741824+42949673):=Int.mul_le_mul_of_nonneg_left (by omega) (by omega)
 have ek:n*m*(n*m)=n*n*(m*m):=by grind
 have pos:0<n*n*(m*m):=by omega
 rw [ek] at h
 refine nb.cancel pos ?_
 have e2:n*n*(m*m)*300=300*(n*n*(m*m)):=by grind
 have e3:n*n*(m*m)*(z+1073741824)=n*n*(m*m)*z+1073741824*(n*n*(m*m)):=by grind
 rw [e2,e3]
 clear mm ek e2 e3
 generalize n*n*(m+4*1073741824)=Q at *
 generalize e*w=X at *
 generalize n*n*(m*m)*z=Y at *
 generalize n*n*(m*m)=P at *
 generalize n*n=R at *
 unfold nb at *;omega
end Go.Proofs.YtfepmlklbapfiaaGreat
