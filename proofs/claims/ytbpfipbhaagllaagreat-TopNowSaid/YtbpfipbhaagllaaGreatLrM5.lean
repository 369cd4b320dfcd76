/- Joined texts. What each part proves stands ahead of it; no condition. -/
import Derived.Test.YtbpfipbhaagllaaGreatLrM3
import Derived.Test.YtbpfipbhaagllaaGreatLrM4
import Derived.Test.YtbpfipbhaagllaaGreatLrM2
set_option linter.unusedVariables false
set_option linter.unusedSimpArgs false
/- The local evaluator: summaries of closures over a flag's pointer, and over numbers. -/
namespace Go.Lr
open Go.RowKit
section
variable {P:Program} {S:FuncId→Option SumK} {z:Md}
def XQ:List LV→Option (List LV×List Nat)
 | []=>some ([],[])
 | .v (.one (.ptr b 0))::l=>match XQ l with
  | some ([],r)=>some ([],b::r)
  | _=>none
 | x::l=>match x.ok noP with
  | true=>match XQ l with
   | some (p,r)=>some (x::p,r)
   | none=>none
  | false=>none
def jie:List Nat→List LV
 | []=>[]
 | b::l=> .v (.one (.ptr b 0))::jie l
theorem jbt:∀{args pl:List LV} {r:List Nat},XQ args=some (pl,r)→args=pl++jie r∧jR pl=true:=by
 intro args
 induction args with
 | nil=>intro pl r h;simp only [XQ] at h;cases h;exact ⟨rfl,rfl⟩
 | cons x l ih=>
  intro pl r h
  unfold XQ at h
  split at h
  ·rename_i e;cases e
  ·rename_i b l' e
   cases e
   split at h
   ·rename_i r' hr
    cases h
    obtain ⟨i1,-⟩:=ih hr
    exact ⟨by rw [i1];rfl,rfl⟩
   ·cases h
  ·rename_i x' l' _ e
   cases e
   split at h
   ·rename_i hx
    split at h
    ·rename_i p r' hr
     cases h
     obtain ⟨i1,i2⟩:=ih hr
     exact ⟨by rw [i1];rfl,by simp only [jR,hx,i2]⟩
    ·cases h
   ·cases h
def jcZ (k:Blk) (c:Nat):Bool:=
 match k.cells with
 | [.ptr b 0]=>Nat.beq b c
 | _=>false
theorem QI {k:Blk} {c:Nat} (h:jcZ k c=true):k.cells=[.ptr c 0]:=by
 unfold jcZ at h
 split at h
 ·rename_i b hb
  rw [kX] at h
  have:b=c:=by simpa using h
  subst this;exact hb
 ·cases h
def Xp (ty:TypeId) (F:List LV→List (List At)→Bool→Option (LV×Bool×List (Bool×Bool))):List LV→List (Nat×LV)→Option Tch:=fun args pk=>
 match XQ args,pk with
 | some (pl,cc::rest),[(_,.v (.one (.ptr acc 0)))]=>match yH (cc::rest) acc,yH rest cc with
  | false,false=>match rest with
   | []=>some ⟨[cc],[acc],fun rdB wB _=>match rdB,wB with
    | [kc],[⟨t,(0,0),0,[.bool h]⟩]=>match Nat.beq t ty,jcZ kc acc with
     | true,true=>match F pl [] h with
      | some (v,h',cs)=>match v.ok noP with
       | true=>some ⟨v,[flag ty h'],[],cs⟩
       | false=>none
      | none=>none
     | _,_=>none
    | _,_=>none⟩
   | [d]=>some ⟨[cc,d],[acc],fun rdB wB _=>match rdB,wB with
    | [kc,kd],[⟨t,(0,0),0,[.bool h]⟩]=>match Nat.beq t ty,jcZ kc acc,okL noP kd.cells with
     | true,true,true=>match F pl [kd.cells] h with
      | some (v,h',cs)=>match v.ok noP with
       | true=>some ⟨v,[flag ty h'],[],cs⟩
       | false=>none
      | none=>none
     | _,_,_=>none
    | _,_=>none⟩
   | _=>none
  | _,_=>none
 | _,_=>none
theorem jc0 {f:FuncId} (ho:Own P f) {args args':List LV} {m m':Mem} {ren:Nat→Nat} {g:Nat→Option Blk} {nb c:Nat} {ty:TypeId} {h h':Bool} {v:LV} {E E1:Env} {w:World}
  (hE:∀i,E1 i=E (ren i)) (hrel:Rel E g w) (hc:g c=some (flag ty h)) (h0:getM m' 0=some (flag ty h')) (hren0:ren 0=c)
  (hm:∀i b,getM m i=some b→∃b',g (ren i)=some b'∧b'.ty=b.ty∧b'.fr=b.fr∧b'.es=b.es∧b'.cells.map (At.den E)=b.cells.map (At.den E1))
  (hm':∀i b,i≠0→getM m i=some b→getM m' i=some b)
  (hargs:args.map (LV.den E)=args'.map (LV.den E1)) (hv:v.ok noP=true)
  (hcall:Calls P f (args'.map (LV.den E1)).toArray w fun e w'=>e = .returned (v.den E0)∧Lcl E1 m m' w w'):
  CallOK P f (args.map (LV.den E)).toArray w fun u w'=>∃E',u=v.den E'∧Post w E g nb ⟨v,[(c,some (flag ty h'))],[],[],[]⟩ E' w':=by
 obtain ⟨fn,f1,f2,f3⟩:=ho
 rw [hargs]
 refine .inl ⟨fn,f1,f2,f3,hcall.mono ?_⟩
 rintro e w' ⟨rfl,hl⟩
 refine ⟨_,rfl,E,(kg hv).symm,jdu hrel hc hl.os hl.tape hl.output hl.size ?_ (fun i b hi hib=> ?_) fun b hb hne=>hl.frame b hb fun i hi=> ?_⟩
 ·exact kp (E:=E1) (i:=0) rfl (by rw [hE,hren0]) (hl.blk 0 _ h0)
 ·by_cases hex:∃j,(getM m j).isSome∧ren j=i
  ·obtain ⟨j,hj,rfl⟩:=hex
   obtain ⟨b',hb'⟩:=Option.isSome_iff_exists.1 hj
   obtain ⟨b2,q1,q2,q3,q4,q5⟩:=hm j b' hb'
   have:b2=b:=by rw [hib] at q1;cases q1;rfl
   subst this
   have hj0:j≠0:=fun e=>hi (by rw [e,hren0])
   obtain ⟨r,g1,g2,g3⟩:=hl.blk j _ (hm' j _ hj0 hb')
   have hlen:b2.cells.length=b'.cells.length:=by
    have:=congrArg List.length q5
    simpa using this
   exact ⟨r,by rw [←hE j,g1,q2,q3,q5],fun he=>g2 (by rw [←q4];exact he),fun he=>by rw [hlen,q4,←hE j];exact g3 (by rw [←q4];exact he)⟩
  ·obtain ⟨r,g1,g2,g3⟩:=hrel.blk i b hib
   refine ⟨r, ?_,g2,g3⟩
   rw [hl.frame _ (Array.getElem?_eq_some_iff.1 g1).1 fun j hj e=>hex ⟨j,hj, ?_⟩]
   ·exact g1
   ·obtain ⟨b',hb'⟩:=Option.isSome_iff_exists.1 hj
    obtain ⟨b2,q1,-⟩:=hm j b' hb'
    rw [hE] at e
    exact hrel.inj _ _ (by rw [q1];rfl) (by rw [hib];rfl) e
 ·obtain ⟨b',hb'⟩:=Option.isSome_iff_exists.1 hi
  obtain ⟨b2,q1,-⟩:=hm i b' hb'
  rw [hE]
  exact hne _ (by rw [q1];rfl)
theorem ju2 {E E1:Env} {g:Nat→Option Blk} {w:World} {ren:Nat→Nat} {m:Mem} (hrel:Rel E g w) (hE:∀i,E1 i=E (ren i))
  (hm:∀i b,getM m i=some b→∃b',g (ren i)=some b'∧b'.ty=b.ty∧b'.fr=b.fr∧b'.es=b.es∧b'.cells.map (At.den E)=b.cells.map (At.den E1))
  (hi:∀i j,(getM m i).isSome→(getM m j).isSome→ren i=ren j→i=j):Rel E1 (getM m) w:=by
 refine ⟨fun i b hib=> ?_,fun i j h1 h2 he=> ?_⟩
 ·obtain ⟨b',q1,q2,q3,q4,q5⟩:=hm i b hib
  obtain ⟨r,g1,g2,g3⟩:=hrel.blk _ _ q1
  have hlen:b'.cells.length=b.cells.length:=by
   have:=congrArg List.length q5
   simpa using this
  exact ⟨r,by rw [hE,g1,q2,q3,q5],fun hz=>g2 (by rw [q4];exact hz),fun hz=>by rw [←hlen,←q4,hE];exact g3 (by rw [q4];exact hz)⟩
 ·obtain ⟨b1,e1⟩:=Option.isSome_iff_exists.1 h1
  obtain ⟨b2,e2⟩:=Option.isSome_iff_exists.1 h2
  obtain ⟨c1,q1,-⟩:=hm i b1 e1
  obtain ⟨c2,q2,-⟩:=hm j b2 e2
  rw [hE,hE] at he
  exact hi i j h1 h2 (hrel.inj _ _ (by rw [q1];rfl) (by rw [q2];rfl) he)
def PT (b:Nat):LV:= .v (.one (.ptr b 0))
def z5 (ty:TypeId) (fr:Nat×Nat) (es:Nat):Blk:=⟨ty,fr,es,[.ptr 0 0]⟩
theorem jc1 {f:FuncId} (ho:Own P f) {ty:TypeId} {F:List LV→List (List At)→Bool→Option (LV×Bool×List (Bool×Bool))}
  (h1:∀(pl:List LV) (hb:Bool) (v:LV) (h':Bool) (cs:List (Bool×Bool)),F pl [] hb=some (v,h',cs)→(∀c∈cs,c.1=c.2)→jR pl=true→v.ok noP=true→∀(tc:TypeId) (fc:Nat×Nat) (ec:Nat) (E:Env) (w:World),
   Rel E (getM [(0,flag ty hb),(1,z5 tc fc ec)]) w→Calls P f ((pl++[PT 1]).map (LV.den E)).toArray w fun e w'=>e = .returned (v.den E0)∧Lcl E [(0,flag ty hb),(1,z5 tc fc ec)] [(0,flag ty h'),(1,z5 tc fc ec)] w w')
  (h2:∀(pl:List LV) (kd:Blk) (hb:Bool) (v:LV) (h':Bool) (cs:List (Bool×Bool)),F pl [kd.cells] hb=some (v,h',cs)→(∀c∈cs,c.1=c.2)→jR pl=true→v.ok noP=true→okL noP kd.cells=true→∀(tc:TypeId) (fc:Nat×Nat) (ec:Nat) (E:Env) (w:World),
   Rel E (getM [(0,flag ty hb),(1,z5 tc fc ec),(2,kd)]) w→Calls P f ((pl++[PT 1,PT 2]).map (LV.den E)).toArray w fun e w'=>e = .returned (v.den E0)∧Lcl E [(0,flag ty hb),(1,z5 tc fc ec),(2,kd)] [(0,flag ty h'),(1,z5 tc fc ec),(2,kd)] w w'):
  KD P f (Xp ty F):=by
 intro args t g nb p rdB wrB ans ws E w hs hr hw _ hgo hz hc hrel hg hargs hn
 unfold Xp at hs
 split at hs
 ·rename_i pl cc rest b0 acc hcap hpk
  obtain ⟨rfl,hpl⟩:=jbt hcap
  have hpl':=plainVs_iff.1 hpl
  split at hs
  ·rename_i hm1 hm2
   have na:acc ∉ cc::rest:=xl hm1
   have nc:cc ∉ rest:=xl hm2
   split at hs
   ·cases hs
    simp only at hgo hw hr
    split at hgo
    ·rename_i kc t' hb
     split at hgo
     ·rename_i hty hcell
      rw [kX] at hty
      have hty':t'=ty:=by simpa using hty
      subst hty'
      have hkc:=QI hcell
      split at hgo
      ·rename_i v h' cs hF
       split at hgo
       ·rename_i hv
        cases hgo
        obtain ⟨ka,r',hka,hr',hrr⟩:=jT hw
        cases kD hr'
        cases hrr
        obtain ⟨kc',r2,hkc',hr2,hrr2⟩:=jT hr
        cases kD hr2
        cases hrr2
        simp only [Xi] at hz
        cases hz
        have hf0:(⟨t',(0,0),0,[.bool hb]⟩:Blk)=flag t' hb:=rfl
        rw [hf0] at hka
        generalize hE1:(fun i=>E (jaB acc cc i))=E1
        have hE:∀i,E1 i=E (jaB acc cc i):=fun i=>by rw [←hE1]
        have hm:∀i b,getM [(0,flag t' hb),(1,z5 kc.ty kc.fr kc.es)] i=some b→∃b',g (jaB acc cc i)=some b'∧b'.ty=b.ty∧b'.fr=b.fr∧b'.es=b.es∧b'.cells.map (At.den E)=b.cells.map (At.den E1):=by
         intro i b hib
         rcases Xe hib with ⟨rfl,rfl⟩ | ⟨rfl,rfl⟩
         ·exact ⟨_,hka,rfl,rfl,rfl,rfl⟩
         ·refine ⟨_,hkc',rfl,rfl,rfl, ?_⟩
          rw [hkc]
          simp only [z5,List.map_cons,List.map_nil,At.den,hE,jaB]
        have hcl:=h1 pl hb v h' cs hF hc hpl hv kc.ty kc.fr kc.es E1 w (ju2 hrel hE hm fun i j hi hj he=>by
         obtain ⟨bi,hbi⟩:=Option.isSome_iff_exists.1 hi
         obtain ⟨bj,hbj⟩:=Option.isSome_iff_exists.1 hj
         have hne:acc≠cc:=fun e=>na (by rw [e];simp)
         rcases Xe hbi with ⟨rfl,-⟩ | ⟨rfl,-⟩ <;> rcases Xe hbj with ⟨rfl,-⟩ | ⟨rfl,-⟩
         ·rfl
         ·exact absurd he hne
         ·exact absurd he.symm hne
         ·rfl)
        refine jc0 ho hE hrel hka rfl rfl hm (fun i q h0 hq=> ?_) ?_ hv hcl
        ·rw [jm,if_neg h0] at hq ⊢;exact hq
        ·simp only [jie,List.map_append,List.map_cons,List.map_nil]
         rw [jQ hpl',jQ (E:=E1) hpl']
         simp only [PT,LV.den,V1.den,At.den,hE,jaB]
       ·cases hgo
      ·cases hgo
     ·cases hgo
    ·cases hgo
   ·rename_i d
    cases hs
    simp only at hgo hw hr
    split at hgo
    ·rename_i kc kd t' hb
     split at hgo
     ·rename_i hty hcell hkd
      rw [kX] at hty
      have hty':t'=ty:=by simpa using hty
      subst hty'
      have hkc:=QI hcell
      split at hgo
      ·rename_i v h' cs hF
       split at hgo
       ·rename_i hv
        cases hgo
        obtain ⟨ka,r',hka,hr',hrr⟩:=jT hw
        cases kD hr'
        cases hrr
        obtain ⟨kc',r2,hkc',hr2,hrr2⟩:=jT hr
        cases hrr2
        obtain ⟨kd',r3,hkd',hr3,hrr3⟩:=jT hr2
        cases kD hr3
        cases hrr3
        simp only [Xi] at hz
        cases hz
        have hf0:(⟨t',(0,0),0,[.bool hb]⟩:Blk)=flag t' hb:=rfl
        rw [hf0] at hka
        generalize hE1:(fun i=>E (jj2 acc cc d i))=E1
        have hE:∀i,E1 i=E (jj2 acc cc d i):=fun i=>by rw [←hE1]
        have hm:∀i b,getM [(0,flag t' hb),(1,z5 kc.ty kc.fr kc.es),(2,kd)] i=some b→∃b',g (jj2 acc cc d i)=some b'∧b'.ty=b.ty∧b'.fr=b.fr∧b'.es=b.es∧b'.cells.map (At.den E)=b.cells.map (At.den E1):=by
         intro i b hib
         rcases jeG hib with ⟨rfl,rfl⟩ | ⟨rfl,rfl⟩ | ⟨rfl,rfl⟩
         ·exact ⟨_,hka,rfl,rfl,rfl,rfl⟩
         ·refine ⟨_,hkc',rfl,rfl,rfl, ?_⟩
          rw [hkc]
          simp only [z5,List.map_cons,List.map_nil,At.den,hE,jj2]
         ·exact ⟨_,hkd',rfl,rfl,rfl,by rw [qU hkd,qU (E:=E1) hkd]⟩
        have hcl:=h2 pl kd hb v h' cs hF hc hpl hv hkd kc.ty kc.fr kc.es E1 w (ju2 hrel hE hm fun i j hi hj he=>by
         obtain ⟨bi,hbi⟩:=Option.isSome_iff_exists.1 hi
         obtain ⟨bj,hbj⟩:=Option.isSome_iff_exists.1 hj
         have n1:acc≠cc:=fun e=>na (by rw [e];simp)
         have n2:acc≠d:=fun e=>na (by rw [e];simp)
         have n3:cc≠d:=fun e=>nc (by rw [e];simp)
         rcases jeG hbi with ⟨rfl,-⟩ | ⟨rfl,-⟩ | ⟨rfl,-⟩ <;> rcases jeG hbj with ⟨rfl,-⟩ | ⟨rfl,-⟩ | ⟨rfl,-⟩
         ·rfl
         ·exact absurd he n1
         ·exact absurd he n2
         ·exact absurd he.symm n1
         ·rfl
         ·exact absurd he n3
         ·exact absurd he.symm n2
         ·exact absurd he.symm n3
         ·rfl)
        refine jc0 ho hE hrel hka rfl rfl hm (fun i q h0 hq=> ?_) ?_ hv hcl
        ·rw [jm,if_neg h0] at hq ⊢;exact hq
        ·simp only [jie,List.map_append,List.map_cons,List.map_nil]
         rw [jQ hpl',jQ (E:=E1) hpl']
         simp only [PT,LV.den,V1.den,At.den,hE,jj2]
       ·cases hgo
      ·cases hgo
     ·cases hgo
    ·cases hgo
   ·cases hs
  ·cases hs
 ·cases hs
end
end Go.Lr

/- The closures of quat and rot: their runs, their summaries. -/
namespace Go.Proofs.YtbpfipbhaagllaaGreat
open Go.Lr
def C4 (a0 a1 a2 a3:Int):List At:=[.int .i64 a0,.int .i64 a1,.int .i64 a2,.int .i64 a3]
theorem jjm {f:FuncId} (ho:Own Tryz.prog f) {ty:TypeId} {V:Int→Int→Int→Int→Int→Int→Int→Int→Int} {H:Int→Int→Int→Int→Int→Int→Int→Int→Bool} {S:FuncId→Option SumK} (hs:Sound Tryz.prog S) {n:Nat}
  {F:List LV→List (List At)→Bool→Option (LV×Bool×List (Bool×Bool))}
  (hF:∀pl cl hb r,F pl cl hb=some r→∃w x y z a0 a1 a2 a3,pl=[I w,I x,I y,I z]∧cl=[C4 a0 a1 a2 a3]∧r=(I (V w x y z a0 a1 a2 a3),hb||H w x y z a0 a1 a2 a3,[]))
  (hr:∀w x y z a0 a1 a2 a3 hb tc fc ec td fd ed,(jG Tryz.prog S Zl n f [I w,I x,I y,I z,PT 1,PT 2] [(0,flag ty hb),(1,z5 tc fc ec),(2,⟨td,fd,ed,C4 a0 a1 a2 a3⟩)] 3 []).map (fun r=>(r.1,getM r.2.1 0,getM r.2.1 1,getM r.2.1 2,r.2.2.2)) =
   some (I (V w x y z a0 a1 a2 a3),some (flag ty (hb||H w x y z a0 a1 a2 a3)),some (z5 tc fc ec),some ⟨td,fd,ed,C4 a0 a1 a2 a3⟩,[])):KD Tryz.prog f (Xp ty F):=by
 refine jc1 ho (fun pl hb v h' cs hf _ _ _=> ?_) fun pl kd hb v h' cs hf hc _ _ hok tc fc ec E w hrel=> ?_
 ·obtain ⟨w,x,y,z,a0,a1,a2,a3,-,h,-⟩:=hF _ _ _ _ hf
  cases h
 ·obtain ⟨w',x,y,z,a0,a1,a2,a3,rfl,h,h'⟩:=hF _ _ _ _ hf
  cases h'
  obtain ⟨td,fd,ed,l⟩:=kd
  simp only [List.cons.injEq,and_true] at h
  subst h
  refine jcs hs (hr w' x y z a0 a1 a2 a3 hb tc fc ec td fd ed) (fun i b hib=> ?_) jd rfl (fun u hu=> ?_) rfl E w hrel
  ·rcases jeG hib with ⟨rfl,rfl⟩ | ⟨rfl,rfl⟩ | ⟨rfl,rfl⟩
   ·exact ⟨.inl ⟨rfl,rfl⟩,by decide,rfl⟩
   ·exact ⟨.inr (.inl ⟨rfl,rfl⟩),by decide,rfl⟩
   ·exact ⟨.inr (.inr ⟨rfl,rfl⟩),by decide,rfl⟩
  ·simp only [List.cons_append,List.nil_append,List.mem_cons,List.not_mem_nil,or_false] at hu
   rcases hu with rfl | rfl | rfl | rfl | rfl | rfl <;> rfl
theorem jm9 {f:FuncId} (ho:Own Tryz.prog f) {ty:TypeId} {V:Int→Int→Int→Int→Int} {H:Int→Int→Int→Int→Bool} {S:FuncId→Option SumK} (hs:Sound Tryz.prog S) {n:Nat}
  {F:List LV→List (List At)→Bool→Option (LV×Bool×List (Bool×Bool))}
  (hF:∀pl cl hb r,F pl cl hb=some r→∃w x y z,pl=[I w,I x,I y,I z]∧cl=[]∧r=(I (V w x y z),hb||H w x y z,[]))
  (hr:∀w x y z hb tc fc ec,(jG Tryz.prog S Zl n f [I w,I x,I y,I z,PT 1] [(0,flag ty hb),(1,z5 tc fc ec)] 2 []).map (fun r=>(r.1,getM r.2.1 0,getM r.2.1 1,(none:Option Blk),r.2.2.2)) =
   some (I (V w x y z),some (flag ty (hb||H w x y z)),some (z5 tc fc ec),none,[])):KD Tryz.prog f (Xp ty F):=by
 refine jc1 ho (fun pl hb v h' cs hf hc _ _ tc fc ec E w hrel=> ?_) fun pl kd hb v h' cs hf _ _ _ _=> ?_
 ·obtain ⟨w',x,y,z,rfl,-,h'⟩:=hF _ _ _ _ hf
  cases h'
  have hq:=hr w' x y z hb tc fc ec
  cases hrun:jG Tryz.prog S Zl n f [I w',I x,I y,I z,PT 1] [(0,flag ty hb),(1,z5 tc fc ec)] 2 [] with
  | none=>rw [hrun] at hq;cases hq
  | some q=>
   obtain ⟨v',m2,nb',cs'⟩:=q
   rw [hrun] at hq
   simp only [Option.map_some,Option.some.injEq,Prod.mk.injEq,and_true,true_and] at hq
   obtain ⟨rfl,e0,e1,rfl⟩:=hq
   refine x8 hs hrun (fun i b hib=> ?_) jd rfl (fun u hu=> ?_) rfl E w hrel
   ·rcases Xe hib with ⟨rfl,rfl⟩ | ⟨rfl,rfl⟩
    ·exact ⟨e0,by decide,rfl⟩
    ·exact ⟨e1,by decide,rfl⟩
   ·simp only [List.cons_append,List.nil_append,List.mem_cons,List.not_mem_nil,or_false] at hu
    rcases hu with rfl | rfl | rfl | rfl | rfl <;> rfl
 ·obtain ⟨w,x,y,z,-,h,-⟩:=hF _ _ _ _ hf
  cases h
def q1V (w x y z a0 a1 a2 a3:Int):Int:=qZ 30 [a0,a1,a2,a3] [w,x,y,z]
def q1H (w x y z a0 a1 a2 a3:Int):Bool:=yf 30 [a0,a1,a2,a3] [w,x,y,z]
def q1F:List LV→List (List At)→Bool→Option (LV×Bool×List (Bool×Bool))
 | [.v (.one (.int .i64 w)),.v (.one (.int .i64 x)),.v (.one (.int .i64 y)),.v (.one (.int .i64 z))],[[.int .i64 a0,.int .i64 a1,.int .i64 a2,.int .i64 a3]],hb=>some (I (q1V w x y z a0 a1 a2 a3),hb||q1H w x y z a0 a1 a2 a3,[])
 | _,_,_=>none
def s1V (w x y z a0 a1 a2 a3:Int):Int:=qZ 30 [a0,a1,a2,a3] [wr .i64 (w*a0),wr .i64 (x*a1),wr .i64 (y*a2),wr .i64 (z*a3)]
def s1H (w x y z a0 a1 a2 a3:Int):Bool:=yf 30 [a0,a1,a2,a3] [wr .i64 (w*a0),wr .i64 (x*a1),wr .i64 (y*a2),wr .i64 (z*a3)]
def s1F:List LV→List (List At)→Bool→Option (LV×Bool×List (Bool×Bool))
 | [.v (.one (.int .i64 w)),.v (.one (.int .i64 x)),.v (.one (.int .i64 y)),.v (.one (.int .i64 z))],[[.int .i64 a0,.int .i64 a1,.int .i64 a2,.int .i64 a3]],hb=>some (I (s1V w x y z a0 a1 a2 a3),hb||s1H w x y z a0 a1 a2 a3,[])
 | _,_,_=>none
def t1V (a b d e:Int):Int:=qZ 30 [a,a,d,d] [b,b,e,e]
def t1H (a b d e:Int):Bool:=yf 30 [a,a,d,d] [b,b,e,e]
def t1F:List LV→List (List At)→Bool→Option (LV×Bool×List (Bool×Bool))
 | [.v (.one (.int .i64 a)),.v (.one (.int .i64 b)),.v (.one (.int .i64 d)),.v (.one (.int .i64 e))],[],hb=>some (I (t1V a b d e),hb||t1H a b d e,[])
 | _,_,_=>none
theorem jrD:KD Tryz.prog 141 (Xp 63 q1F):=by
 refine jjm (n:=2000) (jl sound21 Tryz.func141 (by kernel_rfl)) sound21 (V:=q1V) (H:=q1H) (fun pl cl hb r h=> ?_) fun w x y z a0 a1 a2 a3 hb tc fc ec td fd ed=>by kernel_rfl
 unfold q1F at h
 split at h
 ·cases h;exact ⟨_,_,_,_,_,_,_,_,rfl,rfl,rfl⟩
 ·cases h
theorem jrE:KD Tryz.prog 186 (Xp 63 s1F):=by
 refine jjm (n:=2000) (jl sound21 Tryz.func186 (by kernel_rfl)) sound21 (V:=s1V) (H:=s1H) (fun pl cl hb r h=> ?_) fun w x y z a0 a1 a2 a3 hb tc fc ec td fd ed=>by kernel_rfl
 unfold s1F at h
 split at h
 ·cases h;exact ⟨_,_,_,_,_,_,_,_,rfl,rfl,rfl⟩
 ·cases h
theorem jrF:KD Tryz.prog 187 (Xp 63 t1F):=by
 refine jm9 (n:=2000) (jl sound21 Tryz.func187 (by kernel_rfl)) sound21 (V:=t1V) (H:=t1H) (fun pl cl hb r h=> ?_) fun a b d e hb tc fc ec=>by kernel_rfl
 unfold t1F at h
 split at h
 ·cases h;exact ⟨_,_,_,_,rfl,rfl,rfl⟩
 ·cases h
def S21q:FuncId→Option SumK:=moreP S21 141 (Xp 63 q1F)
theorem sound21q:Sound Tryz.prog S21q:=sound21.moreP jrD
def S22:FuncId→Option SumK:=moreP (moreP S21q 186 (Xp 63 s1F)) 187 (Xp 63 t1F)
theorem sound22:Sound Tryz.prog S22:=(sound21q.moreP jrE).moreP jrF
end Go.Proofs.YtbpfipbhaagllaaGreat

/- qsat, rof, qone: runs and summaries (printed). -/
namespace Go.Proofs.YtbpfipbhaagllaaGreat
open Go.Lr
theorem jpv (a0 a1 a2 a3:Int) (hb:Bool):(jG Tryz.prog S22 Zl 2000 69 [A0,.v (.agg [.int .i64 a0,.int .i64 a1,.int .i64 a2,.int .i64 a3])] [(0,flag 63 hb)] 1 [none,none,none,none,none]).map kU=some (LV.v (V1.agg [At.int .i64 (jf a0),At.int .i64 (jf a1),At.int .i64 (jf a2),At.int .i64 (jf a3)]),some { ty:=63,fr:=(0,0),es:=0,cells:=[At.bool (hb||jL a0||jL a1||jL a2||jL a3)] },[]):=by kernel_rfl
def jpw (a0 a1 a2 a3:Int) (hb:Bool):Option (LV×Bool×List (Bool×Bool)):=some (LV.v (V1.agg [At.int .i64 (jf a0),At.int .i64 (jf a1),At.int .i64 (jf a2),At.int .i64 (jf a3)]),(hb||jL a0||jL a1||jL a2||jL a3),[])
def jlC:List LV→Bool→Option (LV×Bool×List (Bool×Bool))
 | [.v (.agg [.int .i64 a0,.int .i64 a1,.int .i64 a2,.int .i64 a3])],hb=>jpw a0 a1 a2 a3 hb
 | _,_=>none
theorem jlD:SumOK Tryz.prog 69 (js 63 jlC):=by
 refine jF (z:=Zl) sound22 (jl sound22 Tryz.func69 (by kernel_rfl)) fun args hb v h' cs hF hc=> ?_
 unfold jlC at hF
 split at hF
 ·rename_i a0 a1 a2 a3
  unfold jpw at hF
  cases hF
  exact ⟨rfl,2000,[none,none,none,none,none],_,jpv a0 a1 a2 a3 hb,jd⟩
 ·cases hF
theorem jtz (a0 a1 a2 a3:Int) (hb:Bool):(jG Tryz.prog S22 Zl 2000 140 [A0,.v (.agg [.int .i64 a0,.int .i64 a1,.int .i64 a2,.int .i64 a3])] [(0,flag 63 hb)] 1 [none,none,none,none,none]).map kU=some (LV.v (V1.agg [At.int .i64 (s1V 1 1 (-1) (-1) (jf a0) (jf a1) (jf a2) (jf a3)),At.int .i64 (t1V (jf a1) (jf a2) (wr .i64 (0 - jf a0)) (jf a3)),At.int .i64 (t1V (jf a1) (jf a3) (jf a0) (jf a2)),At.int .i64 (t1V (jf a1) (jf a2) (jf a0) (jf a3)),At.int .i64 (s1V 1 (-1) 1 (-1) (jf a0) (jf a1) (jf a2) (jf a3)),At.int .i64 (t1V (jf a2) (jf a3) (wr .i64 (0 - jf a0)) (jf a1)),At.int .i64 (t1V (jf a1) (jf a3) (wr .i64 (0 - jf a0)) (jf a2)),At.int .i64 (t1V (jf a2) (jf a3) (jf a0) (jf a1)),At.int .i64 (s1V 1 (-1) (-1) 1 (jf a0) (jf a1) (jf a2) (jf a3))]),some { ty:=63,fr:=(0,0),es:=0,cells:=[At.bool (hb||jL a0||jL a1||jL a2||jL a3||s1H 1 1 (-1) (-1) (jf a0) (jf a1) (jf a2) (jf a3)||t1H (jf a1) (jf a2) (wr .i64 (0 - jf a0)) (jf a3)||t1H (jf a1) (jf a3) (jf a0) (jf a2)||t1H (jf a1) (jf a2) (jf a0) (jf a3)||s1H 1 (-1) 1 (-1) (jf a0) (jf a1) (jf a2) (jf a3)||t1H (jf a2) (jf a3) (wr .i64 (0 - jf a0)) (jf a1)||t1H (jf a1) (jf a3) (wr .i64 (0 - jf a0)) (jf a2)||t1H (jf a2) (jf a3) (jf a0) (jf a1)||s1H 1 (-1) (-1) 1 (jf a0) (jf a1) (jf a2) (jf a3))] },[]):=by kernel_rfl
def ju3 (a0 a1 a2 a3:Int) (hb:Bool):Option (LV×Bool×List (Bool×Bool)):=some (LV.v (V1.agg [At.int .i64 (s1V 1 1 (-1) (-1) (jf a0) (jf a1) (jf a2) (jf a3)),At.int .i64 (t1V (jf a1) (jf a2) (wr .i64 (0 - jf a0)) (jf a3)),At.int .i64 (t1V (jf a1) (jf a3) (jf a0) (jf a2)),At.int .i64 (t1V (jf a1) (jf a2) (jf a0) (jf a3)),At.int .i64 (s1V 1 (-1) 1 (-1) (jf a0) (jf a1) (jf a2) (jf a3)),At.int .i64 (t1V (jf a2) (jf a3) (wr .i64 (0 - jf a0)) (jf a1)),At.int .i64 (t1V (jf a1) (jf a3) (wr .i64 (0 - jf a0)) (jf a2)),At.int .i64 (t1V (jf a2) (jf a3) (jf a0) (jf a1)),At.int .i64 (s1V 1 (-1) (-1) 1 (jf a0) (jf a1) (jf a2) (jf a3))]),(hb||jL a0||jL a1||jL a2||jL a3||s1H 1 1 (-1) (-1) (jf a0) (jf a1) (jf a2) (jf a3)||t1H (jf a1) (jf a2) (wr .i64 (0 - jf a0)) (jf a3)||t1H (jf a1) (jf a3) (jf a0) (jf a2)||t1H (jf a1) (jf a2) (jf a0) (jf a3)||s1H 1 (-1) 1 (-1) (jf a0) (jf a1) (jf a2) (jf a3)||t1H (jf a2) (jf a3) (wr .i64 (0 - jf a0)) (jf a1)||t1H (jf a1) (jf a3) (wr .i64 (0 - jf a0)) (jf a2)||t1H (jf a2) (jf a3) (jf a0) (jf a1)||s1H 1 (-1) (-1) 1 (jf a0) (jf a1) (jf a2) (jf a3)),[])
def jtA:List LV→Bool→Option (LV×Bool×List (Bool×Bool))
 | [.v (.agg [.int .i64 a0,.int .i64 a1,.int .i64 a2,.int .i64 a3])],hb=>ju3 a0 a1 a2 a3 hb
 | _,_=>none
theorem sumrof:SumOK Tryz.prog 140 (js 63 jtA):=by
 refine jF (z:=Zl) sound22 (jl sound22 Tryz.func140 (by kernel_rfl)) fun args hb v h' cs hF hc=> ?_
 unfold jtA at hF
 split at hF
 ·rename_i a0 a1 a2 a3
  unfold ju3 at hF
  cases hF
  exact ⟨rfl,2000,[none,none,none,none,none],_,jtz a0 a1 a2 a3 hb,jd⟩
 ·cases hF
theorem jpx :(jG Tryz.prog S22 Zl 2000 33 [] [] 0 []).map (fun r=>(r.1,r.2.2.2))=some (LV.v (V1.agg [At.int .i64 1073741824,At.int .i64 0,At.int .i64 0,At.int .i64 0]),[]):=by kernel_rfl
def jpy :Option (LV×List (Bool×Bool)):=some (LV.v (V1.agg [At.int .i64 1073741824,At.int .i64 0,At.int .i64 0,At.int .i64 0]),[])
def jlE:List LV→Option (LV×List (Bool×Bool))
 | []=>jpy
 | _=>none
theorem jlF:SumOK Tryz.prog 33 (jq jlE):=by
 refine jC (z:=Zl) sound22 (jl sound22 Tryz.func33 (by kernel_rfl)) fun args v cs hF hc=> ?_
 unfold jlE at hF
 split at hF
 ·unfold jpy at hF
  cases hF
  exact ⟨2000,[],_,jpx ,jd⟩
 ·cases hF
def S23:FuncId→Option SumK:=(more (more (more S22 69 (js 63 jlC)) 140 (js 63 jtA)) 33 (jq jlE))
theorem sound23:Sound Tryz.prog S23:=(((sound22.more jlD).more sumrof).more jlF)
end Go.Proofs.YtbpfipbhaagllaaGreat

/- Summaries that the evaluator makes by running the callee. -/
namespace Go.Proofs.YtbpfipbhaagllaaGreat
open Go.Lr
noncomputable def T0:FuncId→Option SumK:=S23
theorem soundT0:Sound Tryz.prog T0:=sound23
noncomputable def T1:FuncId→Option SumK:=more T0 205 (Ja Tryz.prog T0 Zl 2000 205)
theorem soundT1:Sound Tryz.prog T1:=soundT0.more (kI soundT0 (jl soundT0 Tryz.func205 (by kernel_rfl)))
noncomputable def T2:FuncId→Option SumK:=more T1 212 (Ja Tryz.prog T1 Zl 2000 212)
theorem soundT2:Sound Tryz.prog T2:=soundT1.more (kI soundT1 (jl soundT1 Tryz.func212 (by kernel_rfl)))
noncomputable def T3:FuncId→Option SumK:=more T2 209 (Ja Tryz.prog T2 Zl 2000 209)
theorem soundT3:Sound Tryz.prog T3:=soundT2.more (kI soundT2 (jl soundT2 Tryz.func209 (by kernel_rfl)))
noncomputable def T4:FuncId→Option SumK:=more T3 191 (Ja Tryz.prog T3 Zl 2000 191)
theorem soundT4:Sound Tryz.prog T4:=soundT3.more (kI soundT3 (jl soundT3 Tryz.func191 (by kernel_rfl)))
noncomputable def T5:FuncId→Option SumK:=more T4 35 (Ja Tryz.prog T4 Zl 2000 35)
theorem soundT5:Sound Tryz.prog T5:=soundT4.more (kI soundT4 (jl soundT4 Tryz.func35 (by kernel_rfl)))
noncomputable def T6:FuncId→Option SumK:=more T5 82 (Ja Tryz.prog T5 Zl 2000 82)
theorem soundT6:Sound Tryz.prog T6:=soundT5.more (kI soundT5 (jl soundT5 Tryz.func82 (by kernel_rfl)))
noncomputable def T7:FuncId→Option SumK:=T6
theorem jkd:Sound Tryz.prog T7:=soundT6
noncomputable def T8:FuncId→Option SumK:=T7
theorem jke:Sound Tryz.prog T8:=jkd
noncomputable def T9:FuncId→Option SumK:=T8
theorem soundT9:Sound Tryz.prog T9:=jke
noncomputable def T10:FuncId→Option SumK:=more T9 167 (qY Tryz.prog T9 Zl 2000 167)
theorem soundT10:Sound Tryz.prog T10:=soundT9.more (jU soundT9 (jl soundT9 Tryz.func167 (by kernel_rfl)))
noncomputable def T11:FuncId→Option SumK:=more T10 116 (Ja Tryz.prog T10 Zl 2000 116)
theorem soundT11:Sound Tryz.prog T11:=soundT10.more (kI soundT10 (jl soundT10 Tryz.func116 (by kernel_rfl)))
noncomputable def T12:FuncId→Option SumK:=T11
theorem soundT12:Sound Tryz.prog T12:=soundT11
noncomputable def T13:FuncId→Option SumK:=more T12 84 (qY Tryz.prog T12 Zl 2000 84)
theorem soundT13:Sound Tryz.prog T13:=soundT12.more (jU soundT12 (jl soundT12 Tryz.func84 (by kernel_rfl)))
noncomputable def T14:FuncId→Option SumK:=T13
theorem soundT14:Sound Tryz.prog T14:=soundT13
noncomputable def T15:FuncId→Option SumK:=more T14 37 (qY Tryz.prog T14 Zl 2000 37)
theorem soundT15:Sound Tryz.prog T15:=soundT14.more (jU soundT14 (jl soundT14 Tryz.func37 (by kernel_rfl)))
noncomputable def T16:FuncId→Option SumK:=more T15 143 (qY Tryz.prog T15 Zl 2000 143)
theorem soundT16:Sound Tryz.prog T16:=soundT15.more (jU soundT15 (jl soundT15 Tryz.func143 (by kernel_rfl)))
noncomputable def T17:FuncId→Option SumK:=more T16 115 (qY Tryz.prog T16 Zl 2000 115)
theorem soundT17:Sound Tryz.prog T17:=soundT16.more (jU soundT16 (jl soundT16 Tryz.func115 (by kernel_rfl)))
noncomputable def T18:FuncId→Option SumK:=more T17 86 (qY Tryz.prog T17 Zl 2000 86)
theorem soundT18:Sound Tryz.prog T18:=soundT17.more (jU soundT17 (jl soundT17 Tryz.func86 (by kernel_rfl)))
noncomputable def T19:FuncId→Option SumK:=T18
theorem soundT19:Sound Tryz.prog T19:=soundT18
noncomputable def T20:FuncId→Option SumK:=more T19 88 (qY Tryz.prog T19 Zl 2000 88)
theorem soundT20:Sound Tryz.prog T20:=soundT19.more (jU soundT19 (jl soundT19 Tryz.func88 (by kernel_rfl)))
noncomputable def T21:FuncId→Option SumK:=T20
theorem soundT21:Sound Tryz.prog T21:=soundT20
noncomputable def T22:FuncId→Option SumK:=more T21 207 (qY Tryz.prog T21 Zl 2000 207)
theorem soundT22:Sound Tryz.prog T22:=soundT21.more (jU soundT21 (jl soundT21 Tryz.func207 (by kernel_rfl)))
noncomputable def T23:FuncId→Option SumK:=more T22 85 (qY Tryz.prog T22 Zl 2000 85)
theorem soundT23:Sound Tryz.prog T23:=soundT22.more (jU soundT22 (jl soundT22 Tryz.func85 (by kernel_rfl)))
noncomputable def T24:FuncId→Option SumK:=more T23 76 (Ja Tryz.prog T23 Zl 2000 76)
theorem soundT24:Sound Tryz.prog T24:=soundT23.more (kI soundT23 (jl soundT23 Tryz.func76 (by kernel_rfl)))
noncomputable def T25:FuncId→Option SumK:=more T24 77 (qY Tryz.prog T24 Zl 2000 77)
theorem soundT25:Sound Tryz.prog T25:=soundT24.more (jU soundT24 (jl soundT24 Tryz.func77 (by kernel_rfl)))
noncomputable def T26:FuncId→Option SumK:=more T25 44 (qY Tryz.prog T25 Zl 2000 44)
theorem soundT26:Sound Tryz.prog T26:=soundT25.more (jU soundT25 (jl soundT25 Tryz.func44 (by kernel_rfl)))
noncomputable def T27:FuncId→Option SumK:=more T26 45 (qY Tryz.prog T26 Zl 2000 45)
theorem soundT27:Sound Tryz.prog T27:=soundT26.more (jU soundT26 (jl soundT26 Tryz.func45 (by kernel_rfl)))
noncomputable def T28:FuncId→Option SumK:=more T27 208 (qY Tryz.prog T27 Zl 2000 208)
theorem soundT28:Sound Tryz.prog T28:=soundT27.more (jU soundT27 (jl soundT27 Tryz.func208 (by kernel_rfl)))
noncomputable def T29:FuncId→Option SumK:=T28
theorem soundT29:Sound Tryz.prog T29:=soundT28
noncomputable def T30:FuncId→Option SumK:=more T29 210 (qY Tryz.prog T29 Zl 2000 210)
theorem soundT30:Sound Tryz.prog T30:=soundT29.more (jU soundT29 (jl soundT29 Tryz.func210 (by kernel_rfl)))
noncomputable def T31:FuncId→Option SumK:=more T30 173 (qY Tryz.prog T30 Zl 2000 173)
theorem soundT31:Sound Tryz.prog T31:=soundT30.more (jU soundT30 (jl soundT30 Tryz.func173 (by kernel_rfl)))
noncomputable def T32:FuncId→Option SumK:=more T31 174 (qY Tryz.prog T31 Zl 2000 174)
theorem soundT32:Sound Tryz.prog T32:=soundT31.more (jU soundT31 (jl soundT31 Tryz.func174 (by kernel_rfl)))
noncomputable def T33:FuncId→Option SumK:=more T32 139 (qY Tryz.prog T32 Zl 2000 139)
theorem soundT33:Sound Tryz.prog T33:=soundT32.more (jU soundT32 (jl soundT32 Tryz.func139 (by kernel_rfl)))
noncomputable def T34:FuncId→Option SumK:=T33
theorem soundT34:Sound Tryz.prog T34:=soundT33
noncomputable def T35:FuncId→Option SumK:=more T34 194 (qY Tryz.prog T34 Zl 2000 194)
theorem soundT35:Sound Tryz.prog T35:=soundT34.more (jU soundT34 (jl soundT34 Tryz.func194 (by kernel_rfl)))
noncomputable def T36:FuncId→Option SumK:=more T35 90 (qY Tryz.prog T35 Zl 2000 90)
theorem soundT36:Sound Tryz.prog T36:=soundT35.more (jU soundT35 (jl soundT35 Tryz.func90 (by kernel_rfl)))
noncomputable def T37:FuncId→Option SumK:=moreG T36 190 (qn Tryz.prog T36 Zl 2000 190)
theorem soundT37:Sound Tryz.prog T37:=soundT36.moreG (jP soundT36 (jl soundT36 Tryz.func190 (by kernel_rfl)))
noncomputable def T38:FuncId→Option SumK:=moreG T37 81 (qn Tryz.prog T37 Zl 2000 81)
theorem soundT38:Sound Tryz.prog T38:=soundT37.moreG (jP soundT37 (jl soundT37 Tryz.func81 (by kernel_rfl)))
noncomputable def T39:FuncId→Option SumK:=more T38 151 (qY Tryz.prog T38 Zl 2000 151)
theorem soundT39:Sound Tryz.prog T39:=soundT38.more (jU soundT38 (jl soundT38 Tryz.func151 (by kernel_rfl)))
noncomputable def T40:FuncId→Option SumK:=more T39 192 (qY Tryz.prog T39 Zl 2000 192)
theorem soundT40:Sound Tryz.prog T40:=soundT39.more (jU soundT39 (jl soundT39 Tryz.func192 (by kernel_rfl)))
noncomputable def T41:FuncId→Option SumK:=more T40 171 (qY Tryz.prog T40 Zl 2000 171)
theorem soundT41:Sound Tryz.prog T41:=soundT40.more (jU soundT40 (jl soundT40 Tryz.func171 (by kernel_rfl)))
noncomputable def T42:FuncId→Option SumK:=more T41 170 (qY Tryz.prog T41 Zl 2000 170)
theorem soundT42:Sound Tryz.prog T42:=soundT41.more (jU soundT41 (jl soundT41 Tryz.func170 (by kernel_rfl)))
noncomputable def T43:FuncId→Option SumK:=more T42 153 (qY Tryz.prog T42 Zl 2000 153)
theorem soundT43:Sound Tryz.prog T43:=soundT42.more (jU soundT42 (jl soundT42 Tryz.func153 (by kernel_rfl)))
noncomputable def S24:FuncId→Option SumK:=T43
theorem sound24:Sound Tryz.prog S24:=soundT43
end Go.Proofs.YtbpfipbhaagllaaGreat

/- Facts of rounding, dividing, roots, clamping: plain. -/
namespace Go.Proofs.YtbpfipbhaagllaaGreat
open Go.Lr
theorem ja3 (a:Int):jf (jf a)=jf a:=by have:=yF a;exact Jw this.1 this.2
theorem jnu {a b:Int} (ha:0≤a) (hb:0<b): -b≤2*(jdT a b*b - a)∧2*(jdT a b*b - a)≤b:=by
 have e:=Int.emod_add_mul_ediv a b
 have h0:=Int.emod_nonneg a (show b≠0 by omega)
 have h1:=Int.emod_lt_of_pos a hb
 rw [Int.mul_comm b] at e
 unfold jdT
 split
 ·have e2:(a/b+1)*b=a/b*b+b:=by grind
  rw [e2];omega
 ·omega
theorem jkv {a b:Int} (ha:0≤a) (hb:0<b):yh a b=jdT a b:=by
 unfold yh
 rw [zD ha,zD (by omega)]
 have h1:¬a<0:=by omega
 have h2:¬b<0:=by omega
 simp [h1,h2,sgn]
theorem jfj {N m:Int} (h0:0≤N) (h1:N<340282366920938463463374607431768211456) (h:m≤0∨m*m - m<N):m≤kf N:=by
 obtain ⟨a,b,c⟩:=XR h0 h1
 generalize kf N=r at *
 rcases h with h | h
 ·omega
 ·rcases Int.lt_or_le r m with hlt | hle
  ·exfalso
   have e:r*r+r=r*(r+1):=by grind
   have:r*(r+1)≤(m - 1)*m:=Int.mul_le_mul (by omega) (by omega) (by omega) (by omega)
   have e2:(m - 1)*m=m*m - m:=by grind
   omega
  ·exact hle
end Go.Proofs.YtbpfipbhaagllaaGreat

/- Plain facts that the second answer's texts brought. -/
namespace Go.Proofs.YtbpfipbhaagllaaGreat
open Go.Lr
theorem jpz (x:Int) (h0:0≤x) (h1:x<18446744073709551616):Int.ofNat ((u64 x).toNat.land (u64 1).toNat)=x%2:=by
 have e:(u64 1).toNat=2 ^ 1 - 1:=by decide
 rw [kw h0 h1,e]
 show ((x.toNat &&& (2 ^ 1 - 1):Nat):Int)=_
 rw [Nat.and_two_pow_sub_one_eq_mod]
 omega
theorem jfZ {d:Int} (h:0<d):jdT 0 d=0:=by
 unfold jdT
 rw [Int.zero_emod,Int.zero_ediv,if_neg (by omega)]
end Go.Proofs.YtbpfipbhaagllaaGreat

/- trig.Wrap: its runs, and what it comes to. -/
namespace Go.Proofs.YtbpfipbhaagllaaGreat
open Go.Lr
theorem jme (a:Int):(jG Tryz.prog S23 Zl 2000 76 [.v (.one (.int .i64 a))] [] 0 [some true]).map (fun r=>(r.1,r.2.2.2))=some (LV.v (V1.one (At.int .i64 (wr .i64 (a.tmod 6746518852 - 6746518852)))),[(decide (a.tmod 6746518852>3373259426),true)]):=by kernel_rfl
theorem jmf (a:Int):(jG Tryz.prog S23 Zl 2000 76 [.v (.one (.int .i64 a))] [] 0 [some false,some true]).map (fun r=>(r.1,r.2.2.2))=some (LV.v (V1.one (At.int .i64 (wr .i64 (a.tmod 6746518852+6746518852)))),[(decide (a.tmod 6746518852≤ -3373259426),true),(decide (a.tmod 6746518852>3373259426),false)]):=by kernel_rfl
theorem jmg (a:Int):(jG Tryz.prog S23 Zl 2000 76 [.v (.one (.int .i64 a))] [] 0 [some false,some false]).map (fun r=>(r.1,r.2.2.2))=some (LV.v (V1.one (At.int .i64 (a.tmod 6746518852))),[(decide (a.tmod 6746518852≤ -3373259426),false),(decide (a.tmod 6746518852>3373259426),false)]):=by kernel_rfl
def jdw (a:Int):Option (LV×List (Bool×Bool)):=
 bif (decide (a.tmod 6746518852>3373259426)) then some (LV.v (V1.one (At.int .i64 (wr .i64 (a.tmod 6746518852 - 6746518852)))),[])
 else
  bif (decide (a.tmod 6746518852≤ -3373259426)) then some (LV.v (V1.one (At.int .i64 (wr .i64 (a.tmod 6746518852+6746518852)))),[])
  else some (LV.v (V1.one (At.int .i64 (a.tmod 6746518852))),[])
def jj4:List LV→Option (LV×List (Bool×Bool))
 | [.v (.one (.int .i64 a))]=>jdw a
 | _=>none
theorem sumtwrap:SumOK Tryz.prog 76 (jq jj4):=by
 refine jC (z:=Zl) sound23 (jl sound23 Tryz.func76 (by kernel_rfl)) fun args v cs hF hc=> ?_
 unfold jj4 at hF
 split at hF
 ·rename_i a
  unfold jdw at hF
  rcases ji (decide (a.tmod 6746518852>3373259426)) with h0 | h0
  ·rw [jy h0] at hF
   cases hF
   exact ⟨2000,[some true],_,jme a,ja (h0) (jd)⟩
  ·rw [jv h0] at hF
   rcases ji (decide (a.tmod 6746518852≤ -3373259426)) with h1 | h1
   ·rw [jy h1] at hF
    cases hF
    exact ⟨2000,[some false,some true],_,jmf a,ja (h1) (ja (h0) (jd))⟩
   ·rw [jv h1] at hF
    cases hF
    exact ⟨2000,[some false,some false],_,jmg a,ja (h1) (ja (h0) (jd))⟩
 ·cases hF
def kA (a:Int):Int:=if a.tmod 6746518852>3373259426 then a.tmod 6746518852 - 6746518852 else if a.tmod 6746518852≤ -3373259426 then a.tmod 6746518852+6746518852 else a.tmod 6746518852
theorem jmh (a:Int): -6746518852<a.tmod 6746518852∧a.tmod 6746518852<6746518852∧∃k,a=k*6746518852+a.tmod 6746518852:=by
 have h:=Int.tmod_add_mul_tdiv a 6746518852
 refine ⟨?_, ?_,a.tdiv 6746518852,by omega⟩
 ·have:=Int.lt_tmod_of_pos a (show (0:Int)<6746518852 by decide);omega
 ·exact Int.tmod_lt_of_pos a (by decide)
def jmi:List LV→Option (LV×List (Bool×Bool))
 | [.v (.one (.int .i64 a))]=>some (I (kA a),[])
 | _=>none
theorem jmj:SumOK Tryz.prog 76 (jq jmi):=by
 refine sumtwrap.pure_re fun args v cs hF hc=> ?_
 unfold jmi at hF
 split at hF
 ·rename_i a
  cases hF
  show ∃cs',jdw a=_∧_
  obtain ⟨h0,h1,-⟩:=jmh a
  unfold jdw kA
  generalize a.tmod 6746518852=t at *
  by_cases c1:t>3373259426
  ·rw [jy (decide_eq_true c1),if_pos c1]
   have e:wr .i64 (t - 6746518852)=t - 6746518852:=q9 (by omega) (by omega)
   exact ⟨[],by rw [e];rfl,jd⟩
  ·rw [jv (decide_eq_false c1),if_neg c1]
   by_cases c2:t≤ -3373259426
   ·rw [jy (decide_eq_true c2),if_pos c2]
    have e:wr .i64 (t+6746518852)=t+6746518852:=q9 (by omega) (by omega)
    exact ⟨[],by rw [e];rfl,jd⟩
   ·rw [jv (decide_eq_false c2),if_neg c2]
    exact ⟨[],rfl,jd⟩
 ·cases hF
end Go.Proofs.YtbpfipbhaagllaaGreat

/- The second answer's wrapping of angles: its runs (printed), and what it comes to. -/
namespace Go.Proofs.YtbpfipbhaagllaaGreat
open Go.Lr
noncomputable def S34:FuncId→Option SumK:=more S24 76 (jq jmi)
theorem sound34:Sound Tryz.prog S34:=sound24.more jmj
end Go.Proofs.YtbpfipbhaagllaaGreat

/- Summaries of methods with slices, told in other words; fx.Add without an ask. -/
namespace Go.Lr
open Go.RowKit
def acT (ty:TypeId) (es:Nat) (F:List AV→Bool→Option (LV×Bool×List (Bool×Bool))) (c:Nat) (rest:List LV) (bl:List Nat):Tch:=⟨bl,[c],fun rdB wB _=>match wB with
 | [⟨t,(0,0),0,[.bool h]⟩]=>match Nat.beq t ty with
  | true=>match avA es rest rdB with
   | some (avs,cs0)=>match F avs h with
    | some (v,h',cs)=>match v.ok noP with
     | true=>some ⟨v,[flag ty h'],[],cs0++cs⟩
     | false=>none
    | none=>none
   | none=>none
  | false=>none
 | _=>none⟩
theorem SumOK.ac_re {P:Program} {f:FuncId} {ty:TypeId} {es:Nat} {F F':List AV→Bool→Option (LV×Bool×List (Bool×Bool))} (h:SumOK P f (x9 ty es F))
  (hi:∀avs hb v h' cs,F' avs hb=some (v,h',cs)→(∀c∈cs,c.1=c.2)→∃cs',F avs hb=some (v,h',cs')∧∀c∈cs',c.1=c.2):SumOK P f (x9 ty es F'):=by
 intro args t g nb p rdB wrB ans ws E w hs hr hw hnd hgo hz hc hrel hg hargs hn
 unfold x9 at hs
 split at hs
 ·rename_i c rest
  split at hs
  ·rename_i bl hbl
   split at hs
   ·rename_i hm
    cases hs
    simp only at hgo hw hr hz
    split at hgo
    ·rename_i t' hb
     split at hgo
     ·rename_i hty
      split at hgo
      ·rename_i avs cs0 hav
       split at hgo
       ·rename_i v h' cs hF
        split at hgo
        ·rename_i hv
         cases hgo
         obtain ⟨cs',h1,h2⟩:=hi avs hb v h' cs hF fun d hd=>hc d (List.mem_append_right _ hd)
         refine h (.v (.one (.ptr c 0))::rest) (acT ty es F c rest bl) g nb p rdB _ ⟨v,[flag ty h'],[],cs0++cs'⟩ ws E w (by unfold x9;simp only [hbl,hm];rfl) hr hw hnd ?_ hz (fun d hd=>(List.mem_append.1 hd).elim (fun hd=>hc d (List.mem_append_left _ hd)) (h2 d)) hrel hg hargs hn
         simp only [acT,hty,hav,h1,hv]
        ·cases hgo
       ·cases hgo
      ·cases hgo
     ·cases hgo
    ·cases hgo
   ·cases hs
  ·cases hs
 ·cases hs
end Go.Lr
namespace Go.Proofs.YtbpfipbhaagllaaGreat
open Go.Lr
def jcA:List AV→Bool→Option (LV×Bool×List (Bool×Bool))
 | [.ints xs],hb=>match Nat.ble xs.length 1000 with
  | true=>some (I (Xl xs),hb||ja7 xs,[])
  | false=>none
 | _,_=>none
theorem jcB:SumOK Tryz.prog 137 (x9 63 1 jcA):=by
 refine sumFadd.ac_re fun avs hb v h' cs hF hc=> ?_
 unfold jcA at hF
 split at hF
 ·rename_i xs
  split at hF
  ·rename_i hl
   cases hF
   have:=Nat.le_of_ble_eq_true hl
   exact ⟨_,rfl,ja (decide_eq_true (by omega)) jd⟩
  ·cases hF
 ·cases hF
noncomputable def S35:FuncId→Option SumK:=more S34 137 (x9 63 1 jcA)
theorem sound35:Sound Tryz.prog S35:=sound34.more jcB
end Go.Proofs.YtbpfipbhaagllaaGreat

/- trig.Atan2: its runs, against what it computes. -/
namespace Go.Proofs.YtbpfipbhaagllaaGreat
open Go.Lr
def jkX (z:Int):Int→List Int→Int
 | s,[]=>s
 | s,k::l=>jkX z (Xl [k,kY z s 30]) l
def jhR (z:Int):Bool→Int→List Int→Bool
 | h,s,[]=>h
 | h,s,k::l=>jhR z (h||Xk z s 30||ja7 [k,kY z s 30]) (Xl [k,kY z s 30]) l
def atL:List Int:=[51130563,-56512728,63161284,-71582788,82595525,-97612893,119304647,-153391689,214748365,-357913941,1073741824]
def mnV (y x:Int):Int:=if jB (jf x)<jB (jf y) then jB (jf x) else jB (jf y)
def mxV (y x:Int):Int:=if jB (jf x)>jB (jf y) then jB (jf x) else jB (jf y)
def t0V (y x:Int):Int:=kV (mnV y x) (mxV y x) 30
def ttV (big:Bool) (t0:Int):Int:=bif big then kV (wr .i64 (t0 - 1073741824)) (wr .i64 (t0+1073741824)) 30 else t0
def r0V (big:Bool) (t0:Int):Int:=wr .i64 ((bif big then 843314857 else 0)+kY (ttV big t0) (jkX (kY (ttV big t0) (ttV big t0) 30) (-46684427) atL) 30)
def yV (big steep xn yn:Bool) (t0:Int):Int:=
 bif yn then wr .i64 (0 - (bif xn then wr .i64 (3373259426 - (bif steep then wr .i64 (1686629713 - r0V big t0) else r0V big t0)) else (bif steep then wr .i64 (1686629713 - r0V big t0) else r0V big t0)))
 else (bif xn then wr .i64 (3373259426 - (bif steep then wr .i64 (1686629713 - r0V big t0) else r0V big t0)) else (bif steep then wr .i64 (1686629713 - r0V big t0) else r0V big t0))
def qV (big:Bool) (y x:Int) (h:Bool):Bool:=
 jhR (kY (ttV big (t0V y x)) (ttV big (t0V y x)) 30) ((bif big then h||xD (mnV y x) (mxV y x) 30||xD (wr .i64 (t0V y x - 1073741824)) (wr .i64 (t0V y x+1073741824)) 30 else h||xD (mnV y x) (mxV y x) 30)||Xk (ttV big (t0V y x)) (ttV big (t0V y x)) 30) (-46684427) atL||Xk (ttV big (t0V y x)) (jkX (kY (ttV big (t0V y x)) (ttV big (t0V y x)) 30) (-46684427) atL) 30
theorem atZ (y x:Int) (hb:Bool):(jG Tryz.prog S35 Zl 2000 208 [A0,I y,I x] [(0,flag 63 hb)] 1 [some true]).map kU=some (I 0,some (flag 63 (hb||jL y||jL x)),[(mxV y x==0,true)]):=by kernel_rfl
theorem joe (y x:Int) (hb:Bool):(jG Tryz.prog S35 Zl 2000 208 [A0,I y,I x] [(0,flag 63 hb)] 1 [some false,some true,none,none,none,none,none,none,none,none,none,none,none,none,some true,some true,some true]).map kU=some (I (yV true true true true (t0V y x)),some (flag 63 (qV true y x (hb||jL y||jL x))),[(decide (jf y<0),true),(decide (jf x<0),true),(decide (jB (jf y)>jB (jf x)),true),(decide (t0V y x>444758426),true),(mxV y x==0,false)]):=by kernel_rfl
theorem jof (y x:Int) (hb:Bool):(jG Tryz.prog S35 Zl 2000 208 [A0,I y,I x] [(0,flag 63 hb)] 1 [some false,some true,none,none,none,none,none,none,none,none,none,none,none,none,some true,some true,some false]).map kU=some (I (yV true true true false (t0V y x)),some (flag 63 (qV true y x (hb||jL y||jL x))),[(decide (jf y<0),false),(decide (jf x<0),true),(decide (jB (jf y)>jB (jf x)),true),(decide (t0V y x>444758426),true),(mxV y x==0,false)]):=by kernel_rfl
theorem jog (y x:Int) (hb:Bool):(jG Tryz.prog S35 Zl 2000 208 [A0,I y,I x] [(0,flag 63 hb)] 1 [some false,some true,none,none,none,none,none,none,none,none,none,none,none,none,some true,some false,some true]).map kU=some (I (yV true true false true (t0V y x)),some (flag 63 (qV true y x (hb||jL y||jL x))),[(decide (jf y<0),true),(decide (jf x<0),false),(decide (jB (jf y)>jB (jf x)),true),(decide (t0V y x>444758426),true),(mxV y x==0,false)]):=by kernel_rfl
theorem joh (y x:Int) (hb:Bool):(jG Tryz.prog S35 Zl 2000 208 [A0,I y,I x] [(0,flag 63 hb)] 1 [some false,some true,none,none,none,none,none,none,none,none,none,none,none,none,some true,some false,some false]).map kU=some (I (yV true true false false (t0V y x)),some (flag 63 (qV true y x (hb||jL y||jL x))),[(decide (jf y<0),false),(decide (jf x<0),false),(decide (jB (jf y)>jB (jf x)),true),(decide (t0V y x>444758426),true),(mxV y x==0,false)]):=by kernel_rfl
theorem joi (y x:Int) (hb:Bool):(jG Tryz.prog S35 Zl 2000 208 [A0,I y,I x] [(0,flag 63 hb)] 1 [some false,some true,none,none,none,none,none,none,none,none,none,none,none,none,some false,some true,some true]).map kU=some (I (yV true false true true (t0V y x)),some (flag 63 (qV true y x (hb||jL y||jL x))),[(decide (jf y<0),true),(decide (jf x<0),true),(decide (jB (jf y)>jB (jf x)),false),(decide (t0V y x>444758426),true),(mxV y x==0,false)]):=by kernel_rfl
theorem joj (y x:Int) (hb:Bool):(jG Tryz.prog S35 Zl 2000 208 [A0,I y,I x] [(0,flag 63 hb)] 1 [some false,some true,none,none,none,none,none,none,none,none,none,none,none,none,some false,some true,some false]).map kU=some (I (yV true false true false (t0V y x)),some (flag 63 (qV true y x (hb||jL y||jL x))),[(decide (jf y<0),false),(decide (jf x<0),true),(decide (jB (jf y)>jB (jf x)),false),(decide (t0V y x>444758426),true),(mxV y x==0,false)]):=by kernel_rfl
theorem jok (y x:Int) (hb:Bool):(jG Tryz.prog S35 Zl 2000 208 [A0,I y,I x] [(0,flag 63 hb)] 1 [some false,some true,none,none,none,none,none,none,none,none,none,none,none,none,some false,some false,some true]).map kU=some (I (yV true false false true (t0V y x)),some (flag 63 (qV true y x (hb||jL y||jL x))),[(decide (jf y<0),true),(decide (jf x<0),false),(decide (jB (jf y)>jB (jf x)),false),(decide (t0V y x>444758426),true),(mxV y x==0,false)]):=by kernel_rfl
theorem jol (y x:Int) (hb:Bool):(jG Tryz.prog S35 Zl 2000 208 [A0,I y,I x] [(0,flag 63 hb)] 1 [some false,some true,none,none,none,none,none,none,none,none,none,none,none,none,some false,some false,some false]).map kU=some (I (yV true false false false (t0V y x)),some (flag 63 (qV true y x (hb||jL y||jL x))),[(decide (jf y<0),false),(decide (jf x<0),false),(decide (jB (jf y)>jB (jf x)),false),(decide (t0V y x>444758426),true),(mxV y x==0,false)]):=by kernel_rfl
theorem jom (y x:Int) (hb:Bool):(jG Tryz.prog S35 Zl 2000 208 [A0,I y,I x] [(0,flag 63 hb)] 1 [some false,some false,none,none,none,none,none,none,none,none,none,none,none,none,some true,some true,some true]).map kU=some (I (yV false true true true (t0V y x)),some (flag 63 (qV false y x (hb||jL y||jL x))),[(decide (jf y<0),true),(decide (jf x<0),true),(decide (jB (jf y)>jB (jf x)),true),(decide (t0V y x>444758426),false),(mxV y x==0,false)]):=by kernel_rfl
theorem jon (y x:Int) (hb:Bool):(jG Tryz.prog S35 Zl 2000 208 [A0,I y,I x] [(0,flag 63 hb)] 1 [some false,some false,none,none,none,none,none,none,none,none,none,none,none,none,some true,some true,some false]).map kU=some (I (yV false true true false (t0V y x)),some (flag 63 (qV false y x (hb||jL y||jL x))),[(decide (jf y<0),false),(decide (jf x<0),true),(decide (jB (jf y)>jB (jf x)),true),(decide (t0V y x>444758426),false),(mxV y x==0,false)]):=by kernel_rfl
theorem joo (y x:Int) (hb:Bool):(jG Tryz.prog S35 Zl 2000 208 [A0,I y,I x] [(0,flag 63 hb)] 1 [some false,some false,none,none,none,none,none,none,none,none,none,none,none,none,some true,some false,some true]).map kU=some (I (yV false true false true (t0V y x)),some (flag 63 (qV false y x (hb||jL y||jL x))),[(decide (jf y<0),true),(decide (jf x<0),false),(decide (jB (jf y)>jB (jf x)),true),(decide (t0V y x>444758426),false),(mxV y x==0,false)]):=by kernel_rfl
theorem jop (y x:Int) (hb:Bool):(jG Tryz.prog S35 Zl 2000 208 [A0,I y,I x] [(0,flag 63 hb)] 1 [some false,some false,none,none,none,none,none,none,none,none,none,none,none,none,some true,some false,some false]).map kU=some (I (yV false true false false (t0V y x)),some (flag 63 (qV false y x (hb||jL y||jL x))),[(decide (jf y<0),false),(decide (jf x<0),false),(decide (jB (jf y)>jB (jf x)),true),(decide (t0V y x>444758426),false),(mxV y x==0,false)]):=by kernel_rfl
theorem joq (y x:Int) (hb:Bool):(jG Tryz.prog S35 Zl 2000 208 [A0,I y,I x] [(0,flag 63 hb)] 1 [some false,some false,none,none,none,none,none,none,none,none,none,none,none,none,some false,some true,some true]).map kU=some (I (yV false false true true (t0V y x)),some (flag 63 (qV false y x (hb||jL y||jL x))),[(decide (jf y<0),true),(decide (jf x<0),true),(decide (jB (jf y)>jB (jf x)),false),(decide (t0V y x>444758426),false),(mxV y x==0,false)]):=by kernel_rfl
theorem jor (y x:Int) (hb:Bool):(jG Tryz.prog S35 Zl 2000 208 [A0,I y,I x] [(0,flag 63 hb)] 1 [some false,some false,none,none,none,none,none,none,none,none,none,none,none,none,some false,some true,some false]).map kU=some (I (yV false false true false (t0V y x)),some (flag 63 (qV false y x (hb||jL y||jL x))),[(decide (jf y<0),false),(decide (jf x<0),true),(decide (jB (jf y)>jB (jf x)),false),(decide (t0V y x>444758426),false),(mxV y x==0,false)]):=by kernel_rfl
theorem jos (y x:Int) (hb:Bool):(jG Tryz.prog S35 Zl 2000 208 [A0,I y,I x] [(0,flag 63 hb)] 1 [some false,some false,none,none,none,none,none,none,none,none,none,none,none,none,some false,some false,some true]).map kU=some (I (yV false false false true (t0V y x)),some (flag 63 (qV false y x (hb||jL y||jL x))),[(decide (jf y<0),true),(decide (jf x<0),false),(decide (jB (jf y)>jB (jf x)),false),(decide (t0V y x>444758426),false),(mxV y x==0,false)]):=by kernel_rfl
theorem jot (y x:Int) (hb:Bool):(jG Tryz.prog S35 Zl 2000 208 [A0,I y,I x] [(0,flag 63 hb)] 1 [some false,some false,none,none,none,none,none,none,none,none,none,none,none,none,some false,some false,some false]).map kU=some (I (yV false false false false (t0V y x)),some (flag 63 (qV false y x (hb||jL y||jL x))),[(decide (jf y<0),false),(decide (jf x<0),false),(decide (jB (jf y)>jB (jf x)),false),(decide (t0V y x>444758426),false),(mxV y x==0,false)]):=by kernel_rfl
def jou (y x:Int):Int:=bif mxV y x==0 then 0 else yV (decide (t0V y x>444758426)) (decide (jB (jf y)>jB (jf x))) (decide (jf x<0)) (decide (jf y<0)) (t0V y x)
def jov (y x:Int) (h:Bool):Bool:=bif mxV y x==0 then h||jL y||jL x else qV (decide (t0V y x>444758426)) y x (h||jL y||jL x)
def jkY:List LV→Bool→Option (LV×Bool×List (Bool×Bool))
 | [.v (.one (.int .i64 y)),.v (.one (.int .i64 x))],hb=>some (I (jou y x),jov y x hb,[])
 | _,_=>none
theorem jkZ:SumOK Tryz.prog 208 (js 63 jkY):=by
 refine jF (z:=Zl) sound35 (jl sound35 Tryz.func208 (by kernel_rfl)) fun args hb v h' cs hF hc=> ?_
 unfold jkY at hF
 split at hF
 ·rename_i y x
  cases hF
  refine ⟨rfl, ?_⟩
  unfold jou jov
  rcases ji (mxV y x==0) with h0 | h0
  ·rw [jy h0,jy h0]
   exact ⟨2000,[some true],_,atZ y x hb,ja h0 jd⟩
  ·rw [jv h0,jv h0]
   rcases ji (decide (t0V y x>444758426)) with h1 | h1
   ·rcases ji (decide (jB (jf y)>jB (jf x))) with h2 | h2
    ·rcases ji (decide (jf x<0)) with h3 | h3
     ·rcases ji (decide (jf y<0)) with h4 | h4
      ·rw [h1,h2,h3,h4]
       exact ⟨2000,_,_,joe y x hb,ja h4 (ja h3 (ja h2 (ja h1 (ja h0 jd))))⟩
      ·rw [h1,h2,h3,h4]
       exact ⟨2000,_,_,jof y x hb,ja h4 (ja h3 (ja h2 (ja h1 (ja h0 jd))))⟩
     ·rcases ji (decide (jf y<0)) with h4 | h4
      ·rw [h1,h2,h3,h4]
       exact ⟨2000,_,_,jog y x hb,ja h4 (ja h3 (ja h2 (ja h1 (ja h0 jd))))⟩
      ·rw [h1,h2,h3,h4]
       exact ⟨2000,_,_,joh y x hb,ja h4 (ja h3 (ja h2 (ja h1 (ja h0 jd))))⟩
    ·rcases ji (decide (jf x<0)) with h3 | h3
     ·rcases ji (decide (jf y<0)) with h4 | h4
      ·rw [h1,h2,h3,h4]
       exact ⟨2000,_,_,joi y x hb,ja h4 (ja h3 (ja h2 (ja h1 (ja h0 jd))))⟩
      ·rw [h1,h2,h3,h4]
       exact ⟨2000,_,_,joj y x hb,ja h4 (ja h3 (ja h2 (ja h1 (ja h0 jd))))⟩
     ·rcases ji (decide (jf y<0)) with h4 | h4
      ·rw [h1,h2,h3,h4]
       exact ⟨2000,_,_,jok y x hb,ja h4 (ja h3 (ja h2 (ja h1 (ja h0 jd))))⟩
      ·rw [h1,h2,h3,h4]
       exact ⟨2000,_,_,jol y x hb,ja h4 (ja h3 (ja h2 (ja h1 (ja h0 jd))))⟩
   ·rcases ji (decide (jB (jf y)>jB (jf x))) with h2 | h2
    ·rcases ji (decide (jf x<0)) with h3 | h3
     ·rcases ji (decide (jf y<0)) with h4 | h4
      ·rw [h1,h2,h3,h4]
       exact ⟨2000,_,_,jom y x hb,ja h4 (ja h3 (ja h2 (ja h1 (ja h0 jd))))⟩
      ·rw [h1,h2,h3,h4]
       exact ⟨2000,_,_,jon y x hb,ja h4 (ja h3 (ja h2 (ja h1 (ja h0 jd))))⟩
     ·rcases ji (decide (jf y<0)) with h4 | h4
      ·rw [h1,h2,h3,h4]
       exact ⟨2000,_,_,joo y x hb,ja h4 (ja h3 (ja h2 (ja h1 (ja h0 jd))))⟩
      ·rw [h1,h2,h3,h4]
       exact ⟨2000,_,_,jop y x hb,ja h4 (ja h3 (ja h2 (ja h1 (ja h0 jd))))⟩
    ·rcases ji (decide (jf x<0)) with h3 | h3
     ·rcases ji (decide (jf y<0)) with h4 | h4
      ·rw [h1,h2,h3,h4]
       exact ⟨2000,_,_,joq y x hb,ja h4 (ja h3 (ja h2 (ja h1 (ja h0 jd))))⟩
      ·rw [h1,h2,h3,h4]
       exact ⟨2000,_,_,jor y x hb,ja h4 (ja h3 (ja h2 (ja h1 (ja h0 jd))))⟩
     ·rcases ji (decide (jf y<0)) with h4 | h4
      ·rw [h1,h2,h3,h4]
       exact ⟨2000,_,_,jos y x hb,ja h4 (ja h3 (ja h2 (ja h1 (ja h0 jd))))⟩
      ·rw [h1,h2,h3,h4]
       exact ⟨2000,_,_,jot y x hb,ja h4 (ja h3 (ja h2 (ja h1 (ja h0 jd))))⟩
 ·cases hF
noncomputable def S36:FuncId→Option SumK:=more S35 208 (js 63 jkY)
theorem sound36:Sound Tryz.prog S36:=sound35.more jkZ
end Go.Proofs.YtbpfipbhaagllaaGreat

/- The law folder's awake, of chapter 4: its run. -/
namespace Go.Proofs.YtbpfipbhaagllaaGreat
open Go.Lr
end Go.Proofs.YtbpfipbhaagllaaGreat

/- What the laws of chapter 4 call: the awake, a number without its sign. -/
namespace Go.Proofs.YtbpfipbhaagllaaGreat
open Go.Lr
end Go.Proofs.YtbpfipbhaagllaaGreat

/- Sines, and the second answer's sines and angles: their runs, against what they compute. -/
namespace Go.Proofs.YtbpfipbhaagllaaGreat
open Go.Lr
def sL1:List Int:=[2959,-213044,8947849,-178956971,1073741824]
def sL2:List Int:=[-296,26631,-1491308,44739243,-536870912,1073741824]
def mmV (s:Int):Int:=if (1073741824:Int)<(if (-1073741824:Int)>s then -1073741824 else s) then 1073741824 else (if (-1073741824:Int)>s then -1073741824 else s)
def xO (b1 b2:Bool) (a:Int):Int:=bif b1 then wr .i64 (3373259426 - kA (jf a)) else bif b2 then wr .i64 (-3373259426 - kA (jf a)) else kA (jf a)
def jcD (w:Int):Int:=wr .i64 (1686629713 - jB w)
def jhS (w:Int):Int:=kY w (jkX (kY w w 30) (-27) sL1) 30
def jhT (w:Int) (h:Bool):Bool:=jhR (kY w w 30) (h||Xk w w 30) (-27) sL1||Xk w (jkX (kY w w 30) (-27) sL1) 30
def ja8 (ng:Bool) (x:Int):Int:=bif ng then wr .i64 (0 - jkX (kY x x 30) 2 sL2) else jkX (kY x x 30) 2 sL2
def ja9 (x:Int) (h:Bool):Bool:=jhR (kY x x 30) (h||Xk x x 30) 2 sL2
theorem jsg (a:Int) (hb:Bool):(jG Tryz.prog S36 Zl 2000 44 [A0,I a] [(0,flag 63 hb)] 1 [some true,some true,none,none,none,none,none,none,none]).map kU=some (I (mmV (jhS (xO true false a))),some (flag 63 (jhT (xO true false a) (hb||jL a))),[(decide (jB (xO true false a)≤843314857),true),(decide (kA (jf a)>1686629713),true)]):=by kernel_rfl
theorem jow (a:Int) (hb:Bool):(jG Tryz.prog S36 Zl 2000 44 [A0,I a] [(0,flag 63 hb)] 1 [some true,some false,none,none,none,none,none,none,none,some true]).map kU=some (I (mmV (ja8 true (jcD (xO true false a)))),some (flag 63 (ja9 (jcD (xO true false a)) (hb||jL a))),[(decide ((xO true false a)<0),true),(decide (jB (xO true false a)≤843314857),false),(decide (kA (jf a)>1686629713),true)]):=by kernel_rfl
theorem jox (a:Int) (hb:Bool):(jG Tryz.prog S36 Zl 2000 44 [A0,I a] [(0,flag 63 hb)] 1 [some true,some false,none,none,none,none,none,none,none,some false]).map kU=some (I (mmV (ja8 false (jcD (xO true false a)))),some (flag 63 (ja9 (jcD (xO true false a)) (hb||jL a))),[(decide ((xO true false a)<0),false),(decide (jB (xO true false a)≤843314857),false),(decide (kA (jf a)>1686629713),true)]):=by kernel_rfl
theorem jsh (a:Int) (hb:Bool):(jG Tryz.prog S36 Zl 2000 44 [A0,I a] [(0,flag 63 hb)] 1 [some false,some true,some true,none,none,none,none,none,none,none]).map kU=some (I (mmV (jhS (xO false true a))),some (flag 63 (jhT (xO false true a) (hb||jL a))),[(decide (jB (xO false true a)≤843314857),true),(decide (kA (jf a) < -1686629713),true),(decide (kA (jf a)>1686629713),false)]):=by kernel_rfl
theorem joy (a:Int) (hb:Bool):(jG Tryz.prog S36 Zl 2000 44 [A0,I a] [(0,flag 63 hb)] 1 [some false,some true,some false,none,none,none,none,none,none,none,some true]).map kU=some (I (mmV (ja8 true (jcD (xO false true a)))),some (flag 63 (ja9 (jcD (xO false true a)) (hb||jL a))),[(decide ((xO false true a)<0),true),(decide (jB (xO false true a)≤843314857),false),(decide (kA (jf a) < -1686629713),true),(decide (kA (jf a)>1686629713),false)]):=by kernel_rfl
theorem joz (a:Int) (hb:Bool):(jG Tryz.prog S36 Zl 2000 44 [A0,I a] [(0,flag 63 hb)] 1 [some false,some true,some false,none,none,none,none,none,none,none,some false]).map kU=some (I (mmV (ja8 false (jcD (xO false true a)))),some (flag 63 (ja9 (jcD (xO false true a)) (hb||jL a))),[(decide ((xO false true a)<0),false),(decide (jB (xO false true a)≤843314857),false),(decide (kA (jf a) < -1686629713),true),(decide (kA (jf a)>1686629713),false)]):=by kernel_rfl
theorem jsi (a:Int) (hb:Bool):(jG Tryz.prog S36 Zl 2000 44 [A0,I a] [(0,flag 63 hb)] 1 [some false,some false,some true,none,none,none,none,none,none,none]).map kU=some (I (mmV (jhS (xO false false a))),some (flag 63 (jhT (xO false false a) (hb||jL a))),[(decide (jB (xO false false a)≤843314857),true),(decide (kA (jf a) < -1686629713),false),(decide (kA (jf a)>1686629713),false)]):=by kernel_rfl
theorem joA (a:Int) (hb:Bool):(jG Tryz.prog S36 Zl 2000 44 [A0,I a] [(0,flag 63 hb)] 1 [some false,some false,some false,none,none,none,none,none,none,none,some true]).map kU=some (I (mmV (ja8 true (jcD (xO false false a)))),some (flag 63 (ja9 (jcD (xO false false a)) (hb||jL a))),[(decide ((xO false false a)<0),true),(decide (jB (xO false false a)≤843314857),false),(decide (kA (jf a) < -1686629713),false),(decide (kA (jf a)>1686629713),false)]):=by kernel_rfl
theorem joB (a:Int) (hb:Bool):(jG Tryz.prog S36 Zl 2000 44 [A0,I a] [(0,flag 63 hb)] 1 [some false,some false,some false,none,none,none,none,none,none,none,some false]).map kU=some (I (mmV (ja8 false (jcD (xO false false a)))),some (flag 63 (ja9 (jcD (xO false false a)) (hb||jL a))),[(decide ((xO false false a)<0),false),(decide (jB (xO false false a)≤843314857),false),(decide (kA (jf a) < -1686629713),false),(decide (kA (jf a)>1686629713),false)]):=by kernel_rfl
def jk0 (w:Int):Int:=bif decide (jB w≤843314857) then mmV (jhS w) else mmV (ja8 (decide (w<0)) (jcD w))
def jba (w:Int) (h:Bool):Bool:=bif decide (jB w≤843314857) then jhT w h else ja9 (jcD w) h
def jeD (a:Int):Int:=jk0 (xO (decide (kA (jf a)>1686629713)) (decide (kA (jf a) < -1686629713)) a)
def jk1 (a:Int) (h:Bool):Bool:=jba (xO (decide (kA (jf a)>1686629713)) (decide (kA (jf a) < -1686629713)) a) (h||jL a)
def jsj:List LV→Bool→Option (LV×Bool×List (Bool×Bool))
 | [.v (.one (.int .i64 a))],hb=>some (I (jeD a),jk1 a hb,[])
 | _,_=>none
theorem joC:SumOK Tryz.prog 44 (js 63 jsj):=by
 refine jF (z:=Zl) sound36 (jl sound36 Tryz.func44 (by kernel_rfl)) fun args hb v h' cs hF hc=> ?_
 unfold jsj at hF
 split at hF
 ·rename_i a
  cases hF
  refine ⟨rfl, ?_⟩
  unfold jeD jk1
  have eT:∀b:Bool,xO true b a=xO true false a:=fun b=>rfl
  rcases ji (decide (kA (jf a)>1686629713)) with h1 | h1
  ·rw [h1,eT]
   rcases ji (decide (jB (xO true false a)≤843314857)) with h3 | h3
   ·unfold jk0 jba;rw [jy h3,jy h3];exact ⟨2000,_,_,jsg a hb,ja h3 (ja h1 jd)⟩
   ·unfold jk0 jba;rw [jv h3,jv h3]
    rcases ji (decide ((xO true false a)<0)) with h4 | h4
    ·rw [h4];exact ⟨2000,_,_,jow a hb,ja h4 (ja h3 (ja h1 jd))⟩
    ·rw [h4];exact ⟨2000,_,_,jox a hb,ja h4 (ja h3 (ja h1 jd))⟩
  ·rw [h1]
   rcases ji (decide (kA (jf a) < -1686629713)) with h2 | h2
   ·rw [h2]
    rcases ji (decide (jB (xO false true a)≤843314857)) with h3 | h3
    ·unfold jk0 jba;rw [jy h3,jy h3];exact ⟨2000,_,_,jsh a hb,ja h3 (ja h2 (ja h1 jd))⟩
    ·unfold jk0 jba;rw [jv h3,jv h3]
     rcases ji (decide ((xO false true a)<0)) with h4 | h4
     ·rw [h4];exact ⟨2000,_,_,joy a hb,ja h4 (ja h3 (ja h2 (ja h1 jd)))⟩
     ·rw [h4];exact ⟨2000,_,_,joz a hb,ja h4 (ja h3 (ja h2 (ja h1 jd)))⟩
   ·rw [h2]
    rcases ji (decide (jB (xO false false a)≤843314857)) with h3 | h3
    ·unfold jk0 jba;rw [jy h3,jy h3];exact ⟨2000,_,_,jsi a hb,ja h3 (ja h2 (ja h1 jd))⟩
    ·unfold jk0 jba;rw [jv h3,jv h3]
     rcases ji (decide ((xO false false a)<0)) with h4 | h4
     ·rw [h4];exact ⟨2000,_,_,joA a hb,ja h4 (ja h3 (ja h2 (ja h1 jd)))⟩
     ·rw [h4];exact ⟨2000,_,_,joB a hb,ja h4 (ja h3 (ja h2 (ja h1 jd)))⟩
 ·cases hF
noncomputable def S38:FuncId→Option SumK:=more S36 44 (js 63 jsj)
theorem sound38:Sound Tryz.prog S38:=sound36.more joC
def jbb (a:Int):Int:=jeD (wr .i64 (1686629713+kA a))
def jmC (a:Int) (h:Bool):Bool:=jk1 (wr .i64 (1686629713+kA a)) h
def jsk:List LV→Bool→Option (LV×Bool×List (Bool×Bool))
 | [.v (.one (.int .i64 a))],hb=>some (I (jbb a),jmC a hb,[])
 | _,_=>none
theorem joD (a:Int) (hb:Bool) (ty:TypeId) (ht:ty=63):(jG Tryz.prog S38 Zl 2000 45 [A0,I a] [(0,flag ty hb)] 1 []).map kU=some (I (jbb a),some (flag ty (jmC a hb)),[]):=by subst ht;kernel_rfl
theorem joE:SumOK Tryz.prog 45 (js 63 jsk):=by
 refine jF (z:=Zl) sound38 (jl sound38 Tryz.func45 (by kernel_rfl)) fun args hb v h' cs hF hc=> ?_
 unfold jsk at hF
 split at hF
 ·rename_i a
  cases hF
  exact ⟨rfl,2000,_,_,joD a hb _ rfl,jd⟩
 ·cases hF
noncomputable def S39:FuncId→Option SumK:=more S38 45 (js 63 jsk)
theorem sound39:Sound Tryz.prog S39:=sound38.more joE
end Go.Proofs.YtbpfipbhaagllaaGreat

/- Quaternions in both answers: their runs, against what they compute. -/
namespace Go.Proofs.YtbpfipbhaagllaaGreat
open Go.Lr
def uE (x a0 a1 a2 a3:Int):Int:=kV (kV x (Jq [a0,a1,a2,a3]) 30) (Jq [kV a0 (Jq [a0,a1,a2,a3]) 30,kV a1 (Jq [a0,a1,a2,a3]) 30,kV a2 (Jq [a0,a1,a2,a3]) 30,kV a3 (Jq [a0,a1,a2,a3]) 30]) 30
def uM (a0 a1 a2 a3:Int):Int:=Jq [kV a0 (Jq [a0,a1,a2,a3]) 30,kV a1 (Jq [a0,a1,a2,a3]) 30,kV a2 (Jq [a0,a1,a2,a3]) 30,kV a3 (Jq [a0,a1,a2,a3]) 30]
def uH (h:Bool) (a0 a1 a2 a3:Int):Bool:=h||jg8 [a0,a1,a2,a3]||xD a0 (Jq [a0,a1,a2,a3]) 30||xD a1 (Jq [a0,a1,a2,a3]) 30||xD a2 (Jq [a0,a1,a2,a3]) 30||xD a3 (Jq [a0,a1,a2,a3]) 30||jg8 [kV a0 (Jq [a0,a1,a2,a3]) 30,kV a1 (Jq [a0,a1,a2,a3]) 30,kV a2 (Jq [a0,a1,a2,a3]) 30,kV a3 (Jq [a0,a1,a2,a3]) 30]||xD (kV a0 (Jq [a0,a1,a2,a3]) 30) (uM a0 a1 a2 a3) 30||xD (kV a1 (Jq [a0,a1,a2,a3]) 30) (uM a0 a1 a2 a3) 30||xD (kV a2 (Jq [a0,a1,a2,a3]) 30) (uM a0 a1 a2 a3) 30||xD (kV a3 (Jq [a0,a1,a2,a3]) 30) (uM a0 a1 a2 a3) 30
def uZ (a0 a1 a2 a3:Int):Bool:=jf a0==0&&(jf a1==0&&(jf a2==0&&(jf a3==0&&true)))
def uS (h:Bool) (a0 a1 a2 a3:Int):Bool:=h||jL a0||jL a1||jL a2||jL a3
def jbc:List LV→Bool→Option (LV×Bool×List (Bool×Bool))
 | [.v (.agg [.int .i64 a0,.int .i64 a1,.int .i64 a2,.int .i64 a3])],hb=>some (.v (.agg [.int .i64 (bif uZ a0 a1 a2 a3 then 1073741824 else uE (jf a0) (jf a0) (jf a1) (jf a2) (jf a3)),.int .i64 (bif uZ a0 a1 a2 a3 then 0 else uE (jf a1) (jf a0) (jf a1) (jf a2) (jf a3)),.int .i64 (bif uZ a0 a1 a2 a3 then 0 else uE (jf a2) (jf a0) (jf a1) (jf a2) (jf a3)),.int .i64 (bif uZ a0 a1 a2 a3 then 0 else uE (jf a3) (jf a0) (jf a1) (jf a2) (jf a3))]),
  (bif uZ a0 a1 a2 a3 then uS hb a0 a1 a2 a3 else uH (uS hb a0 a1 a2 a3) (jf a0) (jf a1) (jf a2) (jf a3)),[])
 | _,_=>none
def juF (a0 a1 a2 a3 b0 b1 b2 b3:Int):LV:= .v (.agg [.int .i64 (qZ 30 [jf a0,jf a1,jf a2,jf a3] [jf b0,wr .i64 (0 - jf b1),wr .i64 (0 - jf b2),wr .i64 (0 - jf b3)]),.int .i64 (qZ 30 [jf a0,jf a1,jf a2,jf a3] [jf b1,jf b0,jf b3,wr .i64 (0 - jf b2)]),.int .i64 (qZ 30 [jf a0,jf a1,jf a2,jf a3] [jf b2,wr .i64 (0 - jf b3),jf b0,jf b1]),.int .i64 (qZ 30 [jf a0,jf a1,jf a2,jf a3] [jf b3,jf b2,wr .i64 (0 - jf b1),jf b0])])
def jk2 (h:Bool) (a0 a1 a2 a3 b0 b1 b2 b3:Int):Bool:=h||jL a0||jL a1||jL a2||jL a3||jL b0||jL b1||jL b2||jL b3||yf 30 [jf a0,jf a1,jf a2,jf a3] [jf b0,wr .i64 (0 - jf b1),wr .i64 (0 - jf b2),wr .i64 (0 - jf b3)]||yf 30 [jf a0,jf a1,jf a2,jf a3] [jf b1,jf b0,jf b3,wr .i64 (0 - jf b2)]||yf 30 [jf a0,jf a1,jf a2,jf a3] [jf b2,wr .i64 (0 - jf b3),jf b0,jf b1]||yf 30 [jf a0,jf a1,jf a2,jf a3] [jf b3,jf b2,wr .i64 (0 - jf b1),jf b0]
def joF:List LV→Bool→Option (LV×Bool×List (Bool×Bool))
 | [.v (.agg [.int .i64 a0,.int .i64 a1,.int .i64 a2,.int .i64 a3]),.v (.agg [.int .i64 b0,.int .i64 b1,.int .i64 b2,.int .i64 b3])],hb=>some (juF a0 a1 a2 a3 b0 b1 b2 b3,jk2 hb a0 a1 a2 a3 b0 b1 b2 b3,[])
 | _,_=>none
theorem puZ (a0 a1 a2 a3:Int) (hb:Bool):(jG Tryz.prog S34 Zl 2000 37 [A0,.v (.agg [.int .i64 a0,.int .i64 a1,.int .i64 a2,.int .i64 a3])] [(0,flag 63 hb)] 1 [some true]).map kU=some (.v (.agg [.int .i64 1073741824,.int .i64 0,.int .i64 0,.int .i64 0]),some (flag 63 (uS hb a0 a1 a2 a3)),[(uZ a0 a1 a2 a3,true)]):=by kernel_rfl
theorem puN (a0 a1 a2 a3:Int) (hb:Bool):(jG Tryz.prog S34 Zl 2000 37 [A0,.v (.agg [.int .i64 a0,.int .i64 a1,.int .i64 a2,.int .i64 a3])] [(0,flag 63 hb)] 1 [some false,none,none,none,none,none,none,none,none,none,none,none,none,none,none,none]).map kU=some (.v (.agg [.int .i64 (uE (jf a0) (jf a0) (jf a1) (jf a2) (jf a3)),.int .i64 (uE (jf a1) (jf a0) (jf a1) (jf a2) (jf a3)),.int .i64 (uE (jf a2) (jf a0) (jf a1) (jf a2) (jf a3)),.int .i64 (uE (jf a3) (jf a0) (jf a1) (jf a2) (jf a3))]),some (flag 63 (uH (uS hb a0 a1 a2 a3) (jf a0) (jf a1) (jf a2) (jf a3))),[(uZ a0 a1 a2 a3,false)]):=by kernel_rfl
theorem sumpu:SumOK Tryz.prog 37 (js 63 jbc):=by
 refine jF (z:=Zl) sound34 (jl sound34 Tryz.func37 (by kernel_rfl)) fun args hb v h' cs hF hc=> ?_
 unfold jbc at hF
 split at hF
 ·rename_i a0 a1 a2 a3
  cases hF
  refine ⟨rfl, ?_⟩
  rcases ji (uZ a0 a1 a2 a3) with h | h
  ·rw [h];exact ⟨2000,_,_,puZ a0 a1 a2 a3 hb,ja h jd⟩
  ·rw [h];exact ⟨2000,_,_,puN a0 a1 a2 a3 hb,ja h jd⟩
 ·cases hF
theorem pmR (a0 a1 a2 a3 b0 b1 b2 b3:Int) (hb:Bool):(jG Tryz.prog S34 Zl 2000 84 [A0,.v (.agg [.int .i64 a0,.int .i64 a1,.int .i64 a2,.int .i64 a3]),.v (.agg [.int .i64 b0,.int .i64 b1,.int .i64 b2,.int .i64 b3])] [(0,flag 63 hb)] 1 []).map kU=some (juF a0 a1 a2 a3 b0 b1 b2 b3,some (flag 63 (jk2 hb a0 a1 a2 a3 b0 b1 b2 b3)),[]):=by kernel_rfl
theorem sumpm:SumOK Tryz.prog 84 (js 63 joF):=by
 refine jF (z:=Zl) sound34 (jl sound34 Tryz.func84 (by kernel_rfl)) fun args hb v h' cs hF hc=> ?_
 unfold joF at hF
 split at hF
 ·rename_i a0 a1 a2 a3 b0 b1 b2 b3
  cases hF
  exact ⟨rfl,2000,_,_,pmR a0 a1 a2 a3 b0 b1 b2 b3 hb,jd⟩
 ·cases hF
end Go.Proofs.YtbpfipbhaagllaaGreat

/- Rotations' matrices in both answers: the second answer's Of, Apply, Back in the program's words. -/
namespace Go.Proofs.YtbpfipbhaagllaaGreat
open Go.Lr
def inS (a:Int):Prop:= -1152921504606846976≤a∧a≤1152921504606846976
end Go.Proofs.YtbpfipbhaagllaaGreat

/- The second answer's matrix of a quaternion: its run (printed), in the program's words. -/
namespace Go.Proofs.YtbpfipbhaagllaaGreat
open Go.Lr
end Go.Proofs.YtbpfipbhaagllaaGreat

/- Headings in both answers: their runs, against what they compute. -/
namespace Go.Proofs.YtbpfipbhaagllaaGreat
open Go.Lr
noncomputable def S42:FuncId→Option SumK:=more S39 37 (js 63 jbc)
theorem sound42:Sound Tryz.prog S42:=sound39.more sumpu
def jhU (ty:TypeId) (r:Option (LV×Bool×List (Bool×Bool))):Option (LV×Option Blk×List (Bool×Bool)):=r.map fun q=>(q.1,some (flag ty q.2.1),q.2.2)
def fyS:List LV→Bool→Option (LV×Bool×List (Bool×Bool))
 | [.v (.one (.int .i64 a))],hb=>jbc [.v (.agg [.int .i64 (jbb (kY (kA a) 536870912 30)),.int .i64 0,.int .i64 0,.int .i64 (jeD (kY (kA a) 536870912 30))])] (jk1 (kY (kA a) 536870912 30) (jmC (kY (kA a) 536870912 30) (hb||Xk (kA a) 536870912 30)))
 | _,_=>none
theorem jvA (a:Int) (hb:Bool):(jG Tryz.prog S42 Zl 2000 194 [A0,I a] [(0,flag 63 hb)] 1 []).map kU=jhU 63 (fyS [I a] hb):=by kernel_rfl
end Go.Proofs.YtbpfipbhaagllaaGreat

/- Exponentials in both answers: their runs, against what they compute. -/
namespace Go.Proofs.YtbpfipbhaagllaaGreat
open Go.Lr
def exN (v0 v1 v2:Int):Int:=Jq [jf v0,jf v1,jf v2]
def jhV (h:Bool) (v0 v1 v2:Int):Bool:=h||jL v0||jL v1||jL v2||jg8 [jf v0,jf v1,jf v2]
def exA (v0 v1 v2:Int):Int:=kY (exN v0 v1 v2) 536870912 30
def exS (v0 v1 v2:Int):Int:=kV (jeD (exA v0 v1 v2)) (exN v0 v1 v2) 30
def juG (h:Bool) (v0 v1 v2:Int):Bool:=jmC (exA v0 v1 v2) (jk1 (exA v0 v1 v2) (jhV h v0 v1 v2||Xk (exN v0 v1 v2) 536870912 30)||xD (jeD (exA v0 v1 v2)) (exN v0 v1 v2) 30)||Xk (jf v0) (exS v0 v1 v2) 30||Xk (jf v1) (exS v0 v1 v2) 30||Xk (jf v2) (exS v0 v1 v2) 30
def exB (v0 v1 v2:Int) (hb:Bool):Option (LV×Bool×List (Bool×Bool)):=jbc [.v (.agg [.int .i64 (jbb (exA v0 v1 v2)),.int .i64 (kY (jf v0) (exS v0 v1 v2) 30),.int .i64 (kY (jf v1) (exS v0 v1 v2) 30),.int .i64 (kY (jf v2) (exS v0 v1 v2) 30)])] (juG hb v0 v1 v2)
def jk3 (c:Bool×Bool) (r:Option (LV×Option Blk×List (Bool×Bool))):Option (LV×Option Blk×List (Bool×Bool)):=r.map fun q=>(q.1,q.2.1,c::q.2.2)
theorem jvB (v0 v1 v2:Int) (hb:Bool):(jG Tryz.prog S42 Zl 2000 139 [A0,.v (.agg [.int .i64 v0,.int .i64 v1,.int .i64 v2])] [(0,flag 63 hb)] 1 [some true]).map kU=some (.v (.agg [.int .i64 1073741824,.int .i64 0,.int .i64 0,.int .i64 0]),some (flag 63 (jhV hb v0 v1 v2)),[(exN v0 v1 v2==0,true)]):=by kernel_rfl
theorem jvC (v0 v1 v2:Int) (hb:Bool):(jG Tryz.prog S42 Zl 2000 139 [A0,.v (.agg [.int .i64 v0,.int .i64 v1,.int .i64 v2])] [(0,flag 63 hb)] 1 [some false]).map kU=jk3 (exN v0 v1 v2==0,false) (jhU 63 (exB v0 v1 v2 hb)):=by kernel_rfl
end Go.Proofs.YtbpfipbhaagllaaGreat

/- Headings and exponentials in both answers: their summaries; turning vectors. -/
namespace Go.Proofs.YtbpfipbhaagllaaGreat
open Go.Lr
theorem Qw {a0 a1 a2 a3:Int} {hb:Bool}:∃v h,jbc [.v (.agg [.int .i64 a0,.int .i64 a1,.int .i64 a2,.int .i64 a3])] hb=some (v,h,[])∧v.ok noP=true:=⟨_,_,rfl,rfl⟩
theorem J0 {ty:TypeId} {r:Option (LV×Bool×List (Bool×Bool))} {v:LV} {h:Bool} {cs:List (Bool×Bool)} (e:r=some (v,h,cs)):jhU ty r=some (v,some (flag ty h),cs):=by subst e;rfl
theorem sumPfy:SumOK Tryz.prog 194 (js 63 fyS):=by
 refine jF (z:=Zl) sound42 (jl sound42 Tryz.func194 (by kernel_rfl)) fun args hb v h' cs hF hc=> ?_
 have hF0:=hF
 unfold fyS at hF
 split at hF
 ·rename_i a
  obtain ⟨v1,h1,e,ok⟩:=Qw (a0:=jbb (kY (kA a) 536870912 30)) (a1:=0) (a2:=0) (a3:=jeD (kY (kA a) 536870912 30)) (hb:=jk1 (kY (kA a) 536870912 30) (jmC (kY (kA a) 536870912 30) (hb||Xk (kA a) 536870912 30)))
  have hF1:=hF
  rw [e] at hF1
  cases hF1
  exact ⟨ok,2000,[],_,(jvA a hb).trans (J0 hF0),jd⟩
 ·cases hF
end Go.Proofs.YtbpfipbhaagllaaGreat

/- Exponentials in both answers: their summaries; the second answer's turning of vectors. -/
namespace Go.Proofs.YtbpfipbhaagllaaGreat
open Go.Lr
def jqI:List LV→Bool→Option (LV×Bool×List (Bool×Bool))
 | [.v (.agg [.int .i64 v0,.int .i64 v1,.int .i64 v2])],hb=>bif exN v0 v1 v2==0 then some (.v (.agg [.int .i64 1073741824,.int .i64 0,.int .i64 0,.int .i64 0]),jhV hb v0 v1 v2,[]) else exB v0 v1 v2 hb
 | _,_=>none
theorem jkR (v0 v1 v2:Int) (hb:Bool):∃v h,exB v0 v1 v2 hb=some (v,h,[])∧v.ok noP=true:=Qw
theorem jkS:SumOK Tryz.prog 139 (js 63 jqI):=by
 refine jF (z:=Zl) sound42 (jl sound42 Tryz.func139 (by kernel_rfl)) fun args hb v h' cs hF hc=> ?_
 unfold jqI at hF
 split at hF
 ·rename_i v0 v1 v2
  rcases ji (exN v0 v1 v2==0) with h | h
  ·rw [jy h] at hF
   cases hF
   exact ⟨rfl,2000,_,_,jvB v0 v1 v2 hb,ja h jd⟩
  ·rw [jv h] at hF
   obtain ⟨v1',h1,e,ok⟩:=jkR v0 v1 v2 hb
   have hF1:=hF
   rw [e] at hF1
   cases hF1
   have hr:=jvC v0 v1 v2 hb
   rw [J0 hF] at hr
   exact ⟨ok,2000,_,_,hr,ja h jd⟩
 ·cases hF
end Go.Proofs.YtbpfipbhaagllaaGreat

/- Tilts in both answers: the plain facts. -/
namespace Go.Proofs.YtbpfipbhaagllaaGreat
open Go.Lr
theorem sqN (a:Int):0≤a*a:=by
 have h:0≤a∨a≤0:=by omega
 rcases h with h | h
 ·exact Int.mul_nonneg h h
 ·exact Int.mul_nonneg_of_nonpos_of_nonpos h h
theorem jvv (a:Int):jh a*jh a=a*a:=by rw [←YH,zD (sqN a)]
theorem jvw (x y z:Int):sqS (List.take 64 [x,y,z])=jf x*jf x+(jf y*jf y+jf z*jf z):=by
 show jf x*jf x+(jf y*jf y+(jf z*jf z+0))=_
 omega
theorem sqb {s:Int} (h0: -1152921504606846976≤s) (h1:s≤1152921504606846976):0≤s*s∧s*s≤1329227995784915872903807060280344576:=by
 refine ⟨sqN s, ?_⟩
 have:=YI (a:=s) (b:=s) (k:=1152921504606846976) (l:=1152921504606846976) (by unfold jh;split <;> omega) (by unfold jh;split <;> omega)
 omega
theorem Qx {s N:Int} (h1:s*s≤N) (hN:N<340282366920938463463374607431768211456):s≤kf N∧ -s≤kf N:=by
 have h0:=sqN s
 constructor
 ·refine jfj (by omega) hN ?_
  by_cases h:s≤0
  ·exact .inl h
  ·exact .inr (by omega)
 ·refine jfj (by omega) hN ?_
  by_cases h: -s≤0
  ·exact .inl h
  ·right
   have e: -s * -s=s*s:=by grind
   omega
theorem Yw (v0 v1 v2:Int):(jf v0≤exN v0 v1 v2∧ -jf v0≤exN v0 v1 v2)∧(jf v1≤exN v0 v1 v2∧ -jf v1≤exN v0 v1 v2)∧(jf v2≤exN v0 v1 v2∧ -jf v2≤exN v0 v1 v2)∧0≤exN v0 v1 v2∧exN v0 v1 v2≤1152921504606846976:=by
 unfold exN Jq
 rw [jvw,ja3,ja3,ja3]
 have b0:=yF v0
 have b1:=yF v1
 have b2:=yF v2
 generalize jf v0=a at *
 generalize jf v1=b at *
 generalize jf v2=c at *
 have q0:=sqb b0.1 b0.2
 have q1:=sqb b1.1 b1.2
 have q2:=sqb b2.1 b2.2
 have hN:a*a+(b*b+c*c)<340282366920938463463374607431768211456:=by omega
 have s0:=Qx (s:=a) (N:=a*a+(b*b+c*c)) (by omega) hN
 have s1:=Qx (s:=b) (N:=a*a+(b*b+c*c)) (by omega) hN
 have s2:=Qx (s:=c) (N:=a*a+(b*b+c*c)) (by omega) hN
 generalize kf (a*a+(b*b+c*c))=r at *
 have hr:=yF r
 have:jf r=r∨1152921504606846976≤jf r:=by
  unfold jf jw at *
  clear hr
  (repeat' split) <;> omega
 omega
theorem jcC {v0 v1 v2:Int} (h0:jf v0=0) (h1:jf v1=0) (h2:jf v2=0):exN v0 v1 v2=0∧jg8 [jf v0,jf v1,jf v2]=false:=by
 unfold exN
 rw [h0,h1,h2]
 exact ⟨by kernel_rfl,by kernel_rfl⟩
def tlZ (v0 v1 v2:Int):Bool:=jf v0==0&&(jf v1==0&&(jf v2==0&&true))
theorem jn9 (v0 v1 v2:Int):tlZ v0 v1 v2=(exN v0 v1 v2==0):=by
 have hs:=Yw v0 v1 v2
 unfold tlZ
 by_cases h:exN v0 v1 v2=0
 ·have e0:jf v0=0:=by omega
  have e1:jf v1=0:=by omega
  have e2:jf v2=0:=by omega
  rw [e0,e1,e2,h]
  rfl
 ·have e:(exN v0 v1 v2==0)=false:=by simpa using h
  rw [e]
  by_cases e0:jf v0=0
  ·by_cases e1:jf v1=0
   ·by_cases e2:jf v2=0
    ·exact absurd (jcC e0 e1 e2).1 h
    ·simp [e2]
   ·simp [e1]
  ·simp [e0]
theorem jvx {v0 v1 v2:Int} (h:(exN v0 v1 v2==0)=true) (hb:Bool):jhV hb v0 v1 v2=(hb||jL v0||jL v1||jL v2):=by
 have hs:=Yw v0 v1 v2
 have h:exN v0 v1 v2=0:=by simpa using h
 unfold jhV
 rw [(jcC (v0:=v0) (v1:=v1) (v2:=v2) (by omega) (by omega) (by omega)).2,Bool.or_false]
theorem jse {v u:Int} (h0:v≤u) (h1: -v≤u) (h2:1≤u) (h3:u≤1152921504606846976):
  (-u≤2*(kV v u 30*u - v*1073741824)∧2*(kV v u 30*u - v*1073741824)≤u)∧(-1073741824≤kV v u 30∧kV v u 30≤1073741824)∧xD v u 30=false:=by
 have key:∀w:Int,0≤w→w≤u→ -u≤2*(yh (w*1073741824) u*u - w*1073741824)∧2*(yh (w*1073741824) u*u - w*1073741824)≤u:=by
  intro w w0 w1
  rw [jkv (a:=w*1073741824) (b:=u) (by omega) (by omega)]
  exact jnu (by omega) (by omega)
 have odd:∀w:Int,yh (-w) u = -yh w u:=by
  intro w
  unfold yh
  rw [jbu]
  have hu:decide (u<0)=false:=by simp;omega
  rw [hu]
  by_cases g0:w=0
  ·subst g0
   have:jdT (jh 0) (jh u)=0:=by
    rw [show jh 0=0 from rfl]
    exact jfZ (by unfold jh;split <;> omega)
   rw [this];rfl
  ·by_cases g1:w<0
   ·have e1:decide (w<0)=true:=by simpa using g1
    have e2:decide (-w<0)=false:=by simp;omega
    rw [e1,e2];unfold sgn;simp
   ·have e1:decide (w<0)=false:=by simp;omega
    have e2:decide (-w<0)=true:=by simp;omega
    rw [e1,e2];unfold sgn;simp
 have hd: -u≤2*(yh (v*1073741824) u*u - v*1073741824)∧2*(yh (v*1073741824) u*u - v*1073741824)≤u:=by
  by_cases h:0≤v
  ·exact key v h h0
  ·have k:=key (-v) (by omega) h1
   rw [show -v*1073741824 = -(v*1073741824) by omega,odd,Int.neg_mul] at k
   omega
 have e:jk (Int.toNat 30)=1073741824:=rfl
 have hb: -1073741824≤yh (v*1073741824) u∧yh (v*1073741824) u≤1073741824:=by
  generalize yh (v*1073741824) u=t at *
  constructor
  ·rcases Int.lt_or_le t (-1073741824) with h | h
   ·exfalso
    have:t*u≤ -1073741825*u:=Int.mul_le_mul_of_nonneg_right (by omega) (by omega)
    omega
   ·exact h
  ·rcases Int.lt_or_le 1073741824 t with h | h
   ·exfalso
    have:1073741825*u≤t*u:=Int.mul_le_mul_of_nonneg_right (by omega) (by omega)
    omega
   ·exact h
 have hs: -1152921504606846976≤v∧v≤1152921504606846976:=by omega
 have ev:kV v u 30=yh (v*1073741824) u:=by
  unfold kV byV
  rw [if_neg (by decide),if_neg (by decide),e,Jw (a:=v) hs.1 hs.2,Jw (a:=u) (by omega) h3,if_neg (by omega),Jw (by omega) (by omega)]
 refine ⟨by rw [ev];exact hd,by rw [ev];exact hb, ?_⟩
 unfold xD byH
 rw [e,Jw (a:=v) hs.1 hs.2,Jw (a:=u) (by omega) h3,JZ (a:=v) hs.1 hs.2,JZ (a:=u) (by omega) h3,JZ (a:=yh (v*1073741824) u) (by omega) (by omega)]
 have:(u==0)=false:=by simp;omega
 rw [this];rfl
theorem jkT {u:Int} (h0: -1073741824≤u) (h1:u≤1073741824):ZE 1073741824 u=wr .i64 (1073741824 - u)∧jg7 1073741824 u=false:=by
 unfold ZE jg7
 rw [Jw (a:=u) (by omega) (by omega),Jw (a:=1073741824) (by omega) (by omega),JZ (a:=u) (by omega) (by omega),JZ (a:=1073741824) (by omega) (by omega),JZ (a:=1073741824 - u) (by omega) (by omega),Jw (a:=1073741824 - u) (by omega) (by omega),jls,q9 (by omega) (by omega)]
 exact ⟨rfl,rfl⟩
def uV0 (a0 a1 a2 a3:Int):Int:=bif uZ a0 a1 a2 a3 then 1073741824 else uE (jf a0) (jf a0) (jf a1) (jf a2) (jf a3)
def uV1 (a0 a1 a2 a3:Int):Int:=bif uZ a0 a1 a2 a3 then 0 else uE (jf a1) (jf a0) (jf a1) (jf a2) (jf a3)
def uV2 (a0 a1 a2 a3:Int):Int:=bif uZ a0 a1 a2 a3 then 0 else uE (jf a2) (jf a0) (jf a1) (jf a2) (jf a3)
def uV3 (a0 a1 a2 a3:Int):Int:=bif uZ a0 a1 a2 a3 then 0 else uE (jf a3) (jf a0) (jf a1) (jf a2) (jf a3)
def uFl (h:Bool) (a0 a1 a2 a3:Int):Bool:=bif uZ a0 a1 a2 a3 then uS h a0 a1 a2 a3 else uH (uS h a0 a1 a2 a3) (jf a0) (jf a1) (jf a2) (jf a3)
def tU (v v0 v1 v2:Int):Int:=kV (jf v) (exN v0 v1 v2) 30
theorem joa {v0 v1 v2:Int} (h:(exN v0 v1 v2==0)=false):ZE 1073741824 (tU v2 v0 v1 v2)=wr .i64 (1073741824 - tU v2 v0 v1 v2)∧jg7 1073741824 (tU v2 v0 v1 v2)=false:=by
 have h:exN v0 v1 v2≠0:=by simpa using h
 have hs:=Yw v0 v1 v2
 unfold tU
 have:=(jse (v:=jf v2) (u:=exN v0 v1 v2) (by omega) (by omega) (by omega) (by omega)).2.1
 exact jkT this.1 this.2
end Go.Proofs.YtbpfipbhaagllaaGreat

/- Tilts in both answers: their runs, their summaries. -/
namespace Go.Proofs.YtbpfipbhaagllaaGreat
open Go.Lr
def tlH (h:Bool) (v0 v1 v2:Int):Bool:=jhV h v0 v1 v2||xD (jf v0) (exN v0 v1 v2) 30||xD (jf v1) (exN v0 v1 v2) 30||xD (jf v2) (exN v0 v1 v2) 30
def tlB (w v0 v1 v2:Int) (h:Bool):Option (LV×Bool×List (Bool×Bool)):=jbc [.v (.agg [.int .i64 w,.int .i64 (wr .i64 (0 - tU v1 v0 v1 v2)),.int .i64 (tU v0 v0 v1 v2),.int .i64 0])] h
def jhN:List LV→Bool→Option (LV×Bool×List (Bool×Bool))
 | [.v (.agg [.int .i64 v0,.int .i64 v1,.int .i64 v2])],hb=>bif exN v0 v1 v2==0 then some (.v (.agg [.int .i64 1073741824,.int .i64 0,.int .i64 0,.int .i64 0]),jhV hb v0 v1 v2,[]) else
  bif decide (wr .i64 (1073741824 - tU v2 v0 v1 v2)≤16) then some (.v (.agg [.int .i64 0,.int .i64 1073741824,.int .i64 0,.int .i64 0]),tlH hb v0 v1 v2,[]) else tlB (wr .i64 (1073741824 - tU v2 v0 v1 v2)) v0 v1 v2 (tlH hb v0 v1 v2)
 | _,_=>none
theorem jkU (w v0 v1 v2:Int) (hb:Bool):∃v h,tlB w v0 v1 v2 hb=some (v,h,[])∧v.ok noP=true:=Qw
def jsf (c d:Bool×Bool) (r:Option (LV×Option Blk×List (Bool×Bool))):Option (LV×Option Blk×List (Bool×Bool)):=r.map fun q=>(q.1,q.2.1,d::c::q.2.2)
theorem ptZ (v0 v1 v2:Int) (hb:Bool):(jG Tryz.prog S42 Zl 2000 90 [A0,.v (.agg [.int .i64 v0,.int .i64 v1,.int .i64 v2])] [(0,flag 63 hb)] 1 [some true]).map kU=some (.v (.agg [.int .i64 1073741824,.int .i64 0,.int .i64 0,.int .i64 0]),some (flag 63 (hb||jL v0||jL v1||jL v2)),[(tlZ v0 v1 v2,true)]):=by kernel_rfl
theorem ptL (v0 v1 v2:Int) (hb:Bool):(jG Tryz.prog S42 Zl 2000 90 [A0,.v (.agg [.int .i64 v0,.int .i64 v1,.int .i64 v2])] [(0,flag 63 hb)] 1 [some false,none,none,none,none,some true]).map kU=some (.v (.agg [.int .i64 0,.int .i64 1073741824,.int .i64 0,.int .i64 0]),some (flag 63 (tlH hb v0 v1 v2||jg7 1073741824 (tU v2 v0 v1 v2))),[(decide (ZE 1073741824 (tU v2 v0 v1 v2)≤16),true),(tlZ v0 v1 v2,false)]):=by kernel_rfl
theorem ptN (v0 v1 v2:Int) (hb:Bool):(jG Tryz.prog S42 Zl 2000 90 [A0,.v (.agg [.int .i64 v0,.int .i64 v1,.int .i64 v2])] [(0,flag 63 hb)] 1 [some false,none,none,none,none,some false]).map kU=jsf (tlZ v0 v1 v2,false) (decide (ZE 1073741824 (tU v2 v0 v1 v2)≤16),false) (jhU 63 (tlB (ZE 1073741824 (tU v2 v0 v1 v2)) v0 v1 v2 (tlH hb v0 v1 v2||jg7 1073741824 (tU v2 v0 v1 v2)))):=by kernel_rfl
theorem jhO:SumOK Tryz.prog 90 (js 63 jhN):=by
 refine jF (z:=Zl) sound42 (jl sound42 Tryz.func90 (by kernel_rfl)) fun args hb v h' cs hF hc=> ?_
 unfold jhN at hF
 split at hF
 ·rename_i v0 v1 v2
  have hz:=jn9 v0 v1 v2
  rcases ji (exN v0 v1 v2==0) with h | h
  ·rw [jy h] at hF
   cases hF
   have hr:=ptZ v0 v1 v2 hb
   rw [←jvx h] at hr
   exact ⟨rfl,2000,_,_,hr,ja (hz.trans h) jd⟩
  ·rw [jv h] at hF
   obtain ⟨es,eh⟩:=joa h
   rcases ji (decide (wr .i64 (1073741824 - tU v2 v0 v1 v2)≤16)) with g | g
   ·rw [jy g] at hF
    cases hF
    have hr:=ptL v0 v1 v2 hb
    rw [es,eh,Bool.or_false] at hr
    exact ⟨rfl,2000,_,_,hr,ja g (ja (hz.trans h) jd)⟩
   ·rw [jv g] at hF
    obtain ⟨v1',h1,e,ok⟩:=jkU (wr .i64 (1073741824 - tU v2 v0 v1 v2)) v0 v1 v2 (tlH hb v0 v1 v2)
    have hF1:=hF
    rw [e] at hF1
    cases hF1
    have hr:=ptN v0 v1 v2 hb
    rw [es,eh,Bool.or_false,J0 hF] at hr
    exact ⟨ok,2000,_,_,hr,ja g (ja (hz.trans h) jd)⟩
 ·cases hF
end Go.Proofs.YtbpfipbhaagllaaGreat

/- Turned vectors in both answers; every function of rotations summed up. -/
namespace Go.Proofs.YtbpfipbhaagllaaGreat
open Go.Lr
def apS:List LV→Bool→Option (LV×Bool×List (Bool×Bool))
 | [.v (.agg [.int .i64 m0,.int .i64 m1,.int .i64 m2,.int .i64 m3,.int .i64 m4,.int .i64 m5,.int .i64 m6,.int .i64 m7,.int .i64 m8]),.v (.agg [.int .i64 v0,.int .i64 v1,.int .i64 v2])],hb=>some (.v (.agg [.int .i64 (qZ 30 [m0,m1,m2] [v0,v1,v2]),.int .i64 (qZ 30 [m3,m4,m5] [v0,v1,v2]),.int .i64 (qZ 30 [m6,m7,m8] [v0,v1,v2])]),(hb||yf 30 [m0,m1,m2] [v0,v1,v2]||yf 30 [m3,m4,m5] [v0,v1,v2]||yf 30 [m6,m7,m8] [v0,v1,v2]),[])
 | _,_=>none
theorem jvy (m0 m1 m2 m3 m4 m5 m6 m7 m8 v0 v1 v2:Int) (hb:Bool):(jG Tryz.prog S42 Zl 2000 85 [A0,.v (.agg [.int .i64 m0,.int .i64 m1,.int .i64 m2,.int .i64 m3,.int .i64 m4,.int .i64 m5,.int .i64 m6,.int .i64 m7,.int .i64 m8]),.v (.agg [.int .i64 v0,.int .i64 v1,.int .i64 v2])] [(0,flag 63 hb)] 1 []).map kU=some (.v (.agg [.int .i64 (qZ 30 [m0,m1,m2] [v0,v1,v2]),.int .i64 (qZ 30 [m3,m4,m5] [v0,v1,v2]),.int .i64 (qZ 30 [m6,m7,m8] [v0,v1,v2])]),some (flag 63 (hb||yf 30 [m0,m1,m2] [v0,v1,v2]||yf 30 [m3,m4,m5] [v0,v1,v2]||yf 30 [m6,m7,m8] [v0,v1,v2])),[]):=by kernel_rfl
theorem job:SumOK Tryz.prog 85 (js 63 apS):=by
 refine jF (z:=Zl) sound42 (jl sound42 Tryz.func85 (by kernel_rfl)) fun args hb v h' cs hF hc=> ?_
 unfold apS at hF
 split at hF
 ·cases hF
  exact ⟨rfl,2000,[],_,jvy _ _ _ _ _ _ _ _ _ _ _ _ hb,jd⟩
 ·cases hF
def bkS:List LV→Bool→Option (LV×Bool×List (Bool×Bool))
 | [.v (.agg [.int .i64 m0,.int .i64 m1,.int .i64 m2,.int .i64 m3,.int .i64 m4,.int .i64 m5,.int .i64 m6,.int .i64 m7,.int .i64 m8]),.v (.agg [.int .i64 v0,.int .i64 v1,.int .i64 v2])],hb=>some (.v (.agg [.int .i64 (qZ 30 [m0,m3,m6] [v0,v1,v2]),.int .i64 (qZ 30 [m1,m4,m7] [v0,v1,v2]),.int .i64 (qZ 30 [m2,m5,m8] [v0,v1,v2])]),(hb||yf 30 [m0,m3,m6] [v0,v1,v2]||yf 30 [m1,m4,m7] [v0,v1,v2]||yf 30 [m2,m5,m8] [v0,v1,v2]),[])
 | _,_=>none
theorem jvz (m0 m1 m2 m3 m4 m5 m6 m7 m8 v0 v1 v2:Int) (hb:Bool):(jG Tryz.prog S42 Zl 2000 207 [A0,.v (.agg [.int .i64 m0,.int .i64 m1,.int .i64 m2,.int .i64 m3,.int .i64 m4,.int .i64 m5,.int .i64 m6,.int .i64 m7,.int .i64 m8]),.v (.agg [.int .i64 v0,.int .i64 v1,.int .i64 v2])] [(0,flag 63 hb)] 1 []).map kU=some (.v (.agg [.int .i64 (qZ 30 [m0,m3,m6] [v0,v1,v2]),.int .i64 (qZ 30 [m1,m4,m7] [v0,v1,v2]),.int .i64 (qZ 30 [m2,m5,m8] [v0,v1,v2])]),some (flag 63 (hb||yf 30 [m0,m3,m6] [v0,v1,v2]||yf 30 [m1,m4,m7] [v0,v1,v2]||yf 30 [m2,m5,m8] [v0,v1,v2])),[]):=by kernel_rfl
theorem joc:SumOK Tryz.prog 207 (js 63 bkS):=by
 refine jF (z:=Zl) sound42 (jl sound42 Tryz.func207 (by kernel_rfl)) fun args hb v h' cs hF hc=> ?_
 unfold bkS at hF
 split at hF
 ·cases hF
  exact ⟨rfl,2000,[],_,jvz _ _ _ _ _ _ _ _ _ _ _ _ hb,jd⟩
 ·cases hF
def eV0 (v0 v1 v2:Int):Int:=bif exN v0 v1 v2==0 then 1073741824 else uV0 (jbb (exA v0 v1 v2)) (kY (jf v0) (exS v0 v1 v2) 30) (kY (jf v1) (exS v0 v1 v2) 30) (kY (jf v2) (exS v0 v1 v2) 30)
def eV1 (v0 v1 v2:Int):Int:=bif exN v0 v1 v2==0 then 0 else uV1 (jbb (exA v0 v1 v2)) (kY (jf v0) (exS v0 v1 v2) 30) (kY (jf v1) (exS v0 v1 v2) 30) (kY (jf v2) (exS v0 v1 v2) 30)
def eV2 (v0 v1 v2:Int):Int:=bif exN v0 v1 v2==0 then 0 else uV2 (jbb (exA v0 v1 v2)) (kY (jf v0) (exS v0 v1 v2) 30) (kY (jf v1) (exS v0 v1 v2) 30) (kY (jf v2) (exS v0 v1 v2) 30)
def eV3 (v0 v1 v2:Int):Int:=bif exN v0 v1 v2==0 then 0 else uV3 (jbb (exA v0 v1 v2)) (kY (jf v0) (exS v0 v1 v2) 30) (kY (jf v1) (exS v0 v1 v2) 30) (kY (jf v2) (exS v0 v1 v2) 30)
def eFl (h:Bool) (v0 v1 v2:Int):Bool:=bif exN v0 v1 v2==0 then jhV h v0 v1 v2 else uFl (juG h v0 v1 v2) (jbb (exA v0 v1 v2)) (kY (jf v0) (exS v0 v1 v2) 30) (kY (jf v1) (exS v0 v1 v2) 30) (kY (jf v2) (exS v0 v1 v2) 30)
def tV0 (v0 v1 v2:Int):Int:=bif exN v0 v1 v2==0 then 1073741824 else bif decide (wr .i64 (1073741824 - tU v2 v0 v1 v2)≤16) then 0 else uV0 (wr .i64 (1073741824 - tU v2 v0 v1 v2)) (wr .i64 (0 - tU v1 v0 v1 v2)) (tU v0 v0 v1 v2) 0
def tV1 (v0 v1 v2:Int):Int:=bif exN v0 v1 v2==0 then 0 else bif decide (wr .i64 (1073741824 - tU v2 v0 v1 v2)≤16) then 1073741824 else uV1 (wr .i64 (1073741824 - tU v2 v0 v1 v2)) (wr .i64 (0 - tU v1 v0 v1 v2)) (tU v0 v0 v1 v2) 0
def tV2 (v0 v1 v2:Int):Int:=bif exN v0 v1 v2==0 then 0 else bif decide (wr .i64 (1073741824 - tU v2 v0 v1 v2)≤16) then 0 else uV2 (wr .i64 (1073741824 - tU v2 v0 v1 v2)) (wr .i64 (0 - tU v1 v0 v1 v2)) (tU v0 v0 v1 v2) 0
def tV3 (v0 v1 v2:Int):Int:=bif exN v0 v1 v2==0 then 0 else bif decide (wr .i64 (1073741824 - tU v2 v0 v1 v2)≤16) then 0 else uV3 (wr .i64 (1073741824 - tU v2 v0 v1 v2)) (wr .i64 (0 - tU v1 v0 v1 v2)) (tU v0 v0 v1 v2) 0
def tFl (h:Bool) (v0 v1 v2:Int):Bool:=bif exN v0 v1 v2==0 then jhV h v0 v1 v2 else bif decide (wr .i64 (1073741824 - tU v2 v0 v1 v2)≤16) then tlH h v0 v1 v2 else uFl (tlH h v0 v1 v2) (wr .i64 (1073741824 - tU v2 v0 v1 v2)) (wr .i64 (0 - tU v1 v0 v1 v2)) (tU v0 v0 v1 v2) 0
def jod:List LV→Bool→Option (LV×Bool×List (Bool×Bool))
 | [.v (.agg [.int .i64 v0,.int .i64 v1,.int .i64 v2])],hb=>some (.v (.agg [.int .i64 (eV0 v0 v1 v2),.int .i64 (eV1 v0 v1 v2),.int .i64 (eV2 v0 v1 v2),.int .i64 (eV3 v0 v1 v2)]),eFl hb v0 v1 v2,[])
 | _,_=>none
theorem jkV (v0 v1 v2:Int) (hb:Bool):jqI [.v (.agg [.int .i64 v0,.int .i64 v1,.int .i64 v2])] hb=jod [.v (.agg [.int .i64 v0,.int .i64 v1,.int .i64 v2])] hb:=by
 unfold jqI jod eV0 eV1 eV2 eV3 eFl
 rcases ji (exN v0 v1 v2==0) with h | h
 ·simp only [h,cond_true]
 ·simp only [h,cond_false];rfl
theorem jhP:SumOK Tryz.prog 139 (js 63 jod):=by
 refine (jkS).acc_re fun args hb v h' cs hF _=> ?_
 have hF0:=hF
 unfold jod at hF
 split at hF
 ·cases hF
  exact ⟨[],(jkV _ _ _ hb).trans hF0,jd⟩
 ·cases hF
def jfw:List LV→Bool→Option (LV×Bool×List (Bool×Bool))
 | [.v (.agg [.int .i64 v0,.int .i64 v1,.int .i64 v2])],hb=>some (.v (.agg [.int .i64 (tV0 v0 v1 v2),.int .i64 (tV1 v0 v1 v2),.int .i64 (tV2 v0 v1 v2),.int .i64 (tV3 v0 v1 v2)]),tFl hb v0 v1 v2,[])
 | _,_=>none
theorem jhQ (v0 v1 v2:Int) (hb:Bool):jhN [.v (.agg [.int .i64 v0,.int .i64 v1,.int .i64 v2])] hb=jfw [.v (.agg [.int .i64 v0,.int .i64 v1,.int .i64 v2])] hb:=by
 unfold jhN jfw tV0 tV1 tV2 tV3 tFl
 rcases ji (exN v0 v1 v2==0) with h | h
 ·simp only [h,cond_true]
 ·rcases ji (decide (wr .i64 (1073741824 - tU v2 v0 v1 v2)≤16)) with g | g
  ·simp only [h,g,cond_true,cond_false]
  ·simp only [h,g,cond_false];rfl
theorem jfx:SumOK Tryz.prog 90 (js 63 jfw):=by
 refine (jhO).acc_re fun args hb v h' cs hF _=> ?_
 have hF0:=hF
 unfold jfw at hF
 split at hF
 ·cases hF
  exact ⟨[],(jhQ _ _ _ hb).trans hF0,jd⟩
 ·cases hF
noncomputable def S43:FuncId→Option SumK:=more (more (more (more (more S42 194 (js 63 fyS)) 139 (js 63 jod)) 90 (js 63 jfw)) 85 (js 63 apS)) 207 (js 63 bkS)
theorem jkW:Sound Tryz.prog S43:=((((sound42.more sumPfy).more jhP).more jfx).more job).more joc
end Go.Proofs.YtbpfipbhaagllaaGreat

/- The awake of chapter 7's law folder: its run; all summaries for its laws. -/
namespace Go.Proofs.YtbpfipbhaagllaaGreat
open Go.Lr
noncomputable def S44:FuncId→Option SumK:=S43
theorem sound44:Sound Tryz.prog S44:=jkW
end Go.Proofs.YtbpfipbhaagllaaGreat

/- Units: plain bounds of what Unit makes. -/
namespace Go.Proofs.YtbpfipbhaagllaaGreat
open Go.Lr
end Go.Proofs.YtbpfipbhaagllaaGreat

/- Units: what Unit makes of any numbers is near a Unit; again it is near itself. -/
namespace Go.Proofs.YtbpfipbhaagllaaGreat
open Go.Lr
end Go.Proofs.YtbpfipbhaagllaaGreat

/- Products of Units: plain bounds. -/
namespace Go.Proofs.YtbpfipbhaagllaaGreat
open Go.Lr
def mq0 (a0 a1 a2 a3 b0 b1 b2 b3:Int):Int:=qZ 30 [jf a0,jf a1,jf a2,jf a3] [jf b0,wr .i64 (0 - jf b1),wr .i64 (0 - jf b2),wr .i64 (0 - jf b3)]
def mq1 (a0 a1 a2 a3 b0 b1 b2 b3:Int):Int:=qZ 30 [jf a0,jf a1,jf a2,jf a3] [jf b1,jf b0,jf b3,wr .i64 (0 - jf b2)]
def mq2 (a0 a1 a2 a3 b0 b1 b2 b3:Int):Int:=qZ 30 [jf a0,jf a1,jf a2,jf a3] [jf b2,wr .i64 (0 - jf b3),jf b0,jf b1]
def mq3 (a0 a1 a2 a3 b0 b1 b2 b3:Int):Int:=qZ 30 [jf a0,jf a1,jf a2,jf a3] [jf b3,jf b2,wr .i64 (0 - jf b1),jf b0]
end Go.Proofs.YtbpfipbhaagllaaGreat

/- Near of both answers' Units: its summary; the laws of chapter 6 see Units and products by name. -/
namespace Go.Proofs.YtbpfipbhaagllaaGreat
open Go.Lr
def jmk:List LV→Bool→Option (LV×Bool×List (Bool×Bool))
 | [.v (.agg [.int .i64 a0,.int .i64 a1,.int .i64 a2,.int .i64 a3])],hb=>some (.v (.agg [.int .i64 (uV0 a0 a1 a2 a3),.int .i64 (uV1 a0 a1 a2 a3),.int .i64 (uV2 a0 a1 a2 a3),.int .i64 (uV3 a0 a1 a2 a3)]),uFl hb a0 a1 a2 a3,[])
 | _,_=>none
theorem jiV:SumOK Tryz.prog 37 (js 63 jmk):=by
 refine sumpu.acc_re fun args hb v h' cs hF _=> ?_
 unfold jmk at hF
 split at hF
 ·cases hF;exact ⟨[],rfl,jd⟩
 ·cases hF
def juq:List LV→Bool→Option (LV×Bool×List (Bool×Bool))
 | [.v (.agg [.int .i64 a0,.int .i64 a1,.int .i64 a2,.int .i64 a3]),.v (.agg [.int .i64 b0,.int .i64 b1,.int .i64 b2,.int .i64 b3])],hb=>some (.v (.agg [.int .i64 (mq0 a0 a1 a2 a3 b0 b1 b2 b3),.int .i64 (mq1 a0 a1 a2 a3 b0 b1 b2 b3),.int .i64 (mq2 a0 a1 a2 a3 b0 b1 b2 b3),.int .i64 (mq3 a0 a1 a2 a3 b0 b1 b2 b3)]),jk2 hb a0 a1 a2 a3 b0 b1 b2 b3,[])
 | _,_=>none
theorem jml:SumOK Tryz.prog 84 (js 63 juq):=by
 refine sumpm.acc_re fun args hb v h' cs hF _=> ?_
 unfold juq at hF
 split at hF
 ·cases hF;exact ⟨[],rfl,jd⟩
 ·cases hF
end Go.Proofs.YtbpfipbhaagllaaGreat

/- All summaries for the laws of chapter 7 about Units. -/
namespace Go.Proofs.YtbpfipbhaagllaaGreat
open Go.Lr
noncomputable def S46:FuncId→Option SumK:=more (more S44 37 (js 63 jmk)) 84 (js 63 juq)
theorem sound46:Sound Tryz.prog S46:=(sound44.more jiV).more jml
end Go.Proofs.YtbpfipbhaagllaaGreat

/- The matrices of Units: their entries. -/
namespace Go.Proofs.YtbpfipbhaagllaaGreat
open Go.Lr
def rm0 (s0 s1 s2 s3:Int):Int:=s1V 1 1 (-1) (-1) s0 s1 s2 s3
def rm1 (s0 s1 s2 s3:Int):Int:=t1V s1 s2 (wr .i64 (0 - s0)) s3
def rm2 (s0 s1 s2 s3:Int):Int:=t1V s1 s3 s0 s2
def rm3 (s0 s1 s2 s3:Int):Int:=t1V s1 s2 s0 s3
def rm4 (s0 s1 s2 s3:Int):Int:=s1V 1 (-1) 1 (-1) s0 s1 s2 s3
def rm5 (s0 s1 s2 s3:Int):Int:=t1V s2 s3 (wr .i64 (0 - s0)) s1
def rm6 (s0 s1 s2 s3:Int):Int:=t1V s1 s3 (wr .i64 (0 - s0)) s2
def rm7 (s0 s1 s2 s3:Int):Int:=t1V s2 s3 s0 s1
def rm8 (s0 s1 s2 s3:Int):Int:=s1V 1 (-1) (-1) 1 s0 s1 s2 s3
def rmF (h:Bool) (s0 s1 s2 s3:Int):Bool:=h||s1H 1 1 (-1) (-1) s0 s1 s2 s3||t1H s1 s2 (wr .i64 (0 - s0)) s3||t1H s1 s3 s0 s2||t1H s1 s2 s0 s3||s1H 1 (-1) 1 (-1) s0 s1 s2 s3||t1H s2 s3 (wr .i64 (0 - s0)) s1||t1H s1 s3 (wr .i64 (0 - s0)) s2||t1H s2 s3 s0 s1||s1H 1 (-1) (-1) 1 s0 s1 s2 s3
end Go.Proofs.YtbpfipbhaagllaaGreat

/- All summaries for the laws about levels: headings of the second answer by name. -/
namespace Go.Proofs.YtbpfipbhaagllaaGreat
open Go.Lr
def fyA (a:Int):Int:=kY (kA a) 536870912 30
def fy0 (a:Int):Int:=uV0 (jbb (fyA a)) 0 0 (jeD (fyA a))
def fy1 (a:Int):Int:=uV1 (jbb (fyA a)) 0 0 (jeD (fyA a))
def fy2 (a:Int):Int:=uV2 (jbb (fyA a)) 0 0 (jeD (fyA a))
def fy3 (a:Int):Int:=uV3 (jbb (fyA a)) 0 0 (jeD (fyA a))
def jwR (hb:Bool) (a:Int):Bool:=uFl (jk1 (fyA a) (jmC (fyA a) (hb||Xk (kA a) 536870912 30))) (jbb (fyA a)) 0 0 (jeD (fyA a))
def fyN:List LV→Bool→Option (LV×Bool×List (Bool×Bool))
 | [.v (.one (.int .i64 a))],hb=>some (.v (.agg [.int .i64 (fy0 a),.int .i64 (fy1 a),.int .i64 (fy2 a),.int .i64 (fy3 a)]),jwR hb a,[])
 | _,_=>none
theorem jlH:SumOK Tryz.prog 194 (js 63 fyN):=by
 refine sumPfy.acc_re fun args hb v h' cs hF _=> ?_
 unfold fyN at hF
 split at hF
 ·cases hF;exact ⟨[],rfl,jd⟩
 ·cases hF
def ofN:List LV→Bool→Option (LV×Bool×List (Bool×Bool))
 | [.v (.agg [.int .i64 a0,.int .i64 a1,.int .i64 a2,.int .i64 a3])],hb=>some (.v (.agg [.int .i64 (rm0 (jf a0) (jf a1) (jf a2) (jf a3)),.int .i64 (rm1 (jf a0) (jf a1) (jf a2) (jf a3)),.int .i64 (rm2 (jf a0) (jf a1) (jf a2) (jf a3)),.int .i64 (rm3 (jf a0) (jf a1) (jf a2) (jf a3)),.int .i64 (rm4 (jf a0) (jf a1) (jf a2) (jf a3)),.int .i64 (rm5 (jf a0) (jf a1) (jf a2) (jf a3)),.int .i64 (rm6 (jf a0) (jf a1) (jf a2) (jf a3)),.int .i64 (rm7 (jf a0) (jf a1) (jf a2) (jf a3)),.int .i64 (rm8 (jf a0) (jf a1) (jf a2) (jf a3))]),rmF (hb||jL a0||jL a1||jL a2||jL a3) (jf a0) (jf a1) (jf a2) (jf a3),[])
 | _,_=>none
theorem jpD:SumOK Tryz.prog 140 (js 63 ofN):=by
 refine sumrof.acc_re fun args hb v h' cs hF _=> ?_
 unfold ofN at hF
 split at hF
 ·cases hF;exact ⟨[],rfl,jd⟩
 ·cases hF
noncomputable def S47:FuncId→Option SumK:=more (more S46 140 (js 63 ofN)) 194 (js 63 fyN)
theorem sound47:Sound Tryz.prog S47:=(sound46.more jpD).more jlH
end Go.Proofs.YtbpfipbhaagllaaGreat

/- The local evaluator: summaries of methods on a flag, made by running them; the flag may lie anywhere. -/
namespace Go.Lr
open Go.RowKit
def zU (P:Program) (S:FuncId→Option SumK) (z:Md) (n:Nat) (f:FuncId) (ty:TypeId):List LV→Bool→Option (LV×Bool×List (Bool×Bool)):=fun rest h=>
 match jG P S z n f (.v (.one (.ptr 0 0))::rest) [(0,flag ty h)] 1 [] with
 | some (v,m',_,cs)=>match getM m' 0,v.ok noP with
  | some ⟨t,(0,0),0,[.bool h']⟩,true=>match Nat.beq t ty with
   | true=>some (v,h',cs)
   | false=>none
  | _,_=>none
 | none=>none
section
variable {P:Program} {S:FuncId→Option SumK} {z:Md}
theorem kO (hs:Sound P S) {n:Nat} {f:FuncId} {ty:TypeId} (ho:Own P f):SumOK P f (js ty (zU P S z n f ty)):=by
 refine JJ fun args hb v h' cs hF hc hp w L hL=> ?_
 unfold zU at hF
 split at hF
 ·rename_i v' m' nb' cs' hrun
  split at hF
  ·rename_i t hh hm hv
   split at hF
   ·rename_i ht
    cases hF
    rw [kX] at ht
    have ht':t=ty:=of_decide_eq_true ht
    subst ht'
    exact kN ho (X2 hs hrun hm hc hp hv w L hL)
   ·cases hF
  ·cases hF
 ·cases hF
end
end Go.Lr

/- A summary less: the function is walked into again. -/
namespace Go.Lr
def ZC (S:FuncId→Option SumK) (f:FuncId):FuncId→Option SumK:=fun g=>
 match Nat.beq g f with
 | true=>none
 | false=>S g
theorem Sound.drop {P:Program} {S:FuncId→Option SumK} (h:Sound P S) (f:FuncId):Sound P (ZC S f):=by
 refine ⟨fun g t hg=> ?_,h.mix,h.ng⟩
 unfold ZC at hg
 split at hg
 ·cases hg
 ·exact h.sums g t hg
def nn:Nat→List (Option Bool)→List (Option Bool)
 | 0,l=>l
 | n+1,l=>none::nn n l
def tt:Nat→List (Option Bool)→List (Option Bool)
 | 0,l=>l
 | n+1,l=>some true::tt n l
def ff:Nat→List (Option Bool)→List (Option Bool)
 | 0,l=>l
 | n+1,l=>some false::ff n l
def ra:Nat→Bool×Bool→List (Bool×Bool)→List (Bool×Bool)
 | 0,_,l=>l
 | n+1,c,l=>c::ra n c l
theorem j9 {c:Bool×Bool} {l:List (Bool×Bool)} (h:c.1=c.2) (hl:∀d∈l,d.1=d.2):∀(n:Nat),∀d∈ra n c l,d.1=d.2
 | 0=>hl
 | n+1=>by
  intro d hd
  simp only [ra,List.mem_cons] at hd
  rcases hd with rfl | hd
  ·exact h
  ·exact j9 h hl n d hd
end Go.Lr

/- Words for tri and thornton. -/
namespace Go.Proofs.YtbpfipbhaagllaaGreat
open Go.Lr
def PX (b:Nat):LV:= .v (.one (.ptx b 0))
def PP (b:Nat):LV:= .v (.one (.ptr b 0))
def IK (k:Nat):LV:= .v (.one (.int .i64 (k:Int)))
noncomputable def zc (t:TypeId):List At:=(KI Tryz.prog t).getD []
theorem jez:AllI (zc 25) 24:=j7 (by kernel_rfl)
theorem Zc:AllI (zc 259) 48:=j7 (by kernel_rfl)
theorem jiP:AllI (zc 320) 1152:=j7 (by kernel_rfl)
end Go.Proofs.YtbpfipbhaagllaaGreat

/- tri: a covariance's numbers, brought within their bounds, whatever they are. -/
namespace Go.Proofs.YtbpfipbhaagllaaGreat
open Go.Lr
set_option maxRecDepth 20000
abbrev KO (h:Bool) (x0 x1:List At):Mem:=[(0,flag 63 h),(1,⟨67,(0,0),0,x0⟩),(2,⟨67,(0,0),0,x1⟩)]
abbrev jcd (h:Bool) (x0 x1:List At):List Blk:=[flag 63 h,⟨67,(0,0),0,x0⟩,⟨67,(0,0),0,x1⟩]
abbrev jiQ (h:Bool) (x0 x1:List At):List (Option Blk):=[some ⟨63,(0,0),0,[At.bool h]⟩,some ⟨67,(0,0),0,x0⟩,some ⟨67,(0,0),0,x1⟩]
theorem juc (dead:Nat→Value) (h:Bool) (l z:List At) (k:Nat):ju [0,3,4,7] [0,1,2] (exec Tryz.prog S23 Zl 400 (.code (c1 (c1 (c2 (c1 (c2 (jj Tryz.prog 148))))))) (Kst.st ⟨[(0,A0),(3,PX 1),(4,PP 2),(7,IK k)],(KO h l z),3⟩ 34 dead [some true]))=some (Ex.normal,[PP 0,PX 1,PP 2,I (wr .i64 ((k:Int)+1))],(jiQ (h||jx (intAt l (0+276+(k:Int).toNat*1)) 1 72057594037927936) ((List.set l) (0+276+(k:Int).toNat*1) (At.int .i64 (jw (intAt l (0+276+(k:Int).toNat*1)) 1 72057594037927936))) z),[(decide (0+276+(k:Int).toNat*1<l.length),true),(decide (0≤(k:Int))&&decide ((k:Int)<24),true),(isIntAt IntKind.i64 l (0+276+(k:Int).toNat*1),true),(decide (0≤(k:Int))&&decide ((k:Int)<24),true),(decide ((k:Int)<24),true)]):=by kernel_rfl
theorem jud (dead:Nat→Value) (h:Bool) (l z:List At):ju [0,3,4] [0,1,2] (exec Tryz.prog S23 Zl 400 (.code (c1 (c1 (c2 (c1 (c2 (jj Tryz.prog 148))))))) (Kst.st ⟨[(0,A0),(3,PX 1),(4,PP 2),(7,IK 24)],(KO h l z),3⟩ 34 dead [none]))=some (Ex.exit 0,[PP 0,PX 1,PP 2],(jiQ h l z),[]):=by kernel_rfl
theorem jue (dead:Nat→Value) (h:Bool) (l z:List At) (k:Nat):ju [0,3,4,20] [0,1,2] (exec Tryz.prog S23 Zl 400 (.code (c1 (c1 (c2 (c1 (c2 (c2 (jj Tryz.prog 148)))))))) (Kst.st ⟨[(0,A0),(3,PX 1),(4,PP 2),(20,IK k)],(KO h l z),3⟩ 34 dead [some true]))=some (Ex.normal,[PP 0,PX 1,PP 2,I (wr .i64 ((k:Int)+1))],(jiQ (h||jx (intAt l (0+0+(k:Int).toNat*1)) (-1152921504606846976) 1152921504606846976) ((List.set l) (0+0+(k:Int).toNat*1) (At.int .i64 (jw (intAt l (0+0+(k:Int).toNat*1)) (-1152921504606846976) 1152921504606846976))) z),[(decide (0+0+(k:Int).toNat*1<l.length),true),(decide (0≤(k:Int))&&decide ((k:Int)<276),true),(isIntAt IntKind.i64 l (0+0+(k:Int).toNat*1),true),(decide (0≤(k:Int))&&decide ((k:Int)<276),true),(decide ((k:Int)<276),true)]):=by kernel_rfl
theorem juf (dead:Nat→Value) (h:Bool) (l z:List At):ju [0,3,4] [0,1,2] (exec Tryz.prog S23 Zl 400 (.code (c1 (c1 (c2 (c1 (c2 (c2 (jj Tryz.prog 148)))))))) (Kst.st ⟨[(0,A0),(3,PX 1),(4,PP 2),(20,IK 276)],(KO h l z),3⟩ 34 dead [none]))=some (Ex.exit 2,[PP 0,PX 1,PP 2],(jiQ h l z),[]):=by kernel_rfl
theorem wk (k:Nat) (h:k<1000000):wr .i64 ((k:Int)+1)=((k+1:Nat):Int):=by
 show w64 ((k:Int)+1)=_
 rw [q9 (by omega) (by omega)];omega
def jj3 (s:Bool×List At×List At):Kst:=⟨[(0,A0),(3,PX 1),(4,PP 2)],(KO (s.1) (s.2.1) (s.2.2)),3⟩
def jiR (k:Nat) (s:Bool×List At×List At):Kst:=⟨[(0,A0),(3,PX 1),(4,PP 2),(7,IK k)],(KO (s.1) (s.2.1) (s.2.2)),3⟩
theorem jiS (h:Bool) (l z:List At) (hl:AllI l 300) (hz:AllI z 300):∃h' l',AllI l' 300∧To Tryz.prog 34 (c2 (c1 (c2 (jj Tryz.prog 148)))) (jiR 0 (h,l,z)) .normal (jj3 (h',l',z)):=by
 have round:∀(k:Nat) (s:Bool×List At×List At),k<24→(AllI s.2.1 300∧s.2.2=z)→∃s',(AllI s'.2.1 300∧s'.2.2=z)∧To Tryz.prog 34 (c1 (c1 (c2 (c1 (c2 (jj Tryz.prog 148)))))) (jiR k s) .normal (jiR (k+1) s'):=by
  rintro k ⟨h,l,z'⟩ hk ⟨hl,rfl⟩
  have hl:AllI l 300:=hl
  refine ⟨((h||jx (intAt l (0+276+(k:Int).toNat*1)) 1 72057594037927936),(List.set l) (0+276+(k:Int).toNat*1) (At.int .i64 (jw (intAt l (0+276+(k:Int).toNat*1)) 1 72057594037927936)),z'),⟨hl.set _ _,rfl⟩,To.run (z:=Zl) sound23 (slots:=[0,3,4,7]) (blks:=[0,1,2]) (vs:=[A0,PX 1,PP 2,IK (k+1)]) (bs:=(jcd ((h||jx (intAt l (0+276+(k:Int).toNat*1)) 1 72057594037927936)) ((List.set l) (0+276+(k:Int).toNat*1) (At.int .i64 (jw (intAt l (0+276+(k:Int).toNat*1)) 1 72057594037927936))) z')) (nbB:=3) (fun dead=>juc dead h l z' k) rfl (by rw [wk k (by omega)];rfl) rfl ?_ (jr rfl (mOF (jE (Nat.lt_of_sub_eq_succ rfl) ((hl.set _ _).okb _) rfl (jE (Nat.lt_of_sub_eq_succ rfl) (hz.okb _) rfl jH)))) (Nat.le_refl _)⟩
  have hll:=hl.len
  repeat' first | exact jd | apply ja
  all_goals first
   | exact decide_eq_true (by simp only [Int.toNat_natCast];omega)
   | exact hl.ats _ (by simp only [Int.toNat_natCast];omega)
   | (simp only [Bool.and_eq_true,decide_eq_true_eq];omega)
 have last:∀(s:Bool×List At×List At),(AllI s.2.1 300∧s.2.2=z)→To Tryz.prog 34 (c1 (c1 (c2 (c1 (c2 (jj Tryz.prog 148)))))) (jiR 24 s) (.exit 0) (jj3 s):=by
  rintro ⟨h,l,z'⟩ ⟨hl,rfl⟩
  exact To.exec (z:=Zl) sound23 (slots:=[0,3,4]) (blks:=[0,1,2]) (vs:=[A0,PX 1,PP 2]) (bs:=(jcd h l z')) (nbB:=3) (fun dead=>jud dead h l z') jd (jr rfl (mOF (jE (Nat.lt_of_sub_eq_succ rfl) (hl.okb _) rfl (jE (Nat.lt_of_sub_eq_succ rfl) (hz.okb _) rfl jH)))) (Nat.le_refl _)
 obtain ⟨⟨h',l',z'⟩,⟨h1,h2⟩,h3⟩:=jfH (id:=0) (B:=jj3) (by kernel_rfl) (by kernel_rfl) round last (h,l,z) ⟨hl,rfl⟩
 simp only at h1 h2
 subst h2
 exact ⟨h',l',h1,h3⟩
def jiT (k:Nat) (s:Bool×List At×List At):Kst:=⟨[(0,A0),(3,PX 1),(4,PP 2),(20,IK k)],(KO (s.1) (s.2.1) (s.2.2)),3⟩
theorem jiU (h:Bool) (l z:List At) (hl:AllI l 300) (hz:AllI z 300):∃h' l',AllI l' 300∧To Tryz.prog 34 (c2 (c1 (c2 (c2 (jj Tryz.prog 148))))) (jiT 0 (h,l,z)) .normal (jj3 (h',l',z)):=by
 have round:∀(k:Nat) (s:Bool×List At×List At),k<276→(AllI s.2.1 300∧s.2.2=z)→∃s',(AllI s'.2.1 300∧s'.2.2=z)∧To Tryz.prog 34 (c1 (c1 (c2 (c1 (c2 (c2 (jj Tryz.prog 148))))))) (jiT k s) .normal (jiT (k+1) s'):=by
  rintro k ⟨h,l,z'⟩ hk ⟨hl,rfl⟩
  have hl:AllI l 300:=hl
  refine ⟨((h||jx (intAt l (0+0+(k:Int).toNat*1)) (-1152921504606846976) 1152921504606846976),(List.set l) (0+0+(k:Int).toNat*1) (At.int .i64 (jw (intAt l (0+0+(k:Int).toNat*1)) (-1152921504606846976) 1152921504606846976)),z'),⟨hl.set _ _,rfl⟩,To.run (z:=Zl) sound23 (slots:=[0,3,4,20]) (blks:=[0,1,2]) (vs:=[A0,PX 1,PP 2,IK (k+1)]) (bs:=(jcd ((h||jx (intAt l (0+0+(k:Int).toNat*1)) (-1152921504606846976) 1152921504606846976)) ((List.set l) (0+0+(k:Int).toNat*1) (At.int .i64 (jw (intAt l (0+0+(k:Int).toNat*1)) (-1152921504606846976) 1152921504606846976))) z')) (nbB:=3) (fun dead=>jue dead h l z' k) rfl (by rw [wk k (by omega)];rfl) rfl ?_ (jr rfl (mOF (jE (Nat.lt_of_sub_eq_succ rfl) ((hl.set _ _).okb _) rfl (jE (Nat.lt_of_sub_eq_succ rfl) (hz.okb _) rfl jH)))) (Nat.le_refl _)⟩
  have hll:=hl.len
  repeat' first | exact jd | apply ja
  all_goals first
   | exact decide_eq_true (by simp only [Int.toNat_natCast];omega)
   | exact hl.ats _ (by simp only [Int.toNat_natCast];omega)
   | (simp only [Bool.and_eq_true,decide_eq_true_eq];omega)
 have last:∀(s:Bool×List At×List At),(AllI s.2.1 300∧s.2.2=z)→To Tryz.prog 34 (c1 (c1 (c2 (c1 (c2 (c2 (jj Tryz.prog 148))))))) (jiT 276 s) (.exit 2) (jj3 s):=by
  rintro ⟨h,l,z'⟩ ⟨hl,rfl⟩
  exact To.exec (z:=Zl) sound23 (slots:=[0,3,4]) (blks:=[0,1,2]) (vs:=[A0,PX 1,PP 2]) (bs:=(jcd h l z')) (nbB:=3) (fun dead=>juf dead h l z') jd (jr rfl (mOF (jE (Nat.lt_of_sub_eq_succ rfl) (hl.okb _) rfl (jE (Nat.lt_of_sub_eq_succ rfl) (hz.okb _) rfl jH)))) (Nat.le_refl _)
 obtain ⟨⟨h',l',z'⟩,⟨h1,h2⟩,h3⟩:=jfH (id:=2) (B:=jj3) (by kernel_rfl) (by kernel_rfl) round last (h,l,z) ⟨hl,rfl⟩
 simp only at h1 h2
 subst h2
 exact ⟨h',l',h1,h3⟩
theorem jxo (dead:Nat→Value) (h:Bool) (p:List At):ju [0,3,4] [0,1,2] (xg Tryz.prog S23 Zl 400 (kJ 1 (jj Tryz.prog 148)) (Kst.st ⟨jS 0 [A0,.v (.agg (jp p 0 300))],[(0,flag 63 h)],1⟩ 34 dead []))=some (.normal,[A0,PP 1,PP 2],[some (flag 63 h),some ⟨67,(0,0),0,jp p 0 300⟩,some ⟨67,(0,0),0,zc 67⟩],[]):=by kernel_rfl
theorem yK:AllI (zc 67) 300:=j7 (by kernel_rfl)
theorem jug (dead:Nat→Value) (h:Bool) (l z:List At):ju [0,3,4,7] [0,1,2] (exec Tryz.prog S23 Zl 400 (.code (c1 (c1 (c2 (jj Tryz.prog 148))))) (Kst.st ⟨[(0,A0),(3,PX 1),(4,PP 2)],(KO h l z),3⟩ 34 dead []))=some (.normal,[A0,PX 1,PP 2,IK 0],[some (flag 63 h),some ⟨67,(0,0),0,l⟩,some ⟨67,(0,0),0,z⟩],[]):=by kernel_rfl
theorem juh (dead:Nat→Value) (h:Bool) (l z:List At):ju [0,3,4,20] [0,1,2] (exec Tryz.prog S23 Zl 400 (.code (c1 (c1 (c2 (c2 (jj Tryz.prog 148)))))) (Kst.st ⟨[(0,A0),(3,PX 1),(4,PP 2)],(KO h l z),3⟩ 34 dead []))=some (.normal,[A0,PX 1,PP 2,IK 0],[some (flag 63 h),some ⟨67,(0,0),0,l⟩,some ⟨67,(0,0),0,z⟩],[]):=by kernel_rfl
theorem jxp (dead:Nat→Value) (h:Bool) (l:List At):ju [4] [0,2] (exec Tryz.prog S23 Zl 400 (.code (c2 (c2 (c2 (jj Tryz.prog 148))))) (Kst.st ⟨[(0,A0),(3,PX 1),(4,PP 2)],(KO h l (zc 67)),3⟩ 34 dead []))=some (.ret,[PP 2],[some (flag 63 h),some ⟨67,(0,0),0,jp l 0 300⟩],[(jV l 0 300&&decide (300≠0),true)]):=by kernel_rfl
theorem jrf (h:Bool) {l z:List At} (hl:AllI l 300) (hz:AllI z 300):jY 3 (KO h l z)=true:=
 jE (Nat.lt_of_sub_eq_succ rfl) rfl rfl (jE (Nat.lt_of_sub_eq_succ rfl) (hl.okb _) rfl (jE (Nat.lt_of_sub_eq_succ rfl) (hz.okb _) rfl jH))
theorem jpN (h:Bool) (p:List At) (hp:AllI p 300):∃l h',AllI l 300∧ExA Tryz.prog 148 63 [.v (.agg p)] h (.v (.agg l)) h':=by
 rw [hp.eq]
 have hp0:=AllI.ints p 0 300
 obtain ⟨h1,l1,hl1,t1⟩:=jiS h (jp p 0 300) (zc 67) hp0 yK
 obtain ⟨h2,l2,hl2,t2⟩:=jiU h1 l1 (zc 67) hl1 yK
 refine ⟨jp l2 0 300,h2,AllI.ints _ _ _,ZL (B:=⟨[4].zip [PP 2],[0,2].zip [flag 63 h2,⟨67,(0,0),0,jp l2 0 300⟩],3⟩) (e:= .ret) (c:=jj Tryz.prog 148) Tryz.func148 (by kernel_rfl) (Nat.le_of_ble_eq_true (by kernel_rfl)) (Nat.le_of_ble_eq_true (by kernel_rfl)) (plainVs_iff.2 fun v hv=> ?_) ?_ (.inr rfl) (fun dead=>by kernel_rfl) ((AllI.ints l2 0 300).ok) rfl⟩
 ·rw [List.mem_singleton] at hv;subst hv;exact hp0.ok
 ·refine To.spine (z:=Zl) sound23 (k:=1) (slots:=[0,3,4]) (blks:=[0,1,2]) (vs:=[A0,PP 1,PP 2]) (bs:=(jcd h (jp p 0 300) (zc 67))) (nbB:=3) (by kernel_rfl) (fun dead=>jxo dead h p) jd (jr rfl (jrf h hp0 yK)) (Nat.lt_of_sub_eq_succ rfl) ?_
  refine To.pre (B:=⟨[(0,A0),(3,PX 1),(4,PP 2)],(KO h (jp p 0 300) (zc 67)),3⟩) ?_ (jr rfl (jrf h hp0 yK)) (fun q hq=> ?_) rfl rfl
  ·refine To.seq (B:=jj3 (h1,l1,zc 67)) (by kernel_rfl) (To.seq (by kernel_rfl) (To.exec (z:=Zl) sound23 (slots:=[0,3,4,7]) (blks:=[0,1,2]) (vs:=[A0,PX 1,PP 2,IK 0]) (bs:=(jcd h (jp p 0 300) (zc 67))) (nbB:=3) (fun dead=>jug dead h _ _) jd (jr rfl (jrf h hp0 yK)) (Nat.le_refl _)) t1) ?_
   refine To.seq (B:=jj3 (h2,l2,zc 67)) (by kernel_rfl) (To.seq (by kernel_rfl) (To.exec (z:=Zl) sound23 (slots:=[0,3,4,20]) (blks:=[0,1,2]) (vs:=[A0,PX 1,PP 2,IK 0]) (bs:=(jcd h1 l1 (zc 67))) (nbB:=3) (fun dead=>juh dead h1 _ _) jd (jr rfl (jrf h1 hl1 yK)) (Nat.le_refl _)) t2) ?_
   exact To.exec (z:=Zl) sound23 (slots:=[4]) (blks:=[0,2]) (vs:=[PP 2]) (bs:=[flag 63 h2,⟨67,(0,0),0,jp l2 0 300⟩]) (nbB:=3) (fun dead=>jxp dead h2 l2) (ja (by rw [hl2.areI 300 0 (Nat.le_refl _)];rfl) jd) (jr rfl (mOF (jE (Nat.lt_of_sub_eq_succ rfl) ((AllI.ints l2 0 300).okb _) rfl jH))) (Nat.le_refl _)
  ·simp only [List.mem_cons,List.not_mem_nil,or_false] at hq
   rcases hq with rfl | rfl | rfl
   ·exact ⟨A0,by simp,fun _=>rfl⟩
   ·exact ⟨PP 1,by simp,fun _=>rfl⟩
   ·exact ⟨PP 2,by simp,fun _=>rfl⟩
def jl7:LV→Bool
 | .v (.agg l)=>yl l 300
 | _=>false
noncomputable def jpO:List LV→Bool→Option (LV×Bool×List (Bool×Bool)):=exF Tryz.prog 148 63 (fun args=>match args with | [p]=>jl7 p | _=>false) 300
theorem jeA {v:LV} (h:jl7 v=true):∃l,v = .v (.agg l)∧AllI l 300:=by
 unfold jl7 at h
 split at h
 ·exact ⟨_,rfl,j7 h⟩
 ·cases h
theorem jl8:SumOK Tryz.prog 148 (js 63 jpO):=by
 refine jfI (jl sound23 Tryz.func148 (by kernel_rfl)) fun args hb hok _=> ?_
 split at hok
 ·obtain ⟨l,rfl,hl⟩:=jeA hok
  exact jpN hb l hl
 ·cases hok
end Go.Proofs.YtbpfipbhaagllaaGreat

/- tri.place: its summary. -/
namespace Go.Proofs.YtbpfipbhaagllaaGreat
open Go.Lr
set_option maxRecDepth 20000
def plV (i j:Int):Int:=wr .i64 (wr .i64 ((wr .i64 (j*wr .i64 (j - 1))).tdiv 2)+i)
def jui:List LV→Option (LV×List (Bool×Bool))
 | [.v (.one (.int .i64 i)),.v (.one (.int .i64 j))]=>some (.tup [.one (.int .i64 (plV i j)),.one (.bool true)],[(decide (0≤i),true),(decide (i<j),true),(decide (j<24),true)])
 | _=>none
theorem jxq (i j:Int):(jG Tryz.prog S23 Za 400 189 [.v (.one (.int .i64 i)),.v (.one (.int .i64 j))] [] 0 []).map (fun r=>(r.1,r.2.2.2))=some (LV.tup [V1.one (At.int .i64 (plV i j)),V1.one (At.bool (decide (j<24)))],[(decide (i<j),true),(decide (i<j),true),(decide (i<j),true),(decide (i≥0),true),(decide (i≥0),true),(decide (i≥0),true),(decide (i≥0),true)]):=by kernel_rfl
theorem jpP:SumOK Tryz.prog 189 (jq jui):=by
 refine jC (z:=Za) sound23 (jl sound23 Tryz.func189 (by kernel_rfl)) fun args v cs hF hc=> ?_
 unfold jui at hF
 split at hF
 ·rename_i i j
  cases hF
  have h1:=jt hc
  have h2:=jt (jg hc)
  have h3:=jt (jg (jg hc))
  have hr:=jxq i j
  rw [h3] at hr
  exact ⟨400,[],_,hr,ja h2 (ja h2 (ja h2 (ja h1 (ja h1 (ja h1 (ja h1 jd))))))⟩
 ·cases hF
noncomputable def KA0:FuncId→Option SumK:=more (more S23 148 (js 63 jpO)) 189 (jq jui)
theorem soundKA0:Sound Tryz.prog KA0:=(sound23.more jl8).more jpP
def plT (i j:Nat):Nat:=j*(j - 1)/2+i
theorem jl9 (i j:Nat) (h1:i<j) (h2:j<24):plV i j=(plT i j:Int)∧plT i j<276:=by
 have h:∀j:Fin 24,∀i:Fin 24,i.val<j.val→plV (i.val:Int) (j.val:Int)=(plT i.val j.val:Int)∧plT i.val j.val<276:=by decide +kernel
 exact h ⟨j,h2⟩ ⟨i,by omega⟩ h1
end Go.Proofs.YtbpfipbhaagllaaGreat

/- tri.U, tri.Set: their summaries. -/
namespace Go.Proofs.YtbpfipbhaagllaaGreat
open Go.Lr
set_option maxRecDepth 20000
theorem jgS {i j:Int} (h0:0≤i) (h1:i<j) (h2:j<24):0≤plV i j∧plV i j<276:=by
 obtain ⟨a,rfl⟩:=Int.eq_ofNat_of_zero_le h0
 obtain ⟨b,rfl⟩:=Int.eq_ofNat_of_zero_le (show 0≤j by omega)
 obtain ⟨e1,e2⟩:=jl9 a b (by omega) (by omega)
 show 0≤plV (a:Int) (b:Int)∧plV (a:Int) (b:Int)<276
 rw [e1];omega
theorem juj (dead:Nat→Value) (l:List At) (i j:Int):ju [1,2,3] [0] (xg Tryz.prog KA0 Zl 400 (kJ 1 (jj Tryz.prog 188)) (Kst.st ⟨jS 0 [.v (.agg (jp l 0 300)),I i,I j],[],0⟩ 32 dead []))=some (.normal,[I i,I j,PP 0],[some ⟨67,(0,0),0,jp l 0 300⟩],[]):=by kernel_rfl
theorem juk (dead:Nat→Value) (l:List At) (i j:Int):ju [6] [0] (exec Tryz.prog KA0 Za 400 (.code (c2 (jj Tryz.prog 188))) (Kst.st ⟨[(1,I i),(2,I j),(3,PX 0)],[(0,⟨67,(0,0),0,l⟩)],1⟩ 32 dead [some true]))=some (Ex.ret,[I 1073741824],[some ⟨67,(0,0),0,l⟩],[(decide (i<24),true),(decide (i≥0),true),(decide (i≥0),true),(decide (i≥0),true),(i==j,true),(i==j,true),(i==j,true)]):=by kernel_rfl
theorem jul (dead:Nat→Value) (l:List At) (i j:Int):ju [6] [0] (exec Tryz.prog KA0 Zl 400 (.code (c2 (jj Tryz.prog 188))) (Kst.st ⟨[(1,I i),(2,I j),(3,PX 0)],[(0,⟨67,(0,0),0,l⟩)],1⟩ 32 dead [some false,some false,some false]))=some (Ex.ret,[I (intAt l (0+0+(plV i j).toNat*1))],[some ⟨67,(0,0),0,l⟩],[(isIntAt IntKind.i64 l (0+0+(plV i j).toNat*1),true),(decide (0≤plV i j)&&decide (plV i j<276),true),(decide (0≤i),true),(decide (i<j),true),(decide (j<24),true),(i==j,false),(i==j,false),(i==j,false)]):=by kernel_rfl
def jma:List LV→Option (LV×List (Bool×Bool))
 | [.v (.agg l),.v (.one (.int .i64 i)),.v (.one (.int .i64 j))]=>match yl l 300 with
  | true=>some (I (bif i==j then 1073741824 else intAt l (0+0+(plV i j).toNat*1)),[(decide (0≤i),true),(decide (i≤j),true),(decide (j<24),true)])
  | false=>none
 | _=>none
theorem jrg {l:List At} (hl:AllI l 300):jY 1 [(0,⟨67,(0,0),0,l⟩)]=true:=jE (Nat.lt_of_sub_eq_succ rfl) (hl.okb _) rfl jH
theorem jmb:SumOK Tryz.prog 188 (jq jma):=by
 refine xx fun args v cs hF hc hp hv w=> ?_
 unfold jma at hF
 split at hF
 ·rename_i l i j
  split at hF
  ·rename_i hl
   have hl:=j7 hl
   cases hF
   have h1:0≤i:=of_decide_eq_true (jt hc)
   have h2:i≤j:=of_decide_eq_true (jt (jg hc))
   have h3:j<24:=of_decide_eq_true (jt (jg (jg hc)))
   have hp0:=AllI.ints l 0 300
   have e0:intAt l=intAt (jp l 0 300):=by rw [←hl.eq]
   have key:∃e,(e=Ex.ret)∧To Tryz.prog 32 (jj Tryz.prog 188) ⟨jS 0 [.v (.agg (jp l 0 300)),I i,I j],[],0⟩ e ⟨[6].zip [I (bif i==j then 1073741824 else intAt (jp l 0 300) (0+0+(plV i j).toNat*1))],[0].zip [⟨67,(0,0),0,jp l 0 300⟩],1⟩:=by
    refine ⟨_,rfl,To.spine (z:=Zl) soundKA0 (k:=1) (slots:=[1,2,3]) (blks:=[0]) (vs:=[I i,I j,PP 0]) (bs:=[⟨67,(0,0),0,jp l 0 300⟩]) (nbB:=1) (by kernel_rfl) (fun dead=>juj dead l i j) jd (jr rfl (jrg hp0)) (Nat.zero_le _) ?_⟩
    refine To.pre (B:=⟨[(1,I i),(2,I j),(3,PX 0)],[(0,⟨67,(0,0),0,jp l 0 300⟩)],1⟩) ?_ (jr rfl (jrg hp0)) (fun q hq=> ?_) rfl rfl
    ·rcases ji (i==j) with he | he
     ·rw [he]
      have hij:i=j:=by simpa using he
      exact To.exec (z:=Za) soundKA0 (slots:=[6]) (blks:=[0]) (vs:=[I 1073741824]) (bs:=[⟨67,(0,0),0,jp l 0 300⟩]) (nbB:=1) (fun dead=>juk dead _ i j) (by
       have a1:decide (i<24)=true:=decide_eq_true (by omega)
       have a2:decide (i≥0)=true:=decide_eq_true h1
       exact ja a1 (ja a2 (ja a2 (ja a2 (ja he (ja he (ja he jd))))))) (jr rfl (jrg hp0)) (Nat.le_refl _)
     ·rw [he]
      have hij:i≠j:=by simpa using he
      obtain ⟨b1,b2⟩:=jgS h1 (show i<j by omega) h3
      exact To.exec (z:=Zl) soundKA0 (slots:=[6]) (blks:=[0]) (vs:=[I (intAt (jp l 0 300) (0+0+(plV i j).toNat*1))]) (bs:=[⟨67,(0,0),0,jp l 0 300⟩]) (nbB:=1) (fun dead=>jul dead _ i j) (by
       refine ja (hp0.ats _ (by omega)) (ja (by simp only [Bool.and_eq_true,decide_eq_true_eq];omega) (ja (decide_eq_true h1) (ja (decide_eq_true (by omega)) (ja (decide_eq_true h3) (ja he (ja he (ja he jd)))))))) (jr rfl (jrg hp0)) (Nat.le_refl _)
    ·simp only [List.zip_cons_cons,List.zip_nil_right,List.mem_cons,List.not_mem_nil,or_false] at hq
     rcases hq with rfl | rfl | rfl
     ·exact ⟨I i,by simp,fun _=>rfl⟩
     ·exact ⟨I j,by simp,fun _=>rfl⟩
     ·exact ⟨PP 0,by simp,fun _=>rfl⟩
   obtain ⟨e,he,hT⟩:=key
   rw [e0]
   have:=XL (jl soundKA0 Tryz.func188 (by kernel_rfl)) Tryz.func188 (c:=jj Tryz.prog 188) (by kernel_rfl) (Nat.le_of_ble_eq_true (by kernel_rfl)) (Nat.le_of_ble_eq_true (by kernel_rfl)) (plainVs_iff.2 fun u hu=>by
    simp only [List.mem_cons,List.not_mem_nil,or_false] at hu
    rcases hu with rfl | rfl | rfl
    ·exact hp0.ok
    ·rfl
    ·rfl) hT (.inr he) (v:=I (bif i==j then 1073741824 else intAt (jp l 0 300) (0+0+(plV i j).toNat*1))) (fun dead=>by kernel_rfl) rfl w
   have hle:([LV.v (V1.agg l),LV.v (V1.one (At.int .i64 i)),LV.v (V1.one (At.int .i64 j))]:List LV)=[.v (.agg (jp l 0 300)),I i,I j]:=by rw [←hl.eq];rfl
   rw [hle]
   exact this
  ·cases hF
 ·cases hF
theorem jum (dead:Nat→Value) (l:List At) (i j v:Int):ju [1,2,3,4,8] [0,1] (xg Tryz.prog KA0 Zl 400 (kJ 1 (jj Tryz.prog 150)) (Kst.st ⟨jS 0 [.v (.agg (jp l 0 300)),I i,I j,I v],[],0⟩ 23 dead []))=some (.normal,[I i,I j,I v,PP 0,PP 1],[some ⟨67,(0,0),0,jp l 0 300⟩,some ⟨67,(0,0),0,zc 67⟩],[]):=by kernel_rfl
theorem jun (dead:Nat→Value) (l:List At) (i j v:Int):ju [4,8] [0,1] (exec Tryz.prog KA0 Zl 400 (.code (c1 (c2 (jj Tryz.prog 150)))) (Kst.st ⟨[(1,I i),(2,I j),(3,I v),(4,PX 0),(8,PP 1)],[(0,⟨67,(0,0),0,l⟩),(1,⟨67,(0,0),0,zc 67⟩)],2⟩ 23 dead []))=some (Ex.normal,[PX 0,PP 1],[some ⟨67,(0,0),0,l.set (0+0+(plV i j).toNat*1) (.int .i64 v)⟩,some ⟨67,(0,0),0,zc 67⟩],[(decide (0+0+(plV i j).toNat*1<l.length),true),(decide (0≤plV i j)&&decide (plV i j<276),true),(decide (0≤i),true),(decide (i<j),true),(decide (j<24),true)]):=by kernel_rfl
theorem juo (dead:Nat→Value) (l:List At):ju [8] [1] (exec Tryz.prog KA0 Zl 400 (.code (c2 (c2 (jj Tryz.prog 150)))) (Kst.st ⟨[(4,PX 0),(8,PP 1)],[(0,⟨67,(0,0),0,l⟩),(1,⟨67,(0,0),0,zc 67⟩)],2⟩ 23 dead []))=some (Ex.ret,[PP 1],[some ⟨67,(0,0),0,jp l 0 300⟩],[(jV l 0 300&&decide (300≠0),true)]):=by kernel_rfl
def jmc:List LV→Option (LV×List (Bool×Bool))
 | [.v (.agg l),.v (.one (.int .i64 i)),.v (.one (.int .i64 j)),.v (.one (.int .i64 v))]=>match yl l 300 with
  | true=>some (.v (.agg (jp (l.set (0+0+(plV i j).toNat*1) (.int .i64 v)) 0 300)),[(decide (0≤i),true),(decide (i<j),true),(decide (j<24),true)])
  | false=>none
 | _=>none
theorem jup {l z:List At} (hl:AllI l 300) (hz:AllI z 300):jY 2 [(0,⟨67,(0,0),0,l⟩),(1,⟨67,(0,0),0,z⟩)]=true:=jE (Nat.lt_of_sub_eq_succ rfl) (hl.okb _) rfl (jE (Nat.lt_of_sub_eq_succ rfl) (hz.okb _) rfl jH)
theorem jmd:SumOK Tryz.prog 150 (jq jmc):=by
 refine xx fun args v cs hF hc hp hv w=> ?_
 unfold jmc at hF
 split at hF
 ·rename_i l i j x
  split at hF
  ·rename_i hl
   have hl:=j7 hl
   cases hF
   have h1:0≤i:=of_decide_eq_true (jt hc)
   have h2:i<j:=of_decide_eq_true (jt (jg hc))
   have h3:j<24:=of_decide_eq_true (jt (jg (jg hc)))
   have hp0:=AllI.ints l 0 300
   have hp1:=hp0.set (0+0+(plV i j).toNat*1) x
   have e0:l.set (0+0+(plV i j).toNat*1) (.int .i64 x)=(jp l 0 300).set (0+0+(plV i j).toNat*1) (.int .i64 x):=by rw [←hl.eq]
   obtain ⟨b1,b2⟩:=jgS h1 h2 h3
   have hlen:=hp0.len
   have hT:To Tryz.prog 23 (jj Tryz.prog 150) ⟨jS 0 [.v (.agg (jp l 0 300)),I i,I j,I x],[],0⟩ .ret ⟨[8].zip [PP 1],[1].zip [⟨67,(0,0),0,jp ((jp l 0 300).set (0+0+(plV i j).toNat*1) (.int .i64 x)) 0 300⟩],2⟩:=by
    refine To.spine (z:=Zl) soundKA0 (k:=1) (slots:=[1,2,3,4,8]) (blks:=[0,1]) (vs:=[I i,I j,I x,PP 0,PP 1]) (bs:=[⟨67,(0,0),0,jp l 0 300⟩,⟨67,(0,0),0,zc 67⟩]) (nbB:=2) (by kernel_rfl) (fun dead=>jum dead l i j x) jd (jr rfl (jup hp0 yK)) (Nat.zero_le _) ?_
    refine To.pre (B:=⟨[(1,I i),(2,I j),(3,I x),(4,PX 0),(8,PP 1)],[(0,⟨67,(0,0),0,jp l 0 300⟩),(1,⟨67,(0,0),0,zc 67⟩)],2⟩) ?_ (jr rfl (jup hp0 yK)) (fun q hq=> ?_) rfl rfl
    ·refine To.seq (by kernel_rfl) (To.exec (z:=Zl) soundKA0 (slots:=[4,8]) (blks:=[0,1]) (vs:=[PX 0,PP 1]) (bs:=[⟨67,(0,0),0,(jp l 0 300).set (0+0+(plV i j).toNat*1) (.int .i64 x)⟩,⟨67,(0,0),0,zc 67⟩]) (nbB:=2) (fun dead=>jun dead _ i j x) (by
      refine ja (decide_eq_true (by omega)) (ja (by simp only [Bool.and_eq_true,decide_eq_true_eq];omega) (ja (decide_eq_true h1) (ja (decide_eq_true h2) (ja (decide_eq_true h3) jd))))) (jr rfl (jup hp1 yK)) (Nat.le_refl _)) ?_
     exact To.exec (z:=Zl) soundKA0 (slots:=[8]) (blks:=[1]) (vs:=[PP 1]) (bs:=[⟨67,(0,0),0,jp ((jp l 0 300).set (0+0+(plV i j).toNat*1) (.int .i64 x)) 0 300⟩]) (nbB:=2) (fun dead=>juo dead _) (ja (by rw [hp1.areI 300 0 (Nat.le_refl _)];rfl) jd) (jr rfl (jE (Nat.lt_of_sub_eq_succ rfl) ((AllI.ints _ 0 300).okb _) rfl jH)) (Nat.le_refl _)
    ·simp only [List.zip_cons_cons,List.zip_nil_right,List.mem_cons,List.not_mem_nil,or_false] at hq
     rcases hq with rfl | rfl | rfl | rfl | rfl
     ·exact ⟨I i,by simp,fun _=>rfl⟩
     ·exact ⟨I j,by simp,fun _=>rfl⟩
     ·exact ⟨I x,by simp,fun _=>rfl⟩
     ·exact ⟨PP 0,by simp,fun _=>rfl⟩
     ·exact ⟨PP 1,by simp,fun _=>rfl⟩
   rw [e0]
   generalize (jp l 0 300).set (0+0+(plV i j).toNat*1) (At.int .i64 x)=L at hT hp1 ⊢
   have:=XL (jl soundKA0 Tryz.func150 (by kernel_rfl)) Tryz.func150 (c:=jj Tryz.prog 150) (by kernel_rfl) (Nat.le_of_ble_eq_true (by kernel_rfl)) (Nat.le_of_ble_eq_true (by kernel_rfl)) (plainVs_iff.2 fun u hu=>by
    simp only [List.mem_cons,List.not_mem_nil,or_false] at hu
    rcases hu with rfl | rfl | rfl | rfl
    ·exact hp0.ok
    ·rfl
    ·rfl
    ·rfl) hT (.inr rfl) (v:= .v (.agg (jp L 0 300))) (fun dead=>by kernel_rfl) (AllI.ints L 0 300).ok w
   have hle:([LV.v (V1.agg l),LV.v (V1.one (At.int .i64 i)),LV.v (V1.one (At.int .i64 j)),LV.v (V1.one (At.int .i64 x))]:List LV)=[.v (.agg (jp l 0 300)),I i,I j,I x]:=by rw [←hl.eq];rfl
   rw [hle]
   exact this
  ·cases hF
 ·cases hF
noncomputable def KA1:FuncId→Option SumK:=more (more KA0 188 (jq jma)) 150 (jq jmc)
theorem soundKA1:Sound Tryz.prog KA1:=(soundKA0.more jmb).more jmd
end Go.Proofs.YtbpfipbhaagllaaGreat

/- thornton.rows: the rounds of its loops. -/
namespace Go.Proofs.YtbpfipbhaagllaaGreat
open Go.Lr
set_option maxRecDepth 20000
abbrev kW (h:Bool) (x0 x1 x2 x3:List At):Mem:=[(0,flag 63 h),(2,⟨196,(0,0),0,x0⟩),(6,⟨67,(0,0),0,x1⟩),(7,⟨320,(0,0),0,x2⟩),(8,⟨25,(0,0),0,x3⟩)]
abbrev jbz (h:Bool) (x0 x1 x2 x3:List At):List Blk:=[flag 63 h,⟨196,(0,0),0,x0⟩,⟨67,(0,0),0,x1⟩,⟨320,(0,0),0,x2⟩,⟨25,(0,0),0,x3⟩]
abbrev jdW (h:Bool) (x0 x1 x2 x3:List At):List (Option Blk):=[some ⟨63,(0,0),0,[At.bool h]⟩,some ⟨196,(0,0),0,x0⟩,some ⟨67,(0,0),0,x1⟩,some ⟨320,(0,0),0,x2⟩,some ⟨25,(0,0),0,x3⟩]
abbrev qK (h:Bool) (x0 x1 x2:List At):Mem:=[(0,flag 63 h),(2,⟨196,(0,0),0,x0⟩),(6,⟨67,(0,0),0,x1⟩),(7,⟨320,(0,0),0,x2⟩)]
abbrev jbA (h:Bool) (x0 x1 x2:List At):List Blk:=[flag 63 h,⟨196,(0,0),0,x0⟩,⟨67,(0,0),0,x1⟩,⟨320,(0,0),0,x2⟩]
abbrev jbB (h:Bool) (x0 x1 x2:List At):List (Option Blk):=[some ⟨63,(0,0),0,[At.bool h]⟩,some ⟨196,(0,0),0,x0⟩,some ⟨67,(0,0),0,x1⟩,some ⟨320,(0,0),0,x2⟩]
theorem jwU (dead:Nat→Value) (h:Bool) (f p w y:List At) (k m:Nat):ju [0,2,4,7,8,9,13,17,18] [0,2,6,7,8] (exec Tryz.prog KA1 Zl 400 (.code (c1 (c1 (c2 (c1 (c2 (c2 (c1 (c1 (c2 (c2 (c1 (c1 (c2 (c1 (c2 (c2 (jj Tryz.prog 149)))))))))))))))))) (Kst.st ⟨[(0,A0),(2,PX 2),(4,PX 6),(7,PX 7),(8,IK k),(9,PX 8),(13,IK k),(17,IK (k+1)),(18,IK m)],(kW h f p w y),9⟩ 54 dead [some true]))=some (Ex.normal,[PP 0,PX 2,PX 6,PX 7,I (k:Int),PX 8,I (k:Int),I ((k+1:Nat):Int),I (wr .i64 ((m:Int)+1))],(jdW h f p w ((List.set y) (0+(m:Int).toNat*1) (At.int .i64 (bif (m:Int)==(k:Int) then 1073741824 else intAt (jp p 0 300) (0+0+(plV (m:Int) (k:Int)).toNat*1))))),[(decide (0+(m:Int).toNat*1<y.length),true),(decide (0≤(m:Int))&&decide ((m:Int)<24),true),(decide (0≤(m:Int)),true),(decide ((m:Int)≤(k:Int)),true),(decide ((k:Int)<24),true),(jV p 0 300&&true,true),(decide ((m:Int)<((k+1:Nat):Int)),true)]):=by kernel_rfl
theorem rwM (h:Bool) (f p w y:List At) (k m:Nat) (hf:AllI f 576) (hp:AllI p 300) (hw:AllI w 1152) (hy:AllI y 24) (hk:k<24) (hm:m<k+1):∃ (h':Bool) (f' p' w' y':List At),AllI f' 576∧AllI p' 300∧AllI w' 1152∧AllI y' 24∧To Tryz.prog 54 (c1 (c1 (c2 (c1 (c2 (c2 (c1 (c1 (c2 (c2 (c1 (c1 (c2 (c1 (c2 (c2 (jj Tryz.prog 149))))))))))))))))) ⟨[(0,A0),(2,PX 2),(4,PX 6),(7,PX 7),(8,IK k),(9,PX 8),(13,IK k),(17,IK (k+1)),(18,IK m)],(kW h f p w y),9⟩ .normal ⟨[(0,A0),(2,PX 2),(4,PX 6),(7,PX 7),(8,IK k),(9,PX 8),(13,IK k),(17,IK (k+1)),(18,IK (m+1))],(kW h' f' p' w' y'),9⟩:=by
 refine ⟨(h),(f),(p),(w),((List.set y) (0+(m:Int).toNat*1) (At.int .i64 (bif (m:Int)==(k:Int) then 1073741824 else intAt (jp p 0 300) (0+0+(plV (m:Int) (k:Int)).toNat*1)))),aS,aS,aS,aS,To.run (z:=Zl) soundKA1 (slots:=[0,2,4,7,8,9,13,17,18]) (blks:=[0,2,6,7,8]) (vs:=[A0,PX 2,PX 6,PX 7,IK k,PX 8,IK k,IK (k+1),IK (m+1)]) (bs:=(jbz (h) f p w ((List.set y) (0+(m:Int).toNat*1) (At.int .i64 (bif (m:Int)==(k:Int) then 1073741824 else intAt (jp p 0 300) (0+0+(plV (m:Int) (k:Int)).toNat*1)))))) (nbB:=9) (fun dead=>jwU dead h f p w y k m) rfl (by rw [wk m (by omega)];rfl) rfl ?_ (jr rfl (mOF (mOC 576 (mOC 300 (mOC 1152 (mOC 24 jH)))))) (Nat.le_refl _)⟩
 have lnf:=hf.len
 have lnp:=hp.len
 have lnw:=hw.len
 have lny:=hy.len
 repeat' first | exact jd | apply ja
 all_goals first
  | (rw [hp.areI 300 0 (Nat.le_refl _)];rfl)
  | (simp only [Bool.and_eq_true,hf.part,hf.ok,hp.part,hp.ok,hw.part,hw.ok,hy.part,hy.ok,decide_eq_true_eq,true_and,and_true];omega)
theorem jtQ (dead:Nat→Value) (h:Bool) (f p w y:List At) (k:Nat):ju [0,2,4,7,8,9,13] [0,2,6,7,8] (exec Tryz.prog KA1 Zl 400 (.code (c1 (c1 (c2 (c1 (c2 (c2 (c1 (c1 (c2 (c2 (c1 (c1 (c2 (c1 (c2 (c2 (jj Tryz.prog 149)))))))))))))))))) (Kst.st ⟨[(0,A0),(2,PX 2),(4,PX 6),(7,PX 7),(8,IK k),(9,PX 8),(13,IK k),(17,IK (k+1)),(18,IK (k+1))],(kW h f p w y),9⟩ 54 dead [some false]))=some (Ex.exit 2,[PP 0,PX 2,PX 6,PX 7,I (k:Int),PX 8,I (k:Int)],(jdW h f p w y),[(decide (((k+1:Nat):Int)<((k+1:Nat):Int)),false)]):=by kernel_rfl
theorem jwV (h:Bool) (f p w y:List At) (k:Nat) (hf:AllI f 576) (hp:AllI p 300) (hw:AllI w 1152) (hy:AllI y 24):∃ (h':Bool) (f' p' w' y':List At),AllI f' 576∧AllI p' 300∧AllI w' 1152∧AllI y' 24∧To Tryz.prog 54 (c1 (c1 (c2 (c1 (c2 (c2 (c1 (c1 (c2 (c2 (c1 (c1 (c2 (c1 (c2 (c2 (jj Tryz.prog 149))))))))))))))))) ⟨[(0,A0),(2,PX 2),(4,PX 6),(7,PX 7),(8,IK k),(9,PX 8),(13,IK k),(17,IK (k+1)),(18,IK (k+1))],(kW h f p w y),9⟩ (.exit 2) ⟨[(0,A0),(2,PX 2),(4,PX 6),(7,PX 7),(8,IK k),(9,PX 8),(13,IK k)],(kW h' f' p' w' y'),9⟩:=by
 refine ⟨(h),(f),(p),(w),(y),aS,aS,aS,aS,To.run (z:=Zl) soundKA1 (slots:=[0,2,4,7,8,9,13]) (blks:=[0,2,6,7,8]) (vs:=[A0,PX 2,PX 6,PX 7,IK k,PX 8,IK k]) (bs:=(jbz (h) f p w y)) (nbB:=9) (fun dead=>jtQ dead h f p w y k) rfl rfl rfl ?_ (jr rfl (mOF (mOC 576 (mOC 300 (mOC 1152 (mOC 24 jH)))))) (Nat.le_refl _)⟩
 have lnf:=hf.len
 have lnp:=hp.len
 have lnw:=hw.len
 have lny:=hy.len
 repeat' first | exact jd | apply ja
 all_goals first
  | (with_reducible refine decide_eq_false ?_;omega)
theorem jwW (dead:Nat→Value) (h:Bool) (f p w y:List At) (k i:Nat):ju [0,2,4,7,8,9,13,28] [0,2,6,7,8] (exec Tryz.prog KA1 Zl 400 (.code (c1 (c1 (c2 (c2 (c2 (c2 (c1 (c1 (c2 (c2 (c1 (c1 (c2 (c1 (c2 (c2 (jj Tryz.prog 149)))))))))))))))))) (Kst.st ⟨[(0,A0),(2,PX 2),(4,PX 6),(7,PX 7),(8,IK k),(9,PX 8),(13,IK k),(28,IK i)],(kW h f p w y),9⟩ 54 dead [some true]))=some (Ex.normal,[PP 0,PX 2,PX 6,PX 7,I (k:Int),PX 8,I (k:Int),I (wr .i64 ((i:Int)+1))],(jdW (h||yf 30 (qp (List.take ((24 - 0)*1) (List.drop (0+(i:Int).toNat*24+0*1) f))) (qp (List.take ((24 - 0)*1) (List.drop (0+0*1) y)))) f p ((List.set w) (0+(i:Int).toNat*48+(k:Int).toNat*1) (At.int .i64 (qZ 30 (qp (List.take ((24 - 0)*1) (List.drop (0+(i:Int).toNat*24+0*1) f))) (qp (List.take ((24 - 0)*1) (List.drop (0+0*1) y)))))) y),[(decide (0+(i:Int).toNat*48+(k:Int).toNat*1<w.length),true),(decide (0≤(k:Int))&&decide ((k:Int)<48),true),(decide (0≤(i:Int))&&decide ((i:Int)<24),true),(j8 (List.take ((24 - 0)*1) (List.drop (0+(i:Int).toNat*24+0*1) f))&&(okL noP f&&(decide (0+(i:Int).toNat*24+0*1+(24 - 0)*1≤f.length)&&true)),true),(j8 (List.take ((24 - 0)*1) (List.drop (0+0*1) y))&&(okL noP y&&(decide (0+0*1+(24 - 0)*1≤y.length)&&true)),true),(decide (0≤(i:Int))&&decide ((i:Int)<24),true),(decide ((i:Int)<24),true)]):=by kernel_rfl
theorem rwI (h:Bool) (f p w y:List At) (k i:Nat) (hf:AllI f 576) (hp:AllI p 300) (hw:AllI w 1152) (hy:AllI y 24) (hk:k<24) (hi:i<24):∃ (h':Bool) (f' p' w' y':List At),AllI f' 576∧AllI p' 300∧AllI w' 1152∧AllI y' 24∧To Tryz.prog 54 (c1 (c1 (c2 (c2 (c2 (c2 (c1 (c1 (c2 (c2 (c1 (c1 (c2 (c1 (c2 (c2 (jj Tryz.prog 149))))))))))))))))) ⟨[(0,A0),(2,PX 2),(4,PX 6),(7,PX 7),(8,IK k),(9,PX 8),(13,IK k),(28,IK i)],(kW h f p w y),9⟩ .normal ⟨[(0,A0),(2,PX 2),(4,PX 6),(7,PX 7),(8,IK k),(9,PX 8),(13,IK k),(28,IK (i+1))],(kW h' f' p' w' y'),9⟩:=by
 refine ⟨((h||yf 30 (qp (List.take ((24 - 0)*1) (List.drop (0+(i:Int).toNat*24+0*1) f))) (qp (List.take ((24 - 0)*1) (List.drop (0+0*1) y))))),(f),(p),((List.set w) (0+(i:Int).toNat*48+(k:Int).toNat*1) (At.int .i64 (qZ 30 (qp (List.take ((24 - 0)*1) (List.drop (0+(i:Int).toNat*24+0*1) f))) (qp (List.take ((24 - 0)*1) (List.drop (0+0*1) y)))))),(y),aS,aS,aS,aS,To.run (z:=Zl) soundKA1 (slots:=[0,2,4,7,8,9,13,28]) (blks:=[0,2,6,7,8]) (vs:=[A0,PX 2,PX 6,PX 7,IK k,PX 8,IK k,IK (i+1)]) (bs:=(jbz ((h||yf 30 (qp (List.take ((24 - 0)*1) (List.drop (0+(i:Int).toNat*24+0*1) f))) (qp (List.take ((24 - 0)*1) (List.drop (0+0*1) y))))) f p ((List.set w) (0+(i:Int).toNat*48+(k:Int).toNat*1) (At.int .i64 (qZ 30 (qp (List.take ((24 - 0)*1) (List.drop (0+(i:Int).toNat*24+0*1) f))) (qp (List.take ((24 - 0)*1) (List.drop (0+0*1) y)))))) y)) (nbB:=9) (fun dead=>jwW dead h f p w y k i) rfl (by rw [wk i (by omega)];rfl) rfl ?_ (jr rfl (mOF (mOC 576 (mOC 300 (mOC 1152 (mOC 24 jH)))))) (Nat.le_refl _)⟩
 have lnf:=hf.len
 have lnp:=hp.len
 have lnw:=hw.len
 have lny:=hy.len
 repeat' first | exact jd | apply ja
 all_goals first
  | (simp only [Bool.and_eq_true,hf.part,hf.ok,hp.part,hp.ok,hw.part,hw.ok,hy.part,hy.ok,decide_eq_true_eq,true_and,and_true];omega)
theorem jtR (dead:Nat→Value) (h:Bool) (f p w y:List At) (k:Nat):ju [0,2,4,7,8,9,13] [0,2,6,7,8] (exec Tryz.prog KA1 Zl 400 (.code (c1 (c1 (c2 (c2 (c2 (c2 (c1 (c1 (c2 (c2 (c1 (c1 (c2 (c1 (c2 (c2 (jj Tryz.prog 149)))))))))))))))))) (Kst.st ⟨[(0,A0),(2,PX 2),(4,PX 6),(7,PX 7),(8,IK k),(9,PX 8),(13,IK k),(28,IK 24)],(kW h f p w y),9⟩ 54 dead []))=some (Ex.exit 4,[PP 0,PX 2,PX 6,PX 7,I (k:Int),PX 8,I (k:Int)],(jdW h f p w y),[]):=by kernel_rfl
theorem jwX (h:Bool) (f p w y:List At) (k:Nat) (hf:AllI f 576) (hp:AllI p 300) (hw:AllI w 1152) (hy:AllI y 24):∃ (h':Bool) (f' p' w' y':List At),AllI f' 576∧AllI p' 300∧AllI w' 1152∧AllI y' 24∧To Tryz.prog 54 (c1 (c1 (c2 (c2 (c2 (c2 (c1 (c1 (c2 (c2 (c1 (c1 (c2 (c1 (c2 (c2 (jj Tryz.prog 149))))))))))))))))) ⟨[(0,A0),(2,PX 2),(4,PX 6),(7,PX 7),(8,IK k),(9,PX 8),(13,IK k),(28,IK 24)],(kW h f p w y),9⟩ (.exit 4) ⟨[(0,A0),(2,PX 2),(4,PX 6),(7,PX 7),(8,IK k),(9,PX 8),(13,IK k)],(kW h' f' p' w' y'),9⟩:=by
 refine ⟨(h),(f),(p),(w),(y),aS,aS,aS,aS,To.run (z:=Zl) soundKA1 (slots:=[0,2,4,7,8,9,13]) (blks:=[0,2,6,7,8]) (vs:=[A0,PX 2,PX 6,PX 7,IK k,PX 8,IK k]) (bs:=(jbz (h) f p w y)) (nbB:=9) (fun dead=>jtR dead h f p w y k) rfl rfl rfl ?_ (jr rfl (mOF (mOC 576 (mOC 300 (mOC 1152 (mOC 24 jH)))))) (Nat.le_refl _)⟩
 have lnf:=hf.len
 have lnp:=hp.len
 have lnw:=hw.len
 have lny:=hy.len
 repeat' first | exact jd | apply ja
theorem jwY (dead:Nat→Value) (h:Bool) (f p w:List At) (i:Nat):ju [0,2,4,7,45] [0,2,6,7] (exec Tryz.prog KA1 Zl 400 (.code (c1 (c1 (c2 (c1 (c2 (c2 (c2 (jj Tryz.prog 149))))))))) (Kst.st ⟨[(0,A0),(2,PX 2),(4,PX 6),(7,PX 7),(45,IK i)],(qK h f p w),8⟩ 54 dead [some true]))=some (Ex.normal,[PP 0,PX 2,PX 6,PX 7,I (wr .i64 ((i:Int)+1))],(jbB h f p ((List.set w) (0+(i:Int).toNat*48+(wr .i64 (24+(i:Int))).toNat*1) (At.int .i64 1073741824))),[(decide (0+(i:Int).toNat*48+(wr .i64 (24+(i:Int))).toNat*1<w.length),true),(decide (0≤wr .i64 (24+(i:Int)))&&decide (wr .i64 (24+(i:Int))<48),true),(decide (0≤(i:Int))&&decide ((i:Int)<24),true),(decide ((i:Int)<24),true)]):=by kernel_rfl
theorem rwD (h:Bool) (f p w:List At) (i:Nat) (hf:AllI f 576) (hp:AllI p 300) (hw:AllI w 1152) (hi:i<24):∃ (h':Bool) (f' p' w':List At),AllI f' 576∧AllI p' 300∧AllI w' 1152∧To Tryz.prog 54 (c1 (c1 (c2 (c1 (c2 (c2 (c2 (jj Tryz.prog 149)))))))) ⟨[(0,A0),(2,PX 2),(4,PX 6),(7,PX 7),(45,IK i)],(qK h f p w),8⟩ .normal ⟨[(0,A0),(2,PX 2),(4,PX 6),(7,PX 7),(45,IK (i+1))],(qK h' f' p' w'),8⟩:=by
 refine ⟨(h),(f),(p),((List.set w) (0+(i:Int).toNat*48+(wr .i64 (24+(i:Int))).toNat*1) (At.int .i64 1073741824)),aS,aS,aS,To.run (z:=Zl) soundKA1 (slots:=[0,2,4,7,45]) (blks:=[0,2,6,7]) (vs:=[A0,PX 2,PX 6,PX 7,IK (i+1)]) (bs:=(jbA (h) f p ((List.set w) (0+(i:Int).toNat*48+(wr .i64 (24+(i:Int))).toNat*1) (At.int .i64 1073741824)))) (nbB:=8) (fun dead=>jwY dead h f p w i) rfl (by rw [wk i (by omega)];rfl) rfl ?_ (jr rfl (mOF (mOC 576 (mOC 300 (mOC 1152 jH))))) (Nat.le_refl _)⟩
 have lnf:=hf.len
 have lnp:=hp.len
 have lnw:=hw.len
 have e24:wr .i64 (24+(i:Int))=((24+i:Nat):Int):=by
  show w64 (24+(i:Int))=_
  rw [q9 (by omega) (by omega)];omega
 simp only [e24]
 repeat' first | exact jd | apply ja
 all_goals first
  | (simp only [Bool.and_eq_true,hf.part,hf.ok,hp.part,hp.ok,hw.part,hw.ok,decide_eq_true_eq,true_and,and_true];omega)
theorem jtS (dead:Nat→Value) (h:Bool) (f p w:List At):ju [0,2,4,7] [0,2,6,7] (exec Tryz.prog KA1 Zl 400 (.code (c1 (c1 (c2 (c1 (c2 (c2 (c2 (jj Tryz.prog 149))))))))) (Kst.st ⟨[(0,A0),(2,PX 2),(4,PX 6),(7,PX 7),(45,IK 24)],(qK h f p w),8⟩ 54 dead []))=some (Ex.exit 6,[PP 0,PX 2,PX 6,PX 7],(jbB h f p w),[]):=by kernel_rfl
theorem jwZ (h:Bool) (f p w:List At) (hf:AllI f 576) (hp:AllI p 300) (hw:AllI w 1152):∃ (h':Bool) (f' p' w':List At),AllI f' 576∧AllI p' 300∧AllI w' 1152∧To Tryz.prog 54 (c1 (c1 (c2 (c1 (c2 (c2 (c2 (jj Tryz.prog 149)))))))) ⟨[(0,A0),(2,PX 2),(4,PX 6),(7,PX 7),(45,IK 24)],(qK h f p w),8⟩ (.exit 6) ⟨[(0,A0),(2,PX 2),(4,PX 6),(7,PX 7)],(qK h' f' p' w'),8⟩:=by
 refine ⟨(h),(f),(p),(w),aS,aS,aS,To.run (z:=Zl) soundKA1 (slots:=[0,2,4,7]) (blks:=[0,2,6,7]) (vs:=[A0,PX 2,PX 6,PX 7]) (bs:=(jbA (h) f p w)) (nbB:=8) (fun dead=>jtS dead h f p w) rfl rfl rfl ?_ (jr rfl (mOF (mOC 576 (mOC 300 (mOC 1152 jH))))) (Nat.le_refl _)⟩
 have lnf:=hf.len
 have lnp:=hp.len
 have lnw:=hw.len
 repeat' first | exact jd | apply ja
theorem jw0 (dead:Nat→Value) (h:Bool) (f p w:List At) (k:Nat):ju [0,2,4,7,13] [0,2,6,7] (xg Tryz.prog KA1 Zl 400 (kJ 2 (c1 (c1 (c2 (c1 (c2 (c2 (jj Tryz.prog 149)))))))) (Kst.st ⟨[(0,A0),(2,PX 2),(4,PX 6),(7,PX 7),(13,IK k)],(qK h f p w),8⟩ 54 dead [some true]))=some (Ex.normal,[PP 0,PX 2,PX 6,PX 7,I (k:Int)],(jbB h f p w),[(decide ((k:Int)<24),true)]):=by kernel_rfl
theorem rwH (h:Bool) (f p w:List At) (k:Nat) (hf:AllI f 576) (hp:AllI p 300) (hw:AllI w 1152) (hk:k<24):∃ (h':Bool) (f' p' w':List At),AllI f' 576∧AllI p' 300∧AllI w' 1152∧∀(e:Ex) (C:Kst),To Tryz.prog 54 (qg 2 (c1 (c1 (c2 (c1 (c2 (c2 (jj Tryz.prog 149)))))))) ⟨[(0,A0),(2,PX 2),(4,PX 6),(7,PX 7),(13,IK k)],(qK h' f' p' w'),8⟩ e C→To Tryz.prog 54 (c1 (c1 (c2 (c1 (c2 (c2 (jj Tryz.prog 149))))))) ⟨[(0,A0),(2,PX 2),(4,PX 6),(7,PX 7),(13,IK k)],(qK h f p w),8⟩ e C:=by
 refine ⟨(h),(f),(p),(w),aS,aS,aS,fun e C hC=>To.spineR (k:=2) (z:=Zl) soundKA1 (slots:=[0,2,4,7,13]) (blks:=[0,2,6,7]) (vs:=[A0,PX 2,PX 6,PX 7,IK k]) (bs:=(jbA (h) f p w)) (nbB:=8) (by kernel_rfl) (fun dead=>jw0 dead h f p w k) rfl rfl rfl ?_ (jr rfl (mOF (mOC 576 (mOC 300 (mOC 1152 jH))))) (Nat.le_refl _) hC⟩
 have lnf:=hf.len
 have lnp:=hp.len
 have lnw:=hw.len
 repeat' first | exact jd | apply ja
 all_goals first
  | (simp only [Bool.and_eq_true,hf.part,hf.ok,hp.part,hp.ok,hw.part,hw.ok,decide_eq_true_eq,true_and,and_true];omega)
theorem jtT (dead:Nat→Value) (h:Bool) (f p w:List At):ju [0,2,4,7] [0,2,6,7] (exec Tryz.prog KA1 Zl 400 (.code (c1 (c1 (c2 (c1 (c2 (c2 (jj Tryz.prog 149)))))))) (Kst.st ⟨[(0,A0),(2,PX 2),(4,PX 6),(7,PX 7),(13,IK 24)],(qK h f p w),8⟩ 54 dead []))=some (Ex.exit 0,[PP 0,PX 2,PX 6,PX 7],(jbB h f p w),[]):=by kernel_rfl
theorem jw1 (h:Bool) (f p w:List At) (hf:AllI f 576) (hp:AllI p 300) (hw:AllI w 1152):∃ (h':Bool) (f' p' w':List At),AllI f' 576∧AllI p' 300∧AllI w' 1152∧To Tryz.prog 54 (c1 (c1 (c2 (c1 (c2 (c2 (jj Tryz.prog 149))))))) ⟨[(0,A0),(2,PX 2),(4,PX 6),(7,PX 7),(13,IK 24)],(qK h f p w),8⟩ (.exit 0) ⟨[(0,A0),(2,PX 2),(4,PX 6),(7,PX 7)],(qK h' f' p' w'),8⟩:=by
 refine ⟨(h),(f),(p),(w),aS,aS,aS,To.run (z:=Zl) soundKA1 (slots:=[0,2,4,7]) (blks:=[0,2,6,7]) (vs:=[A0,PX 2,PX 6,PX 7]) (bs:=(jbA (h) f p w)) (nbB:=8) (fun dead=>jtT dead h f p w) rfl rfl rfl ?_ (jr rfl (mOF (mOC 576 (mOC 300 (mOC 1152 jH))))) (Nat.le_refl _)⟩
 have lnf:=hf.len
 have lnp:=hp.len
 have lnw:=hw.len
 repeat' first | exact jd | apply ja
theorem jw2 (dead:Nat→Value) (h:Bool) (f p w:List At) (k:Nat):ju [0,2,4,7,8,9,13] [0,2,6,7,8] (xg Tryz.prog KA1 Zl 400 (kJ 2 (c1 (c1 (c2 (c2 (c1 (c1 (c2 (c1 (c2 (c2 (jj Tryz.prog 149)))))))))))) (Kst.st ⟨[(0,A0),(2,PX 2),(4,PX 6),(7,PX 7),(13,IK k)],(qK h f p w),8⟩ 54 dead []))=some (Ex.normal,[PP 0,PX 2,PX 6,PX 7,I (k:Int),PP 8,I (k:Int)],[some { ty:=63,fr:=(0,0),es:=0,cells:=[At.bool h] },some { ty:=196,fr:=(0,0),es:=0,cells:=f },some { ty:=67,fr:=(0,0),es:=0,cells:=p },some { ty:=320,fr:=(0,0),es:=0,cells:=w },some ⟨25,(0,0),0,zc 25⟩],[]):=by kernel_rfl
theorem rwA (h:Bool) (f p w:List At) (k:Nat) (hf:AllI f 576) (hp:AllI p 300) (hw:AllI w 1152):∃ (h':Bool) (f' p' w' y':List At),AllI f' 576∧AllI p' 300∧AllI w' 1152∧AllI y' 24∧∀(e:Ex) (C:Kst),To Tryz.prog 54 (qg 2 (c1 (c1 (c2 (c2 (c1 (c1 (c2 (c1 (c2 (c2 (jj Tryz.prog 149)))))))))))) ⟨[(0,A0),(2,PX 2),(4,PX 6),(7,PX 7),(8,IK k),(9,PP 8),(13,IK k)],(kW h' f' p' w' y'),9⟩ e C→To Tryz.prog 54 (c1 (c1 (c2 (c2 (c1 (c1 (c2 (c1 (c2 (c2 (jj Tryz.prog 149))))))))))) ⟨[(0,A0),(2,PX 2),(4,PX 6),(7,PX 7),(13,IK k)],(qK h f p w),8⟩ e C:=by
 refine ⟨(h),(f),(p),(w),(zc 25),aS,aS,aS,(by repeat' first | assumption | apply AllI.set | exact AllI.ints _ _ _ | exact AllI.mkF _ _ _ | exact jez | exact Zc | exact jiP | exact yK),fun e C hC=>To.spineR (k:=2) (z:=Zl) soundKA1 (slots:=[0,2,4,7,8,9,13]) (blks:=[0,2,6,7,8]) (vs:=[A0,PX 2,PX 6,PX 7,IK k,PP 8,IK k]) (bs:=(jbz (h) f p w (zc 25))) (nbB:=9) (by kernel_rfl) (fun dead=>jw2 dead h f p w k) rfl rfl rfl ?_ (jr rfl (mOF (mOC 576 (mOC 300 (mOC 1152 (jE (Nat.lt_of_sub_eq_succ rfl) (AllI.okb (n:=24) (by repeat' first | assumption | apply AllI.set | exact AllI.ints _ _ _ | exact AllI.mkF _ _ _ | exact jez | exact Zc | exact jiP | exact yK) _) rfl jH)))))) (Nat.le_of_ble_eq_true rfl) hC⟩
 have lnf:=hf.len
 have lnp:=hp.len
 have lnw:=hw.len
 repeat' first | exact jd | apply ja
theorem jw3 (dead:Nat→Value) (h:Bool) (f p w y:List At) (k:Nat):ju [0,2,4,7,8,9,13,17,18] [0,2,6,7,8] (exec Tryz.prog KA1 Zl 400 (.code (c1 (c1 (c2 (c2 (c1 (c1 (c2 (c2 (c1 (c1 (c2 (c1 (c2 (c2 (jj Tryz.prog 149)))))))))))))))) (Kst.st ⟨[(0,A0),(2,PX 2),(4,PX 6),(7,PX 7),(8,IK k),(9,PX 8),(13,IK k)],(kW h f p w y),9⟩ 54 dead []))=some (Ex.normal,[PP 0,PX 2,PX 6,PX 7,I (k:Int),PX 8,I (k:Int),I (wr .i64 ((k:Int)+1)),I 0],(jdW h f p w y),[]):=by kernel_rfl
theorem rwS (h:Bool) (f p w y:List At) (k:Nat) (hf:AllI f 576) (hp:AllI p 300) (hw:AllI w 1152) (hy:AllI y 24) (hk:k<24):∃ (h':Bool) (f' p' w' y':List At),AllI f' 576∧AllI p' 300∧AllI w' 1152∧AllI y' 24∧To Tryz.prog 54 (c1 (c1 (c2 (c2 (c1 (c1 (c2 (c2 (c1 (c1 (c2 (c1 (c2 (c2 (jj Tryz.prog 149))))))))))))))) ⟨[(0,A0),(2,PX 2),(4,PX 6),(7,PX 7),(8,IK k),(9,PX 8),(13,IK k)],(kW h f p w y),9⟩ .normal ⟨[(0,A0),(2,PX 2),(4,PX 6),(7,PX 7),(8,IK k),(9,PX 8),(13,IK k),(17,IK (k+1)),(18,IK 0)],(kW h' f' p' w' y'),9⟩:=by
 refine ⟨(h),(f),(p),(w),(y),aS,aS,aS,aS,To.run (z:=Zl) soundKA1 (slots:=[0,2,4,7,8,9,13,17,18]) (blks:=[0,2,6,7,8]) (vs:=[A0,PX 2,PX 6,PX 7,IK k,PX 8,IK k,IK (k+1),IK 0]) (bs:=(jbz (h) f p w y)) (nbB:=9) (fun dead=>jw3 dead h f p w y k) rfl (by rw [wk k (by omega)];rfl) rfl ?_ (jr rfl (mOF (mOC 576 (mOC 300 (mOC 1152 (mOC 24 jH)))))) (Nat.le_refl _)⟩
 have lnf:=hf.len
 have lnp:=hp.len
 have lnw:=hw.len
 have lny:=hy.len
 repeat' first | exact jd | apply ja
theorem jtU (dead:Nat→Value) (h:Bool) (f p w y:List At) (k:Nat):ju [0,2,4,7,8,9,13,28] [0,2,6,7,8] (exec Tryz.prog KA1 Zl 400 (.code (c1 (c2 (c2 (c2 (c1 (c1 (c2 (c2 (c1 (c1 (c2 (c1 (c2 (c2 (jj Tryz.prog 149)))))))))))))))) (Kst.st ⟨[(0,A0),(2,PX 2),(4,PX 6),(7,PX 7),(8,IK k),(9,PX 8),(13,IK k)],(kW h f p w y),9⟩ 54 dead []))=some (Ex.normal,[PP 0,PX 2,PX 6,PX 7,I (k:Int),PX 8,I (k:Int),I 0],(jdW h f p w y),[]):=by kernel_rfl
theorem jw4 (h:Bool) (f p w y:List At) (k:Nat) (hf:AllI f 576) (hp:AllI p 300) (hw:AllI w 1152) (hy:AllI y 24):∃ (h':Bool) (f' p' w' y':List At),AllI f' 576∧AllI p' 300∧AllI w' 1152∧AllI y' 24∧To Tryz.prog 54 (c1 (c2 (c2 (c2 (c1 (c1 (c2 (c2 (c1 (c1 (c2 (c1 (c2 (c2 (jj Tryz.prog 149))))))))))))))) ⟨[(0,A0),(2,PX 2),(4,PX 6),(7,PX 7),(8,IK k),(9,PX 8),(13,IK k)],(kW h f p w y),9⟩ .normal ⟨[(0,A0),(2,PX 2),(4,PX 6),(7,PX 7),(8,IK k),(9,PX 8),(13,IK k),(28,IK 0)],(kW h' f' p' w' y'),9⟩:=by
 refine ⟨(h),(f),(p),(w),(y),aS,aS,aS,aS,To.run (z:=Zl) soundKA1 (slots:=[0,2,4,7,8,9,13,28]) (blks:=[0,2,6,7,8]) (vs:=[A0,PX 2,PX 6,PX 7,IK k,PX 8,IK k,IK 0]) (bs:=(jbz (h) f p w y)) (nbB:=9) (fun dead=>jtU dead h f p w y k) rfl rfl rfl ?_ (jr rfl (mOF (mOC 576 (mOC 300 (mOC 1152 (mOC 24 jH)))))) (Nat.le_refl _)⟩
 have lnf:=hf.len
 have lnp:=hp.len
 have lnw:=hw.len
 have lny:=hy.len
 repeat' first | exact jd | apply ja
theorem jw5 (dead:Nat→Value) (h:Bool) (f p w y:List At) (k:Nat):ju [0,2,4,7,13] [0,2,6,7] (exec Tryz.prog KA1 Zl 400 (.code (c2 (c2 (c2 (c1 (c1 (c2 (c1 (c2 (c2 (jj Tryz.prog 149))))))))))) (Kst.st ⟨[(0,A0),(2,PX 2),(4,PX 6),(7,PX 7),(8,IK k),(9,PX 8),(13,IK k)],(kW h f p w y),9⟩ 54 dead []))=some (Ex.normal,[PP 0,PX 2,PX 6,PX 7,I (wr .i64 ((k:Int)+1))],(jbB h f p w),[]):=by kernel_rfl
theorem rwN (h:Bool) (f p w y:List At) (k:Nat) (hf:AllI f 576) (hp:AllI p 300) (hw:AllI w 1152) (hy:AllI y 24) (hk:k<24):∃ (h':Bool) (f' p' w':List At),AllI f' 576∧AllI p' 300∧AllI w' 1152∧To Tryz.prog 54 (c2 (c2 (c2 (c1 (c1 (c2 (c1 (c2 (c2 (jj Tryz.prog 149)))))))))) ⟨[(0,A0),(2,PX 2),(4,PX 6),(7,PX 7),(8,IK k),(9,PX 8),(13,IK k)],(kW h f p w y),9⟩ .normal ⟨[(0,A0),(2,PX 2),(4,PX 6),(7,PX 7),(13,IK (k+1))],(qK h' f' p' w'),9⟩:=by
 refine ⟨(h),(f),(p),(w),aS,aS,aS,To.run (z:=Zl) soundKA1 (slots:=[0,2,4,7,13]) (blks:=[0,2,6,7]) (vs:=[A0,PX 2,PX 6,PX 7,IK (k+1)]) (bs:=(jbA (h) f p w)) (nbB:=9) (fun dead=>jw5 dead h f p w y k) rfl (by rw [wk k (by omega)];rfl) rfl ?_ (jr rfl (mOF (mOC 576 (mOC 300 (mOC 1152 jH))))) (Nat.le_refl _)⟩
 have lnf:=hf.len
 have lnp:=hp.len
 have lnw:=hw.len
 have lny:=hy.len
 repeat' first | exact jd | apply ja
theorem jtV (dead:Nat→Value) (h:Bool) (f p w:List At):ju [0,2,4,7,45] [0,2,6,7] (exec Tryz.prog KA1 Zl 400 (.code (c1 (c1 (c2 (c2 (c2 (jj Tryz.prog 149))))))) (Kst.st ⟨[(0,A0),(2,PX 2),(4,PX 6),(7,PX 7)],(qK h f p w),8⟩ 54 dead []))=some (Ex.normal,[PP 0,PX 2,PX 6,PX 7,I 0],(jbB h f p w),[]):=by kernel_rfl
theorem jw6 (h:Bool) (f p w:List At) (hf:AllI f 576) (hp:AllI p 300) (hw:AllI w 1152):∃ (h':Bool) (f' p' w':List At),AllI f' 576∧AllI p' 300∧AllI w' 1152∧To Tryz.prog 54 (c1 (c1 (c2 (c2 (c2 (jj Tryz.prog 149)))))) ⟨[(0,A0),(2,PX 2),(4,PX 6),(7,PX 7)],(qK h f p w),8⟩ .normal ⟨[(0,A0),(2,PX 2),(4,PX 6),(7,PX 7),(45,IK 0)],(qK h' f' p' w'),8⟩:=by
 refine ⟨(h),(f),(p),(w),aS,aS,aS,To.run (z:=Zl) soundKA1 (slots:=[0,2,4,7,45]) (blks:=[0,2,6,7]) (vs:=[A0,PX 2,PX 6,PX 7,IK 0]) (bs:=(jbA (h) f p w)) (nbB:=8) (fun dead=>jtV dead h f p w) rfl rfl rfl ?_ (jr rfl (mOF (mOC 576 (mOC 300 (mOC 1152 jH))))) (Nat.le_refl _)⟩
 have lnf:=hf.len
 have lnp:=hp.len
 have lnw:=hw.len
 repeat' first | exact jd | apply ja
theorem jtW (dead:Nat→Value) (h:Bool) (f p w:List At):ju [0,2,4,7,13] [0,2,6,7] (exec Tryz.prog KA1 Zl 400 (.code (c1 (c1 (c2 (c2 (jj Tryz.prog 149)))))) (Kst.st ⟨[(0,A0),(2,PX 2),(4,PX 6),(7,PX 7)],(qK h f p w),8⟩ 54 dead []))=some (Ex.normal,[PP 0,PX 2,PX 6,PX 7,I 0],(jbB h f p w),[]):=by kernel_rfl
theorem jw7 (h:Bool) (f p w:List At) (hf:AllI f 576) (hp:AllI p 300) (hw:AllI w 1152):∃ (h':Bool) (f' p' w':List At),AllI f' 576∧AllI p' 300∧AllI w' 1152∧To Tryz.prog 54 (c1 (c1 (c2 (c2 (jj Tryz.prog 149))))) ⟨[(0,A0),(2,PX 2),(4,PX 6),(7,PX 7)],(qK h f p w),8⟩ .normal ⟨[(0,A0),(2,PX 2),(4,PX 6),(7,PX 7),(13,IK 0)],(qK h' f' p' w'),8⟩:=by
 refine ⟨(h),(f),(p),(w),aS,aS,aS,To.run (z:=Zl) soundKA1 (slots:=[0,2,4,7,13]) (blks:=[0,2,6,7]) (vs:=[A0,PX 2,PX 6,PX 7,IK 0]) (bs:=(jbA (h) f p w)) (nbB:=8) (fun dead=>jtW dead h f p w) rfl rfl rfl ?_ (jr rfl (mOF (mOC 576 (mOC 300 (mOC 1152 jH))))) (Nat.le_refl _)⟩
 have lnf:=hf.len
 have lnp:=hp.len
 have lnw:=hw.len
 repeat' first | exact jd | apply ja
theorem jw8 (h:Bool) (f p w y:List At) (k:Nat) (hf:AllI f 576) (hp:AllI p 300) (hw:AllI w 1152) (hy:AllI y 24) (hk:k<24):∃(h':Bool) (f' p' w' y':List At),AllI f' 576∧AllI p' 300∧AllI w' 1152∧AllI y' 24∧To Tryz.prog 54 (c2 (c1 (c2 (c2 (c1 (c1 (c2 (c2 (c1 (c1 (c2 (c1 (c2 (c2 (jj Tryz.prog 149))))))))))))))) ⟨[(0,A0),(2,PX 2),(4,PX 6),(7,PX 7),(8,IK k),(9,PX 8),(13,IK k),(17,IK (k+1)),(18,IK 0)],(kW h f p w y),9⟩ .normal ⟨[(0,A0),(2,PX 2),(4,PX 6),(7,PX 7),(8,IK k),(9,PX 8),(13,IK k)],(kW h' f' p' w' y'),9⟩:=by
 have round:∀(m:Nat) (s:Bool×List At×List At×List At×List At),m<k+1→(AllI s.2.1 576∧AllI s.2.2.1 300∧AllI s.2.2.2.1 1152∧AllI s.2.2.2.2 24)→∃s':Bool×List At×List At×List At×List At,(AllI s'.2.1 576∧AllI s'.2.2.1 300∧AllI s'.2.2.2.1 1152∧AllI s'.2.2.2.2 24)∧To Tryz.prog 54 (c1 (c1 (c2 (c1 (c2 (c2 (c1 (c1 (c2 (c2 (c1 (c1 (c2 (c1 (c2 (c2 (jj Tryz.prog 149))))))))))))))))) ((fun (m:Nat) (s:Bool×List At×List At×List At×List At)=>(⟨[(0,A0),(2,PX 2),(4,PX 6),(7,PX 7),(8,IK k),(9,PX 8),(13,IK k),(17,IK (k+1)),(18,IK m)],(kW (s.1) (s.2.1) (s.2.2.1) (s.2.2.2.1) (s.2.2.2.2)),9⟩:Kst)) m s) .normal ((fun (m:Nat) (s:Bool×List At×List At×List At×List At)=>(⟨[(0,A0),(2,PX 2),(4,PX 6),(7,PX 7),(8,IK k),(9,PX 8),(13,IK k),(17,IK (k+1)),(18,IK m)],(kW (s.1) (s.2.1) (s.2.2.1) (s.2.2.2.1) (s.2.2.2.2)),9⟩:Kst)) (m+1) s'):=by
  rintro m ⟨h,f,p,w,y⟩ hlt ⟨k0,k1,k2,k3⟩
  obtain ⟨h',f',p',w',y',q0,q1,q2,q3,hT⟩:=rwM h f p w y k m k0 k1 k2 k3 hk hlt
  exact ⟨(h',f',p',w',y'),⟨q0,q1,q2,q3⟩,hT⟩
 have last:∀(s:Bool×List At×List At×List At×List At),(AllI s.2.1 576∧AllI s.2.2.1 300∧AllI s.2.2.2.1 1152∧AllI s.2.2.2.2 24)→∃s':Bool×List At×List At×List At×List At,(AllI s'.2.1 576∧AllI s'.2.2.1 300∧AllI s'.2.2.2.1 1152∧AllI s'.2.2.2.2 24)∧To Tryz.prog 54 (c1 (c1 (c2 (c1 (c2 (c2 (c1 (c1 (c2 (c2 (c1 (c1 (c2 (c1 (c2 (c2 (jj Tryz.prog 149))))))))))))))))) ((fun (m:Nat) (s:Bool×List At×List At×List At×List At)=>(⟨[(0,A0),(2,PX 2),(4,PX 6),(7,PX 7),(8,IK k),(9,PX 8),(13,IK k),(17,IK (k+1)),(18,IK m)],(kW (s.1) (s.2.1) (s.2.2.1) (s.2.2.2.1) (s.2.2.2.2)),9⟩:Kst)) (k+1) s) (.exit 2) ((fun (s:Bool×List At×List At×List At×List At)=>(⟨[(0,A0),(2,PX 2),(4,PX 6),(7,PX 7),(8,IK k),(9,PX 8),(13,IK k)],(kW (s.1) (s.2.1) (s.2.2.1) (s.2.2.2.1) (s.2.2.2.2)),9⟩:Kst)) s'):=by
  rintro ⟨h,f,p,w,y⟩ ⟨k0,k1,k2,k3⟩
  obtain ⟨h',f',p',w',y',q0,q1,q2,q3,hT⟩:=jwV h f p w y k k0 k1 k2 k3
  exact ⟨(h',f',p',w',y'),⟨q0,q1,q2,q3⟩,hT⟩
 obtain ⟨⟨h',f',p',w',y'⟩,⟨q0,q1,q2,q3⟩,hT⟩:=qQ (id:=2) (by kernel_rfl) (by kernel_rfl) round last (h,f,p,w,y) ⟨hf,hp,hw,hy⟩
 exact ⟨h',f',p',w',y',q0,q1,q2,q3,hT⟩
theorem jw9 (h:Bool) (f p w y:List At) (k:Nat) (hf:AllI f 576) (hp:AllI p 300) (hw:AllI w 1152) (hy:AllI y 24) (hk:k<24):∃(h':Bool) (f' p' w' y':List At),AllI f' 576∧AllI p' 300∧AllI w' 1152∧AllI y' 24∧To Tryz.prog 54 (c2 (c2 (c2 (c2 (c1 (c1 (c2 (c2 (c1 (c1 (c2 (c1 (c2 (c2 (jj Tryz.prog 149))))))))))))))) ⟨[(0,A0),(2,PX 2),(4,PX 6),(7,PX 7),(8,IK k),(9,PX 8),(13,IK k),(28,IK 0)],(kW h f p w y),9⟩ .normal ⟨[(0,A0),(2,PX 2),(4,PX 6),(7,PX 7),(8,IK k),(9,PX 8),(13,IK k)],(kW h' f' p' w' y'),9⟩:=by
 have round:∀(i:Nat) (s:Bool×List At×List At×List At×List At),i<24→(AllI s.2.1 576∧AllI s.2.2.1 300∧AllI s.2.2.2.1 1152∧AllI s.2.2.2.2 24)→∃s':Bool×List At×List At×List At×List At,(AllI s'.2.1 576∧AllI s'.2.2.1 300∧AllI s'.2.2.2.1 1152∧AllI s'.2.2.2.2 24)∧To Tryz.prog 54 (c1 (c1 (c2 (c2 (c2 (c2 (c1 (c1 (c2 (c2 (c1 (c1 (c2 (c1 (c2 (c2 (jj Tryz.prog 149))))))))))))))))) ((fun (i:Nat) (s:Bool×List At×List At×List At×List At)=>(⟨[(0,A0),(2,PX 2),(4,PX 6),(7,PX 7),(8,IK k),(9,PX 8),(13,IK k),(28,IK i)],(kW (s.1) (s.2.1) (s.2.2.1) (s.2.2.2.1) (s.2.2.2.2)),9⟩:Kst)) i s) .normal ((fun (i:Nat) (s:Bool×List At×List At×List At×List At)=>(⟨[(0,A0),(2,PX 2),(4,PX 6),(7,PX 7),(8,IK k),(9,PX 8),(13,IK k),(28,IK i)],(kW (s.1) (s.2.1) (s.2.2.1) (s.2.2.2.1) (s.2.2.2.2)),9⟩:Kst)) (i+1) s'):=by
  rintro i ⟨h,f,p,w,y⟩ hlt ⟨k0,k1,k2,k3⟩
  obtain ⟨h',f',p',w',y',q0,q1,q2,q3,hT⟩:=rwI h f p w y k i k0 k1 k2 k3 hk hlt
  exact ⟨(h',f',p',w',y'),⟨q0,q1,q2,q3⟩,hT⟩
 have last:∀(s:Bool×List At×List At×List At×List At),(AllI s.2.1 576∧AllI s.2.2.1 300∧AllI s.2.2.2.1 1152∧AllI s.2.2.2.2 24)→∃s':Bool×List At×List At×List At×List At,(AllI s'.2.1 576∧AllI s'.2.2.1 300∧AllI s'.2.2.2.1 1152∧AllI s'.2.2.2.2 24)∧To Tryz.prog 54 (c1 (c1 (c2 (c2 (c2 (c2 (c1 (c1 (c2 (c2 (c1 (c1 (c2 (c1 (c2 (c2 (jj Tryz.prog 149))))))))))))))))) ((fun (i:Nat) (s:Bool×List At×List At×List At×List At)=>(⟨[(0,A0),(2,PX 2),(4,PX 6),(7,PX 7),(8,IK k),(9,PX 8),(13,IK k),(28,IK i)],(kW (s.1) (s.2.1) (s.2.2.1) (s.2.2.2.1) (s.2.2.2.2)),9⟩:Kst)) (24) s) (.exit 4) ((fun (s:Bool×List At×List At×List At×List At)=>(⟨[(0,A0),(2,PX 2),(4,PX 6),(7,PX 7),(8,IK k),(9,PX 8),(13,IK k)],(kW (s.1) (s.2.1) (s.2.2.1) (s.2.2.2.1) (s.2.2.2.2)),9⟩:Kst)) s'):=by
  rintro ⟨h,f,p,w,y⟩ ⟨k0,k1,k2,k3⟩
  obtain ⟨h',f',p',w',y',q0,q1,q2,q3,hT⟩:=jwX h f p w y k k0 k1 k2 k3
  exact ⟨(h',f',p',w',y'),⟨q0,q1,q2,q3⟩,hT⟩
 obtain ⟨⟨h',f',p',w',y'⟩,⟨q0,q1,q2,q3⟩,hT⟩:=qQ (id:=4) (by kernel_rfl) (by kernel_rfl) round last (h,f,p,w,y) ⟨hf,hp,hw,hy⟩
 exact ⟨h',f',p',w',y',q0,q1,q2,q3,hT⟩
theorem jxa (h:Bool) (f p w:List At) (hf:AllI f 576) (hp:AllI p 300) (hw:AllI w 1152):∃(h':Bool) (f' p' w':List At),AllI f' 576∧AllI p' 300∧AllI w' 1152∧To Tryz.prog 54 (c2 (c1 (c2 (c2 (c2 (jj Tryz.prog 149)))))) ⟨[(0,A0),(2,PX 2),(4,PX 6),(7,PX 7),(45,IK 0)],(qK h f p w),8⟩ .normal ⟨[(0,A0),(2,PX 2),(4,PX 6),(7,PX 7)],(qK h' f' p' w'),8⟩:=by
 have round:∀(i:Nat) (s:Bool×List At×List At×List At),i<24→(AllI s.2.1 576∧AllI s.2.2.1 300∧AllI s.2.2.2 1152)→∃s':Bool×List At×List At×List At,(AllI s'.2.1 576∧AllI s'.2.2.1 300∧AllI s'.2.2.2 1152)∧To Tryz.prog 54 (c1 (c1 (c2 (c1 (c2 (c2 (c2 (jj Tryz.prog 149)))))))) ((fun (i:Nat) (s:Bool×List At×List At×List At)=>(⟨[(0,A0),(2,PX 2),(4,PX 6),(7,PX 7),(45,IK i)],(qK (s.1) (s.2.1) (s.2.2.1) (s.2.2.2)),8⟩:Kst)) i s) .normal ((fun (i:Nat) (s:Bool×List At×List At×List At)=>(⟨[(0,A0),(2,PX 2),(4,PX 6),(7,PX 7),(45,IK i)],(qK (s.1) (s.2.1) (s.2.2.1) (s.2.2.2)),8⟩:Kst)) (i+1) s'):=by
  rintro i ⟨h,f,p,w⟩ hlt ⟨k0,k1,k2⟩
  obtain ⟨h',f',p',w',q0,q1,q2,hT⟩:=rwD h f p w i k0 k1 k2 hlt
  exact ⟨(h',f',p',w'),⟨q0,q1,q2⟩,hT⟩
 have last:∀(s:Bool×List At×List At×List At),(AllI s.2.1 576∧AllI s.2.2.1 300∧AllI s.2.2.2 1152)→∃s':Bool×List At×List At×List At,(AllI s'.2.1 576∧AllI s'.2.2.1 300∧AllI s'.2.2.2 1152)∧To Tryz.prog 54 (c1 (c1 (c2 (c1 (c2 (c2 (c2 (jj Tryz.prog 149)))))))) ((fun (i:Nat) (s:Bool×List At×List At×List At)=>(⟨[(0,A0),(2,PX 2),(4,PX 6),(7,PX 7),(45,IK i)],(qK (s.1) (s.2.1) (s.2.2.1) (s.2.2.2)),8⟩:Kst)) (24) s) (.exit 6) ((fun (s:Bool×List At×List At×List At)=>(⟨[(0,A0),(2,PX 2),(4,PX 6),(7,PX 7)],(qK (s.1) (s.2.1) (s.2.2.1) (s.2.2.2)),8⟩:Kst)) s'):=by
  rintro ⟨h,f,p,w⟩ ⟨k0,k1,k2⟩
  obtain ⟨h',f',p',w',q0,q1,q2,hT⟩:=jwZ h f p w k0 k1 k2
  exact ⟨(h',f',p',w'),⟨q0,q1,q2⟩,hT⟩
 obtain ⟨⟨h',f',p',w'⟩,⟨q0,q1,q2⟩,hT⟩:=qQ (id:=6) (by kernel_rfl) (by kernel_rfl) round last (h,f,p,w) ⟨hf,hp,hw⟩
 exact ⟨h',f',p',w',q0,q1,q2,hT⟩
end Go.Proofs.YtbpfipbhaagllaaGreat

/- A function that hands out a new block, off a walk in pieces: its summary's promise. -/
namespace Go.Lr
open Go.RowKit
theorem jk4 {P:Program} {f:FuncId} (ho:Own P f) {args:List LV} {seen:List Nat} {ks:List Blk} {g:Nat→Option Blk} {p:Nat→Bool} {nb:Nat} {E:Env} {w:World} {v0:LV} {j:Nat} {bw:Blk} {B:Kst} {wr:List (Nat×Option Blk)}
  (hl:jz g seen=some ks) (hrel:Rel E g w) (hg:∀i c,g i=some c→p i=true∧okL p c.cells=true) (hpn:p nb=false) (hlt:∀i∈seen,i<nb)
  (hC:Calls P f (args.map (LV.den E)).toArray w fun e w'=>∃Eo,e = .returned (v0.den Eo)∧MRel Eo B.ms w'∧Ext w E (Kst.ms ⟨jS 0 args,jeB seen ks,nb⟩) w' Eo B.ms)
  (hv:∀E:Env,v0.den E = .pointer (some ⟨(E j).1,(E j).pre.length,none⟩)) (hj:getM B.mem j=some bw) (hjn:nb≤j) (hbw:okL noP bw.cells=true)
  (hw:∀i b,wrG g wr i=some b→(i∈seen∧getM B.mem i=some b∧okL noP b.cells=true)∨(i ∉ seen∧g i=some b)) (hw2:∀i,(wrG g wr i).isSome→(g i).isSome):
  CallOK P f (args.map (LV.den E)).toArray w fun u w'=>∃E',u=(LV.v (.one (.ptr nb 0))).den E'∧Post w E g nb ⟨.v (.one (.ptr nb 0)),wr,[bw],[],[]⟩ E' w':=by
 obtain ⟨fn,h1,h2,h3⟩:=ho
 refine .inl ⟨fn,h1,h2,h3,hC.mono ?_⟩
 rintro e w' ⟨Eo,rfl,hm,hx⟩
 have hgn:g nb=none:=by
  cases h:g nb with
  | none=>rfl
  | some c=>have:=(hg nb c h).1;rw [hpn] at this;cases this
 have key:∀q,(getM (jeB seen ks) q).isSome→q∈seen∧(g q).isSome:=by
  intro q hq
  rw [xm hl] at hq
  by_cases t:q∈seen
  ·rw [if_pos t] at hq;exact ⟨t,hq⟩
  ·rw [if_neg t] at hq;cases hq
 have hagr:∀i,i<nb→Eo i=E i:=hx.agree
 have hsrc:∀i,(getM B.mem i).isSome→w.heap.size≤(Eo i).1∨∃q,q∈seen∧(g q).isSome∧(Eo i).1=(E q).1:=by
  intro i hi
  rcases hx.src i hi with h | ⟨q,hq,he⟩
  ·exact .inl h
  ·exact .inr ⟨q,(key q hq).1,(key q hq).2,he⟩
 have hsz:∀i b,g i=some b→(E i).1<w.heap.size:=fun i b hi=>by
  obtain ⟨r,u1,-⟩:=hrel.blk i b hi
  exact (Array.getElem?_eq_some_iff.1 u1).1
 refine ⟨_,rfl,fun i=>if i=nb then Eo j else E i,by rw [hv];simp [LV.den,V1.den,At.den], ?_⟩
 have hEn:∀i,i≠nb→(fun i=>if i=nb then Eo j else E i) i=E i:=fun i hi=>by simp [hi]
 have hfar:∀i b,wrG g wr i=some b→(Eo j).1≠(E i).1:=by
  intro i b hib he
  rcases hw i b hib with ⟨a1,a2,a3⟩ | ⟨a1,a2⟩
  ·have:j=i:=hm.rel.inj j i (by show (getM B.mem j).isSome;rw [hj];rfl) (by show (getM B.mem i).isSome;rw [a2];rfl) (by rw [hagr i (hlt i a1)];exact he)
   have:=hlt i a1
   omega
  ·rcases hsrc j (by rw [hj];rfl) with h | ⟨q,q1,q2,q3⟩
   ·have:=hsz i b a2;omega
   ·have:=hrel.inj q i q2 (by rw [a2];rfl) (by rw [←q3,he])
    exact a1 (this ▸ q1)
 refine ⟨fun i hi=> ?_,⟨fun i b hib=> ?_,fun i k hi hk he=> ?_⟩,hx.os,hx.tape,hx.output,hx.size,fun b hb hne=>hx.frame b hb fun i hi=> ?_,fun i i1 i2=> ?_⟩
 ·simp at hi
  exact hEn i (by omega)
 ·simp only [nwG] at hib
  by_cases hin:i=nb
  ·subst hin
   rw [if_pos rfl] at hib
   cases hib
   exact kp (E:=Eo) (i:=j) hbw (by simp) (hm.rel.blk j _ hj)
  ·rw [if_neg hin] at hib
   rcases hw i b hib with ⟨a1,a2,a3⟩ | ⟨a1,a2⟩
   ·refine kp (E:=Eo) (i:=i) a3 ?_ (hm.rel.blk i _ a2)
    rw [if_neg hin,hagr i (hlt i a1)]
   ·obtain ⟨r,u1,u2,u3⟩:=hrel.blk i b a2
    refine ⟨r, ?_,u2,fun hz=>by rw [hEn i hin];exact u3 hz⟩
    rw [hEn i hin,hx.frame _ (hsz i b a2) fun q hq hqe=> ?_]
    ·rw [u1,jX (E:=E) (E':=fun i=>if i=nb then Eo j else E i) (p:=p) (fun t ht=>hEn t fun e=>by rw [e,hpn] at ht;cases ht) (hg i b a2).2]
    ·obtain ⟨s1,s2⟩:=key q hq
     have:=hrel.inj q i s2 (by rw [a2];rfl) hqe
     exact a1 (this ▸ s1)
 ·simp only [nwG] at hi hk
  by_cases hin:i=nb
  ·by_cases hkn:k=nb
   ·rw [hin,hkn]
   ·rw [if_neg hkn] at hk
    obtain ⟨b,hb⟩:=Option.isSome_iff_exists.1 hk
    simp only [hin,if_true,if_neg hkn] at he
    exact absurd he (hfar k b hb)
  ·rw [if_neg hin] at hi
   obtain ⟨b,hb⟩:=Option.isSome_iff_exists.1 hi
   by_cases hkn:k=nb
   ·simp only [hkn,if_true,if_neg hin] at he
    exact absurd he.symm (hfar i b hb)
   ·rw [if_neg hkn] at hk
    simp only [if_neg hin,if_neg hkn] at he
    exact hrel.inj i k (hw2 i hi) (hw2 k hk) he
 ·exact hne i (key i hi).2
 ·simp at i2
  have:i=nb:=by omega
  subst this
  simp only [if_true]
  rcases hsrc j (by rw [hj];rfl) with h | ⟨q,q1,q2,q3⟩
  ·exact .inl h
  ·exact .inr ⟨q,q2,q3⟩
end Go.Lr

/- thornton.rows: the whole, and its summary where thornton.Step calls it. -/
namespace Go.Proofs.YtbpfipbhaagllaaGreat
open Go.Lr
set_option maxRecDepth 20000
noncomputable abbrev rwB:Code:=jj Tryz.prog 149
abbrev Xu (h:Bool) (x0 x1 x2:List At):Mem:=[(0,flag 63 h),(2,⟨196,(0,0),0,x0⟩),(6,⟨67,(0,0),0,x1⟩),(7,⟨320,(0,0),0,x2⟩)]
abbrev jtX (h:Bool) (x0 x1 x2:List At):List Blk:=[flag 63 h,⟨196,(0,0),0,x0⟩,⟨67,(0,0),0,x1⟩,⟨320,(0,0),0,x2⟩]
theorem jtY {h:Bool} {f p w:List At} {nb:Nat} (hnb:8≤nb) (hf:AllI f 576) (hp:AllI p 300) (hw:AllI w 1152):jY nb (Xu h f p w)=true:=
 jE (by omega) rfl rfl (jE (by omega) (hf.okb _) rfl (jE (by omega) (hp.okb _) rfl (jE (by omega) (hw.okb _) rfl jH)))
theorem jxb {h:Bool} {f p w y:List At} (hf:AllI f 576) (hp:AllI p 300) (hw:AllI w 1152) (hy:AllI y 24):jY 9 [(0,flag 63 h),(2,⟨196,(0,0),0,f⟩),(6,⟨67,(0,0),0,p⟩),(7,⟨320,(0,0),0,w⟩),(8,⟨25,(0,0),0,y⟩)]=true:=
 jE (by omega) rfl rfl (jE (by omega) (hf.okb _) rfl (jE (by omega) (hp.okb _) rfl (jE (by omega) (hw.okb _) rfl (jE (by omega) (hy.okb _) rfl jH))))
theorem rwO (h:Bool) (f p w:List At) (k:Nat) (hf:AllI f 576) (hp:AllI p 300) (hw:AllI w 1152) (hk:k<24):∃(h':Bool) (f' p' w':List At),AllI f' 576∧AllI p' 300∧AllI w' 1152∧To Tryz.prog 54 (c1 (c1 (c2 (c1 (c2 (c2 rwB)))))) ⟨[(0,A0),(2,PX 2),(4,PX 6),(7,PX 7),(13,IK k)],(Xu h f p w),8⟩ .normal ⟨[(0,A0),(2,PX 2),(4,PX 6),(7,PX 7),(13,IK (k+1))],(Xu h' f' p' w'),8⟩:=by
 obtain ⟨h1,f1,p1,w1,a1,a2,a3,t1⟩:=rwH h f p w k hf hp hw hk
 obtain ⟨h2,f2,p2,w2,y2,b1,b2,b3,b4,t2⟩:=rwA h1 f1 p1 w1 k a1 a2 a3
 obtain ⟨h3,f3,p3,w3,y3,d1,d2,d3,d4,t3⟩:=rwS h2 f2 p2 w2 y2 k b1 b2 b3 b4 hk
 obtain ⟨h4,f4,p4,w4,y4,e1,e2,e3,e4,t4⟩:=jw8 h3 f3 p3 w3 y3 k d1 d2 d3 d4 hk
 obtain ⟨h5,f5,p5,w5,y5,g1,g2,g3,g4,t5⟩:=jw4 h4 f4 p4 w4 y4 k e1 e2 e3 e4
 obtain ⟨h6,f6,p6,w6,y6,i1,i2,i3,i4,t6⟩:=jw9 h5 f5 p5 w5 y5 k g1 g2 g3 g4 hk
 obtain ⟨h7,f7,p7,w7,j1,j2,j3,t7⟩:=rwN h6 f6 p6 w6 y6 k i1 i2 i3 i4 hk
 refine ⟨h7,f7,p7,w7,j1,j2,j3,To.lower (t1 _ _ (To.seq (by kernel_rfl) (To.block (id:=1) (by kernel_rfl) (t2 _ _ (To.pre (To.seq (by kernel_rfl) (To.seq (by kernel_rfl) t3 t4) (To.seq (by kernel_rfl) t5 t6)) (jr rfl (jxb b1 b2 b3 b4)) (fun q hq=> ?_) rfl rfl)) (.inr rfl)) t7)) (Nat.le_refl _) (jr rfl (jtY (Nat.le_refl _) j1 j2 j3))⟩
 simp only [List.mem_cons,List.not_mem_nil,or_false] at hq
 rcases hq with rfl | rfl | rfl | rfl | rfl | rfl | rfl
 ·exact ⟨A0,by simp,fun _=>rfl⟩
 ·exact ⟨PX 2,by simp,fun _=>rfl⟩
 ·exact ⟨PX 6,by simp,fun _=>rfl⟩
 ·exact ⟨PX 7,by simp,fun _=>rfl⟩
 ·exact ⟨IK k,by simp,fun _=>rfl⟩
 ·exact ⟨PP 8,by simp,fun _=>rfl⟩
 ·exact ⟨IK k,by simp,fun _=>rfl⟩
theorem jxc (h:Bool) (f p w:List At) (hf:AllI f 576) (hp:AllI p 300) (hw:AllI w 1152):∃(h':Bool) (f' p' w':List At),AllI f' 576∧AllI p' 300∧AllI w' 1152∧To Tryz.prog 54 (c2 (c1 (c2 (c2 (jj Tryz.prog 149))))) ⟨[(0,A0),(2,PX 2),(4,PX 6),(7,PX 7),(13,IK 0)],(Xu h f p w),8⟩ .normal ⟨[(0,A0),(2,PX 2),(4,PX 6),(7,PX 7)],(Xu h' f' p' w'),8⟩:=by
 have round:∀(k:Nat) (s:Bool×List At×List At×List At),k<24→(AllI s.2.1 576∧AllI s.2.2.1 300∧AllI s.2.2.2 1152)→∃s':Bool×List At×List At×List At,(AllI s'.2.1 576∧AllI s'.2.2.1 300∧AllI s'.2.2.2 1152)∧To Tryz.prog 54 (c1 (c1 (c2 (c1 (c2 (c2 (jj Tryz.prog 149))))))) ((fun (k:Nat) (s:Bool×List At×List At×List At)=>(⟨[(0,A0),(2,PX 2),(4,PX 6),(7,PX 7),(13,IK k)],(Xu (s.1) (s.2.1) (s.2.2.1) (s.2.2.2)),8⟩:Kst)) k s) .normal ((fun (k:Nat) (s:Bool×List At×List At×List At)=>(⟨[(0,A0),(2,PX 2),(4,PX 6),(7,PX 7),(13,IK k)],(Xu (s.1) (s.2.1) (s.2.2.1) (s.2.2.2)),8⟩:Kst)) (k+1) s'):=by
  rintro k ⟨h,f,p,w⟩ hlt ⟨k0,k1,k2⟩
  obtain ⟨h',f',p',w',q0,q1,q2,hT⟩:=rwO h f p w k k0 k1 k2 hlt
  exact ⟨(h',f',p',w'),⟨q0,q1,q2⟩,hT⟩
 have last:∀(s:Bool×List At×List At×List At),(AllI s.2.1 576∧AllI s.2.2.1 300∧AllI s.2.2.2 1152)→∃s':Bool×List At×List At×List At,(AllI s'.2.1 576∧AllI s'.2.2.1 300∧AllI s'.2.2.2 1152)∧To Tryz.prog 54 (c1 (c1 (c2 (c1 (c2 (c2 (jj Tryz.prog 149))))))) ((fun (k:Nat) (s:Bool×List At×List At×List At)=>(⟨[(0,A0),(2,PX 2),(4,PX 6),(7,PX 7),(13,IK k)],(Xu (s.1) (s.2.1) (s.2.2.1) (s.2.2.2)),8⟩:Kst)) (24) s) (.exit 0) ((fun (s:Bool×List At×List At×List At)=>(⟨[(0,A0),(2,PX 2),(4,PX 6),(7,PX 7)],(Xu (s.1) (s.2.1) (s.2.2.1) (s.2.2.2)),8⟩:Kst)) s'):=by
  rintro ⟨h,f,p,w⟩ ⟨k0,k1,k2⟩
  obtain ⟨h',f',p',w',q0,q1,q2,hT⟩:=jw1 h f p w k0 k1 k2
  exact ⟨(h',f',p',w'),⟨q0,q1,q2⟩,hT⟩
 obtain ⟨⟨h',f',p',w'⟩,⟨q0,q1,q2⟩,hT⟩:=qQ (id:=0) (by kernel_rfl) (by kernel_rfl) round last (h,f,p,w) ⟨hf,hp,hw⟩
 exact ⟨h',f',p',w',q0,q1,q2,hT⟩
theorem jxd (dead:Nat→Value) (h:Bool) (f p:List At):ju [0,2,4,7] [0,2,6,7] (xg Tryz.prog KA1 Zl 400 (kJ 2 rwB) (Kst.st ⟨jS 0 [A0,.v (.agg (jp p 0 300)),PP 2],[(2,⟨196,(0,0),0,f⟩),(0,flag 63 h)],6⟩ 54 dead []))=some (.normal,[A0,PP 2,PP 6,PP 7],[some (flag 63 h),some ⟨196,(0,0),0,f⟩,some ⟨67,(0,0),0,jp p 0 300⟩,some ⟨320,(0,0),0,zc 320⟩],[]):=by kernel_rfl
theorem rwZ (dead:Nat→Value) (h:Bool) (f p w:List At):ju [6] [0,2,7] (exec Tryz.prog KA1 Zl 400 (.code (c2 (c2 (c2 (c2 rwB))))) (Kst.st ⟨[(0,A0),(2,PX 2),(4,PX 6),(7,PX 7)],(Xu h f p w),8⟩ 54 dead []))=some (.ret,[PX 7],[some (flag 63 h),some ⟨196,(0,0),0,f⟩,some ⟨320,(0,0),0,w⟩],[]):=by kernel_rfl
theorem jxe (h:Bool) (f p:List At) (hf:AllI f 576) (hp:AllI p 300):∃(h':Bool) (f' w':List At),AllI f' 576∧AllI w' 1152∧To Tryz.prog 54 rwB ⟨jS 0 [A0,.v (.agg (jp p 0 300)),PP 2],[(2,⟨196,(0,0),0,f⟩),(0,flag 63 h)],6⟩ .ret ⟨[(6,PX 7)],[(0,flag 63 h'),(2,⟨196,(0,0),0,f'⟩),(7,⟨320,(0,0),0,w'⟩)],8⟩:=by
 have hp0:=AllI.ints p 0 300
 obtain ⟨h1,f1,p1,w1,a1,a2,a3,t1⟩:=jw7 h f (jp p 0 300) (zc 320) hf hp0 jiP
 obtain ⟨h2,f2,p2,w2,b1,b2,b3,t2⟩:=jxc h1 f1 p1 w1 a1 a2 a3
 obtain ⟨h3,f3,p3,w3,d1,d2,d3,t3⟩:=jw6 h2 f2 p2 w2 b1 b2 b3
 obtain ⟨h4,f4,p4,w4,e1,e2,e3,t4⟩:=jxa h3 f3 p3 w3 d1 d2 d3
 refine ⟨h4,f4,w4,e1,e3,To.spine (z:=Zl) soundKA1 (k:=2) (slots:=[0,2,4,7]) (blks:=[0,2,6,7]) (vs:=[A0,PP 2,PP 6,PP 7]) (bs:=(jtX h f (jp p 0 300) (zc 320))) (nbB:=8) (by kernel_rfl) (fun dead=>jxd dead h f p) jd (jr rfl (jtY (Nat.le_refl _) hf hp0 jiP)) (Nat.le_of_ble_eq_true rfl) (To.pre (To.seq (by kernel_rfl) (To.seq (by kernel_rfl) t1 t2) (To.seq (by kernel_rfl) (To.seq (by kernel_rfl) t3 t4) (To.exec (z:=Zl) soundKA1 (slots:=[6]) (blks:=[0,2,7]) (vs:=[PX 7]) (bs:=[flag 63 h4,⟨196,(0,0),0,f4⟩,⟨320,(0,0),0,w4⟩]) (nbB:=8) (fun dead=>rwZ dead h4 f4 p4 w4) jd (jr rfl (jE (Nat.le_of_ble_eq_true rfl) rfl rfl (jE (Nat.le_of_ble_eq_true rfl) (e1.okb _) rfl (jE (Nat.le_of_ble_eq_true rfl) (e3.okb _) rfl jH)))) (Nat.le_refl _)))) (jr rfl (jtY (Nat.le_refl _) hf hp0 jiP)) (fun q hq=> ?_) rfl rfl)⟩
 simp only [List.mem_cons,List.not_mem_nil,or_false] at hq
 rcases hq with rfl | rfl | rfl | rfl
 ·exact ⟨A0,by simp,fun _=>rfl⟩
 ·exact ⟨PP 2,by simp,fun _=>rfl⟩
 ·exact ⟨PP 6,by simp,fun _=>rfl⟩
 ·exact ⟨PP 7,by simp,fun _=>rfl⟩
end Go.Proofs.YtbpfipbhaagllaaGreat

/- thornton.rows: its summary where thornton.Step calls it. -/
namespace Go.Proofs.YtbpfipbhaagllaaGreat
open Go.Lr Go.RowKit
set_option maxRecDepth 20000
def jtZ (p f:List At) (h:Bool) (q:List At×List At×Bool):Prop:=
 AllI q.1 576∧AllI q.2.1 1152∧To Tryz.prog 54 rwB ⟨jS 0 [A0,.v (.agg (jp p 0 300)),PP 2],[(2,⟨196,(0,0),0,f⟩),(0,flag 63 h)],6⟩ .ret ⟨[(6,PX 7)],[(0,flag 63 q.2.2),(2,⟨196,(0,0),0,q.1⟩),(7,⟨320,(0,0),0,q.2.1⟩)],8⟩
noncomputable def jbC (p f:List At) (h:Bool):List At×List At×Bool:=@Classical.epsilon _ ⟨([],[],false)⟩ (jtZ p f h)
theorem jlL {p f:List At} (h:Bool) (hf:AllI f 576) (hp:AllI p 300):jtZ p f h (jbC p f h):=by
 obtain ⟨h',f',w',a1,a2,a3⟩:=jxe h f p hf hp
 exact @Classical.epsilon_spec_aux _ ⟨([],[],false)⟩ (jtZ p f h) ⟨(f',w',h'),a1,a2,a3⟩
noncomputable def jt0:List LV→List Nat→List Blk→Nat→Option Dl
 | [.v (.one (.ptr 0 0)),.v (.agg p),.v (.one (.ptr 2 0))],[2,0],[⟨tm,(0,0),0,f⟩,⟨ta,(0,0),0,[.bool h]⟩],6=>match Nat.beq tm 196,Nat.beq ta 63,yl p 300,yl f 576 with
  | true,true,true,true=>some ⟨.v (.one (.ptr 6 0)),[(2,some ⟨196,(0,0),0,mkI (intAt (jbC p f h).1) 0 576⟩),(0,some (flag 63 (jbC p f h).2.2))],[⟨320,(0,0),0,mkI (intAt (jbC p f h).2.1) 0 1152⟩],[],[]⟩
  | _,_,_,_=>none
 | _,_,_,_=>none
theorem jpI:Ke Tryz.prog 149 jt0:=by
 intro args seen ks g nb p' d E w hl hd hnd hc hrel hg hargs hn
 unfold jt0 at hd
 split at hd
 ·rename_i p tm f ta h
  split at hd
  ·rename_i q1 q2 q3 q4
   cases hd
   rw [kX] at q1 q2
   simp only [decide_eq_true_eq] at q1 q2
   subst q1 q2
   have hp:=j7 q3
   have hf:=j7 q4
   obtain ⟨r1,r2,r3⟩:=jlL h hf hp
   generalize jbC p f h=q at *
   obtain ⟨f',w',h'⟩:=q
   simp only at r1 r2 r3 hn ⊢
   rw [qP,qP,←r1.eq,←r2.eq]
   have hpn:p' 6=false:=hn 6 (Nat.le_refl _) (by simp)
   have e0:([LV.v (.one (.ptr 0 0)),.v (.agg p),.v (.one (.ptr 2 0))]:List LV)=[A0,.v (.agg (jp p 0 300)),PP 2]:=by rw [←hp.eq];rfl
   have hz:jeB [2,0] [⟨196,(0,0),0,f⟩,⟨63,(0,0),0,[.bool h]⟩]=[(2,⟨196,(0,0),0,f⟩),(0,flag 63 h)]:=rfl
   have hrelM:Rel E (getM [(2,⟨196,(0,0),0,f⟩),(0,flag 63 h)]) w:=by
    rw [←hz]
    refine hrel.sub fun i b hib=> ?_
    rw [xm hl] at hib
    split at hib
    ·exact hib
    ·cases hib
   have hmk:jY 6 [(2,⟨196,(0,0),0,f⟩),(0,flag 63 h)]=true:=jE (Nat.le_of_ble_eq_true rfl) (hf.okb _) rfl (jE (Nat.le_of_ble_eq_true rfl) rfl rfl jH)
   obtain ⟨m1,m2⟩:=xC hmk
   have hC:=yA (P:=Tryz.prog) (f:=149) (c:=rwB) (v:=PX 7) (nb:=6) (args:=[A0,.v (.agg (jp p 0 300)),PP 2]) Tryz.func149 (by kernel_rfl) (Nat.le_of_ble_eq_true (by kernel_rfl)) (Nat.le_of_ble_eq_true (by kernel_rfl)) (fun u hu=>by
    simp only [List.mem_cons,List.not_mem_nil,or_false] at hu
    rcases hu with rfl | rfl | rfl
    ·rfl
    ·exact (AllI.ints p 0 300).okb 6
    ·rfl) m1 m2 r3 (.inr rfl) (fun dead=>by kernel_rfl) E w hrelM
   rw [e0]
   refine jk4 (jl soundKA1 Tryz.func149 (by kernel_rfl)) (v0:=PX 7) (j:=7) hl hrel hg hpn (fun i hi=> ?_) (nb:=6) (B:=⟨[(6,PX 7)],[(0,flag 63 h'),(2,⟨196,(0,0),0,f'⟩),(7,⟨320,(0,0),0,w'⟩)],8⟩) (by rw [hz];exact hC) (fun E=>by simp [PX,LV.den,V1.den,At.den]) rfl (Nat.le_of_ble_eq_true rfl) r2.ok (fun i b hib=> ?_) (fun i hi=> ?_)
   ·simp only [List.mem_cons,List.not_mem_nil,or_false] at hi
    rcases hi with rfl | rfl <;> decide
   ·simp only [wrG] at hib
    by_cases h0:i=0
    ·subst h0
     rw [if_pos rfl] at hib
     cases hib
     exact .inl ⟨by simp,rfl,rfl⟩
    ·rw [if_neg h0] at hib
     by_cases h2:i=2
     ·subst h2
      rw [if_pos rfl] at hib
      cases hib
      exact .inl ⟨by simp,rfl,r1.ok⟩
     ·rw [if_neg h2] at hib
      exact .inr ⟨by simp [h0,h2],hib⟩
   ·simp only [wrG] at hi
    by_cases h0:i=0
    ·subst h0;exact kh hl 0 (by simp)
    ·rw [if_neg h0] at hi
     by_cases h2:i=2
     ·subst h2;exact kh hl 2 (by simp)
     ·rw [if_neg h2] at hi;exact hi
  ·cases hd
 ·cases hd
noncomputable def KA2:FuncId→Option SumK:=moreG KA1 149 jt0
theorem jN:Sound Tryz.prog KA2:=soundKA1.moreG jpI
end Go.Proofs.YtbpfipbhaagllaaGreat
