/- Joined texts. What each part proves stands ahead of it; no condition. -/
import Derived.Test.YtfepmlklbapfiaaGreatLrM5
import Derived.Test.YtfepmlklbapfiaaGreatLrM4
import Derived.Test.YtfepmlklbapfiaaGreatLrM2
import Derived.WalkKit
import Derived.ProofKit
import Derived.OpenShut
import Derived.WideShapes

/- Summaries by formula, of functions that are handed one block and plain values; summaries by all blocks, the one or else the other. -/
set_option linter.unusedVariables false
namespace Go.Lr
open Go.RowKit
def fM (F:Blk→List LV→Option (LV×Blk×List (Bool×Bool))):Sum:=fun args=>
 match args with
 | .v (.one (.ptr b 0))::rest=>match plainVs rest with
  | true=>some ⟨[],[b],fun _ wB _=>match wB with
   | [k]=>match F k rest with
    | some (v,k',cs)=>some ⟨v,[k'],[],cs⟩
    | none=>none
   | _=>none⟩
  | false=>none
 | _=>none
section
variable {P:Program} {S:FuncId→Option SumK} {z:Md}
theorem fM_ok (hs:Sound P S) {f:FuncId} (ho:Own P f) {F:Blk→List LV→Option (LV×Blk×List (Bool×Bool))}
  (hF:∀k rest v k' cs,F k rest=some (v,k',cs)→(∀c∈cs,c.1=c.2)→plainVs rest=true→okL noP k.cells=true∧okL noP k'.cells=true∧v.ok noP=true∧k'.es=k.es∧
   ∃n dec m' nb' cs',runF P S z n f (A0::rest) [(0,k)] 1 dec=some (v,m',nb',cs')∧getM m' 0=some k'∧∀c∈cs',c.1=c.2):SumOK P f (fM F):=by
 intro args t g nb p rdB wrB ans ws E w hs' hr hw _ hgo hz hc hrel hg hargs hn
 unfold fM at hs'
 split at hs'
 ·rename_i b rest
  split at hs'
  ·rename_i hp
   cases hs'
   simp only at hgo hw
   split at hgo
   ·rename_i k
    split at hgo
    ·rename_i v k' cs hFk
     cases hgo
     obtain ⟨hk,hok',hv,hes',n,dec,m',nb',cs',hrun,hk',hc'⟩:=hF k rest v k' cs hFk hc hp
     simp only [liveAll] at hw
     split at hw
     ·rename_i q r hq hr'
      cases hr'
      cases hw
      simp only [zipW] at hz
      cases hz
      have hp':=plainVs_iff.1 hp
      obtain ⟨s',h1,h2,h3,h4⟩:=runF_body hrun
      have hget:∀i c,getM [(0,k)] i=some c→i=0∧c=k:=by
       intro i c hc
       rw [getM_cons] at hc
       by_cases hi:i=0
       ·rw [if_pos hi] at hc;cases hc;exact ⟨hi,rfl⟩
       ·rw [if_neg hi] at hc;simp [getM] at hc
      obtain ⟨v',b1,b2,b3,b4,b5,b6,b7,b8⟩:=(exec_sound (binOK P) hs.sums hs.mix hs.ng n).2.2.2 f (A0::rest) _ _ s' h1 (fun i c hc=>by
       obtain ⟨rfl,rfl⟩:=hget i c hc
       exact ⟨Nat.zero_lt_one,okL_mono noP_below hk⟩) ⟨rfl,trivial⟩ (fun u hu=>by
       rcases List.mem_cons.1 hu with rfl | hu
       ·rfl
       ·exact LV.ok_mono noP_below (hp' u hu))
      cases b1
      obtain ⟨r0,g1,g2,g3⟩:=hrel.blk b k hq
      have hmr:MRel (fun _=>E b) ⟨.nil,0,[(0,k)],1,dec,[],[]⟩ w:=by
       refine ⟨⟨fun i c hc=> ?_,fun i j hi hj _=> ?_⟩,fun i c hc=> ?_,⟨rfl,trivial⟩⟩
       ·obtain ⟨rfl,rfl⟩:=hget i c hc
        exact ⟨r0,by rw [denA_noP hk] at g1 ⊢;exact g1,g2,g3⟩
       ·obtain ⟨c,hc⟩:=Option.isSome_iff_exists.1 hi
        obtain ⟨d,hd⟩:=Option.isSome_iff_exists.1 hj
        rw [(hget i c hc).1,(hget j d hd).1]
       ·obtain ⟨rfl,rfl⟩:=hget i c hc
        exact ⟨Nat.zero_lt_one,okL_mono noP_below hk⟩
      have hcall:=b8 (by rw [Good,h4];exact hc') (fun _=>E b) w hmr
      have hargs':((A0::rest).map (LV.den fun _=>E b))=((LV.v (V1.one (At.ptr b 0)))::rest).map (LV.den E):=by
       rw [List.map_cons,List.map_cons,denL_noP hp',denL_noP (E:=E) hp']
       rfl
      rw [hargs'] at hcall
      obtain ⟨fn,f1,f2,f3⟩:=ho
      refine .inl ⟨fn,f1,f2,f3,hcall.mono ?_⟩
      rintro e w' ⟨E',rfl,hmr',hx⟩
      refine ⟨_,rfl,E,by rw [den_noP hv,den_noP (E:=E) hv], ?_⟩
      obtain ⟨r',q1,q2,q3⟩:=hmr'.rel.blk 0 k' (by rw [h2];exact hk')
      rw [hx.agree 0 (by show 0<1;omega)] at q1 q3
      have hframe:∀j,j<w.heap.size→j≠(E b).1→w'.heap[j]? = w.heap[j]? :=fun j hj hne=>hx.frame j hj fun i hi he=>hne he.symm
      refine ⟨fun _ _=>rfl,⟨fun i c hic=> ?_,fun i j hi hj he=> ?_⟩,hx.os,hx.tape,hx.output,hx.size,fun j hj hne=>hframe j hj fun e=>hne b (by simp [hq]) e.symm,fun i h1 h2=>by simp at h2;omega⟩
      ·simp only [nwG,wrG] at hic
       by_cases hi:i=b
       ·subst hi
        rw [if_pos rfl] at hic
        cases hic
        exact ⟨r',by rw [denA_noP hok'] at q1 ⊢;exact q1,q2,q3⟩
       ·rw [if_neg hi] at hic
        obtain ⟨r,u1,u2,u3⟩:=hrel.blk i c hic
        refine ⟨r, ?_,u2,u3⟩
        rw [hframe _ (Array.getElem?_eq_some_iff.1 u1).1 (fun e=>hi (hrel.inj i b (by simp [hic]) (by simp [hq]) e))]
        exact u1
      ·simp only [nwG,wrG] at hi hj
       refine hrel.inj i j ?_ ?_ he
       ·by_cases h1:i=b
        ·rw [h1];simp [hq]
        ·simpa [if_neg h1] using hi
       ·by_cases h1:j=b
        ·rw [h1];simp [hq]
        ·simpa [if_neg h1] using hj
     ·cases hw
    ·cases hgo
   ·cases hgo
  ·cases hs'
 ·cases hs'
end
def genOf (s:Sum):List LV→List Nat→List Blk→Nat→Option Dl:=fun args seen ks nb=>
 match s args with
 | some t=>match liveAll (lookB seen ks) t.rd,liveAll (lookB seen ks) t.wr,nodupB t.wr with
  | some rB,some wB,true=>match t.go rB wB nb with
   | some ans=>match zipW t.wr ans.wr with
    | some ws=>some ⟨ans.val,ws,ans.nw,[],ans.cs⟩
    | none=>none
   | none=>none
  | _,_,_=>none
 | none=>none
theorem genOf_ok {P:Program} {f:FuncId} {s:Sum} (hS:SumOK P f s):GenOK P f (genOf s):=by
 intro args seen ks g nb p d E w hl hd hnd hcs hrel hg hargs hn
 unfold genOf at hd
 split at hd
 ·rename_i t ht
  split at hd
  ·rename_i rB wB hr hw hnd2
   split at hd
   ·rename_i ans hgo
    split at hd
    ·rename_i ws hz
     cases hd
     have up:∀(l:List Nat) (r:List Blk),liveAll (lookB seen ks) l=some r→liveAll g l=some r:=fun l r h=>liveAll_congr h fun i b _ _ hi=>lookB_live hl hi
     exact hS args t g nb p rB wB ans ws E w ht (up _ _ hr) (up _ _ hw) hnd2 hgo hz hcs hrel hg hargs hn
    ·cases hd
   ·cases hd
  ·cases hd
 ·cases hd
def orGen (s1 s2:List LV→List Nat→List Blk→Nat→Option Dl):List LV→List Nat→List Blk→Nat→Option Dl:=fun args seen ks nb=>
 match s1 args seen ks nb with
 | some d=>some d
 | none=>s2 args seen ks nb
theorem orGen_ok {P:Program} {f:FuncId} {s1 s2:List LV→List Nat→List Blk→Nat→Option Dl} (h1:GenOK P f s1) (h2:GenOK P f s2):GenOK P f (orGen s1 s2):=by
 intro args seen ks g nb p d E w hl hd hnd hcs hrel hg hargs hn
 unfold orGen at hd
 split at hd
 ·rename_i d' hd'
  cases hd
  exact h1 args seen ks g nb p _ E w hl hd' hnd hcs hrel hg hargs hn
 ·exact h2 args seen ks g nb p d E w hl hd hnd hcs hrel hg hargs hn
end Go.Lr

/- Summaries for the whole filter: the flag may lie anywhere; what the evaluator makes by running. -/
namespace Go.Proofs.YtfepmlklbapfiaaGreat
open Go.Lr
set_option linter.unusedVariables false
noncomputable def K0:FuncId→Option SumK:=more (more (more S47 151 (liftF 67 (acSum 67 1 faddS'))) 36 (liftF 67 (acSum 67 1 fdotS))) 32 (liftF 67 (acSum 67 1 fhypS))
theorem soundK0:Sound Tryz.prog K0:=((sound47.more (liftF_ok sumFadd')).more (liftF_ok sumDot)).more (liftF_ok sumHyp)
noncomputable def K1:FuncId→Option SumK:=more K0 154 (accSum 67 (autoF Tryz.prog K0 Zl 2000 154 67))
theorem soundK1:Sound Tryz.prog K1:=soundK0.more (autoF_ok soundK0 (own_of soundK0 Tryz.func154 (by kernel_rfl)))
noncomputable def K2:FuncId→Option SumK:=more K1 130 (accSum 67 (autoF Tryz.prog K1 Zl 2000 130 67))
theorem soundK2:Sound Tryz.prog K2:=soundK1.more (autoF_ok soundK1 (own_of soundK1 Tryz.func130 (by kernel_rfl)))
noncomputable def K3:FuncId→Option SumK:=more K2 102 (accSum 67 (autoF Tryz.prog K2 Zl 2000 102 67))
theorem soundK3:Sound Tryz.prog K3:=soundK2.more (autoF_ok soundK2 (own_of soundK2 Tryz.func102 (by kernel_rfl)))
noncomputable def K4:FuncId→Option SumK:=more K3 15 (accSum 67 (autoF Tryz.prog K3 Zl 2000 15 67))
theorem soundK4:Sound Tryz.prog K4:=soundK3.more (autoF_ok soundK3 (own_of soundK3 Tryz.func15 (by kernel_rfl)))
noncomputable def K5:FuncId→Option SumK:=moreG K4 98 (orGen (narG 0 67 (autoA Tryz.prog K4 Zl 4000 98)) (autoA Tryz.prog K4 Zl 4000 98))
theorem soundK5:Sound Tryz.prog K5:=soundK4.moreG (orGen_ok (narG_ok (autoA_ok soundK4 (own_of soundK4 Tryz.func98 (by kernel_rfl)))) (autoA_ok soundK4 (own_of soundK4 Tryz.func98 (by kernel_rfl))))
noncomputable def K6:FuncId→Option SumK:=moreG K5 103 (autoA Tryz.prog K5 Zl 4000 103)
theorem soundK6:Sound Tryz.prog K6:=soundK5.moreG (autoA_ok soundK5 (own_of soundK5 Tryz.func103 (by kernel_rfl)))
noncomputable def K7:FuncId→Option SumK:=more K6 81 (autoP Tryz.prog K6 Zl 2000 81)
theorem soundK7:Sound Tryz.prog K7:=soundK6.more (autoP_ok soundK6 (own_of soundK6 Tryz.func81 (by kernel_rfl)))
end Go.Proofs.YtfepmlklbapfiaaGreat

/- state.unit: its summary. Plain sums of four squares. -/
namespace Go.Proofs.YtfepmlklbapfiaaGreat
open Go.Lr
set_option linter.unusedVariables false
def unA (q0 q1 q2 q3:Int):Int:=wVal 0 0+wVal (wHi (q0*q0)) (wLo (q0*q0))
def unB (q0 q1 q2 q3:Int):Int:=wVal (w64 (wHi (wVal 0 0+wVal (wHi (q0*q0)) (wLo (q0*q0))))) (wLo (wVal 0 0+wVal (wHi (q0*q0)) (wLo (q0*q0))))+wVal (wHi (q1*q1)) (wLo (q1*q1))
def unC (q0 q1 q2 q3:Int):Int:=wVal (w64 (wHi (wVal (w64 (wHi (wVal 0 0+wVal (wHi (q0*q0)) (wLo (q0*q0))))) (wLo (wVal 0 0+wVal (wHi (q0*q0)) (wLo (q0*q0))))+wVal (wHi (q1*q1)) (wLo (q1*q1))))) (wLo (wVal (w64 (wHi (wVal 0 0+wVal (wHi (q0*q0)) (wLo (q0*q0))))) (wLo (wVal 0 0+wVal (wHi (q0*q0)) (wLo (q0*q0))))+wVal (wHi (q1*q1)) (wLo (q1*q1))))+wVal (wHi (q2*q2)) (wLo (q2*q2))
def unD (q0 q1 q2 q3:Int):Int:=wVal (w64 (wHi (wVal (w64 (wHi (wVal (w64 (wHi (wVal 0 0+wVal (wHi (q0*q0)) (wLo (q0*q0))))) (wLo (wVal 0 0+wVal (wHi (q0*q0)) (wLo (q0*q0))))+wVal (wHi (q1*q1)) (wLo (q1*q1))))) (wLo (wVal (w64 (wHi (wVal 0 0+wVal (wHi (q0*q0)) (wLo (q0*q0))))) (wLo (wVal 0 0+wVal (wHi (q0*q0)) (wLo (q0*q0))))+wVal (wHi (q1*q1)) (wLo (q1*q1))))+wVal (wHi (q2*q2)) (wLo (q2*q2))))) (wLo (wVal (w64 (wHi (wVal (w64 (wHi (wVal 0 0+wVal (wHi (q0*q0)) (wLo (q0*q0))))) (wLo (wVal 0 0+wVal (wHi (q0*q0)) (wLo (q0*q0))))+wVal (wHi (q1*q1)) (wLo (q1*q1))))) (wLo (wVal (w64 (wHi (wVal 0 0+wVal (wHi (q0*q0)) (wLo (q0*q0))))) (wLo (wVal 0 0+wVal (wHi (q0*q0)) (wLo (q0*q0))))+wVal (wHi (q1*q1)) (wLo (q1*q1))))+wVal (wHi (q2*q2)) (wLo (q2*q2))))+wVal (wHi (q3*q3)) (wLo (q3*q3))
def unE (q0 q1 q2 q3:Int):Int:=wVal (w64 (wHi (wVal (w64 (wHi (wVal (w64 (wHi (wVal (w64 (wHi (wVal 0 0+wVal (wHi (q0*q0)) (wLo (q0*q0))))) (wLo (wVal 0 0+wVal (wHi (q0*q0)) (wLo (q0*q0))))+wVal (wHi (q1*q1)) (wLo (q1*q1))))) (wLo (wVal (w64 (wHi (wVal 0 0+wVal (wHi (q0*q0)) (wLo (q0*q0))))) (wLo (wVal 0 0+wVal (wHi (q0*q0)) (wLo (q0*q0))))+wVal (wHi (q1*q1)) (wLo (q1*q1))))+wVal (wHi (q2*q2)) (wLo (q2*q2))))) (wLo (wVal (w64 (wHi (wVal (w64 (wHi (wVal 0 0+wVal (wHi (q0*q0)) (wLo (q0*q0))))) (wLo (wVal 0 0+wVal (wHi (q0*q0)) (wLo (q0*q0))))+wVal (wHi (q1*q1)) (wLo (q1*q1))))) (wLo (wVal (w64 (wHi (wVal 0 0+wVal (wHi (q0*q0)) (wLo (q0*q0))))) (wLo (wVal 0 0+wVal (wHi (q0*q0)) (wLo (q0*q0))))+wVal (wHi (q1*q1)) (wLo (q1*q1))))+wVal (wHi (q2*q2)) (wLo (q2*q2))))+wVal (wHi (q3*q3)) (wLo (q3*q3))))) (wLo (wVal (w64 (wHi (wVal (w64 (wHi (wVal (w64 (wHi (wVal 0 0+wVal (wHi (q0*q0)) (wLo (q0*q0))))) (wLo (wVal 0 0+wVal (wHi (q0*q0)) (wLo (q0*q0))))+wVal (wHi (q1*q1)) (wLo (q1*q1))))) (wLo (wVal (w64 (wHi (wVal 0 0+wVal (wHi (q0*q0)) (wLo (q0*q0))))) (wLo (wVal 0 0+wVal (wHi (q0*q0)) (wLo (q0*q0))))+wVal (wHi (q1*q1)) (wLo (q1*q1))))+wVal (wHi (q2*q2)) (wLo (q2*q2))))) (wLo (wVal (w64 (wHi (wVal (w64 (wHi (wVal 0 0+wVal (wHi (q0*q0)) (wLo (q0*q0))))) (wLo (wVal 0 0+wVal (wHi (q0*q0)) (wLo (q0*q0))))+wVal (wHi (q1*q1)) (wLo (q1*q1))))) (wLo (wVal (w64 (wHi (wVal 0 0+wVal (wHi (q0*q0)) (wLo (q0*q0))))) (wLo (wVal 0 0+wVal (wHi (q0*q0)) (wLo (q0*q0))))+wVal (wHi (q1*q1)) (wLo (q1*q1))))+wVal (wHi (q2*q2)) (wLo (q2*q2))))+wVal (wHi (q3*q3)) (wLo (q3*q3))))
theorem kunR1 (q0 q1 q2 q3:Int):(runF Tryz.prog (dropS K7 67) Zl 4000 79 [.v (.agg [.int .i64 q0,.int .i64 q1,.int .i64 q2,.int .i64 q3])] [] 0 (nn 1 (tt 1 []))).map (fun r=>(r.1,r.2.2.2))=some (LV.v (V1.one (At.bool false)),[(decide (fabsV q0>1073741840),true)]):=by kernel_rfl
theorem kunR2 (q0 q1 q2 q3:Int):(runF Tryz.prog (dropS K7 67) Zl 4000 79 [.v (.agg [.int .i64 q0,.int .i64 q1,.int .i64 q2,.int .i64 q3])] [] 0 (nn 1 (ff 1 (nn 1 (tt 1 []))))).map (fun r=>(r.1,r.2.2.2))=some (LV.v (V1.one (At.bool false)),[(decide (fabsV q1>1073741840),true),(true&&true,true),(isI q0,true),(isI q0,true),(decide (fabsV q0>1073741840),false)]):=by kernel_rfl
theorem kunR3 (q0 q1 q2 q3:Int):(runF Tryz.prog (dropS K7 67) Zl 4000 79 [.v (.agg [.int .i64 q0,.int .i64 q1,.int .i64 q2,.int .i64 q3])] [] 0 (nn 1 (ff 1 (nn 1 (ff 1 (nn 1 (tt 1 []))))))).map (fun r=>(r.1,r.2.2.2))=some (LV.v (V1.one (At.bool false)),[(decide (fabsV q2>1073741840),true),(true&&true,true),(isI q1,true),(isI q1,true),(decide (fabsV q1>1073741840),false),(true&&true,true),(isI q0,true),(isI q0,true),(decide (fabsV q0>1073741840),false)]):=by kernel_rfl
theorem kunR4 (q0 q1 q2 q3:Int):(runF Tryz.prog (dropS K7 67) Zl 4000 79 [.v (.agg [.int .i64 q0,.int .i64 q1,.int .i64 q2,.int .i64 q3])] [] 0 (nn 1 (ff 1 (nn 1 (ff 1 (nn 1 (ff 1 (nn 1 (tt 1 []))))))))).map (fun r=>(r.1,r.2.2.2))=some (LV.v (V1.one (At.bool false)),[(decide (fabsV q3>1073741840),true),(true&&true,true),(isI q2,true),(isI q2,true),(decide (fabsV q2>1073741840),false),(true&&true,true),(isI q1,true),(isI q1,true),(decide (fabsV q1>1073741840),false),(true&&true,true),(isI q0,true),(isI q0,true),(decide (fabsV q0>1073741840),false)]):=by kernel_rfl
theorem kunR5 (q0 q1 q2 q3:Int):(runF Tryz.prog (dropS K7 67) Zl 4000 79 [.v (.agg [.int .i64 q0,.int .i64 q1,.int .i64 q2,.int .i64 q3])] [] 0 (nn 1 (ff 1 (nn 1 (ff 1 (nn 1 (ff 1 (nn 1 (ff 1 (nn 2 (ff 1 (nn 1 (ff 1 (nn 1 (ff 1 (nn 1 (ff 1 (nn 1 (tt 8 []))))))))))))))))))).map (fun r=>(r.1,r.2.2.2))=some (LV.v (V1.one (At.bool (decide (wr IntKind.i64 ((if isI (rndV (unE q0 q1 q2 q3) (Int.toNat 0))=true then rndV (unE q0 q1 q2 q3) (Int.toNat 0) else 0) - 1152921504606846976)≤4294967296)))),[(decide (wr IntKind.i64 ((if isI (rndV (unE q0 q1 q2 q3) (Int.toNat 0))=true then rndV (unE q0 q1 q2 q3) (Int.toNat 0) else 0) - 1152921504606846976)≥ -4294967296),true),(decide (wr IntKind.i64 ((if isI (rndV (unE q0 q1 q2 q3) (Int.toNat 0))=true then rndV (unE q0 q1 q2 q3) (Int.toNat 0) else 0) - 1152921504606846976)≥ -4294967296),true),(decide (wr IntKind.i64 ((if isI (rndV (unE q0 q1 q2 q3) (Int.toNat 0))=true then rndV (unE q0 q1 q2 q3) (Int.toNat 0) else 0) - 1152921504606846976)≥ -4294967296),true),(decide (wr IntKind.i64 ((if isI (rndV (unE q0 q1 q2 q3) (Int.toNat 0))=true then rndV (unE q0 q1 q2 q3) (Int.toNat 0) else 0) - 1152921504606846976)≥ -4294967296),true),(isI (rndV (unE q0 q1 q2 q3) 0),true),(isI (rndV (unE q0 q1 q2 q3) 0),true),(isI (rndV (unE q0 q1 q2 q3) 0),true),(isI (rndV (unE q0 q1 q2 q3) 0),true),(isI (w64 (wHi (unD q0 q1 q2 q3))),true),(isU (wLo (unD q0 q1 q2 q3)),true),(decide (0≤0)&&decide (0≤126),true),(!isW (unD q0 q1 q2 q3),false),(isI (w64 (wHi (unC q0 q1 q2 q3))),true),(isU (wLo (unC q0 q1 q2 q3)),true),(isI (wHi (q3*q3)),true),(isU (wLo (q3*q3)),true),(!isW (unC q0 q1 q2 q3),false),(isI (w64 (wHi (unB q0 q1 q2 q3))),true),(isU (wLo (unB q0 q1 q2 q3)),true),(isI (wHi (q2*q2)),true),(isU (wLo (q2*q2)),true),(!isW (unB q0 q1 q2 q3),false),(isI (w64 (wHi (unA q0 q1 q2 q3))),true),(isU (wLo (unA q0 q1 q2 q3)),true),(isI (wHi (q1*q1)),true),(isU (wLo (q1*q1)),true),(!isW (unA q0 q1 q2 q3),false),(isI 0,true),(isU 0,true),(isI (wHi (q0*q0)),true),(isU (wLo (q0*q0)),true),(true&&true,true),(isI q3,true),(isI q3,true),(decide (fabsV q3>1073741840),false),(true&&true,true),(isI q2,true),(isI q2,true),(decide (fabsV q2>1073741840),false),(true&&true,true),(isI q1,true),(isI q1,true),(decide (fabsV q1>1073741840),false),(true&&true,true),(isI q0,true),(isI q0,true),(decide (fabsV q0>1073741840),false)]):=by kernel_rfl
theorem kunR6 (q0 q1 q2 q3:Int):(runF Tryz.prog (dropS K7 67) Zl 4000 79 [.v (.agg [.int .i64 q0,.int .i64 q1,.int .i64 q2,.int .i64 q3])] [] 0 (nn 1 (ff 1 (nn 1 (ff 1 (nn 1 (ff 1 (nn 1 (ff 1 (nn 2 (ff 1 (nn 1 (ff 1 (nn 1 (ff 1 (nn 1 (ff 1 (nn 1 (tt 4 (ff 4 [])))))))))))))))))))).map (fun r=>(r.1,r.2.2.2))=some (LV.v (V1.one (At.bool false)),[(decide (wr IntKind.i64 ((if isI (rndV (unE q0 q1 q2 q3) (Int.toNat 0))=true then rndV (unE q0 q1 q2 q3) (Int.toNat 0) else 0) - 1152921504606846976)≥ -4294967296),false),(decide (wr IntKind.i64 ((if isI (rndV (unE q0 q1 q2 q3) (Int.toNat 0))=true then rndV (unE q0 q1 q2 q3) (Int.toNat 0) else 0) - 1152921504606846976)≥ -4294967296),false),(decide (wr IntKind.i64 ((if isI (rndV (unE q0 q1 q2 q3) (Int.toNat 0))=true then rndV (unE q0 q1 q2 q3) (Int.toNat 0) else 0) - 1152921504606846976)≥ -4294967296),false),(decide (wr IntKind.i64 ((if isI (rndV (unE q0 q1 q2 q3) (Int.toNat 0))=true then rndV (unE q0 q1 q2 q3) (Int.toNat 0) else 0) - 1152921504606846976)≥ -4294967296),false),(isI (rndV (unE q0 q1 q2 q3) 0),true),(isI (rndV (unE q0 q1 q2 q3) 0),true),(isI (rndV (unE q0 q1 q2 q3) 0),true),(isI (rndV (unE q0 q1 q2 q3) 0),true),(isI (w64 (wHi (unD q0 q1 q2 q3))),true),(isU (wLo (unD q0 q1 q2 q3)),true),(decide (0≤0)&&decide (0≤126),true),(!isW (unD q0 q1 q2 q3),false),(isI (w64 (wHi (unC q0 q1 q2 q3))),true),(isU (wLo (unC q0 q1 q2 q3)),true),(isI (wHi (q3*q3)),true),(isU (wLo (q3*q3)),true),(!isW (unC q0 q1 q2 q3),false),(isI (w64 (wHi (unB q0 q1 q2 q3))),true),(isU (wLo (unB q0 q1 q2 q3)),true),(isI (wHi (q2*q2)),true),(isU (wLo (q2*q2)),true),(!isW (unB q0 q1 q2 q3),false),(isI (w64 (wHi (unA q0 q1 q2 q3))),true),(isU (wLo (unA q0 q1 q2 q3)),true),(isI (wHi (q1*q1)),true),(isU (wLo (q1*q1)),true),(!isW (unA q0 q1 q2 q3),false),(isI 0,true),(isU 0,true),(isI (wHi (q0*q0)),true),(isU (wLo (q0*q0)),true),(true&&true,true),(isI q3,true),(isI q3,true),(decide (fabsV q3>1073741840),false),(true&&true,true),(isI q2,true),(isI q2,true),(decide (fabsV q2>1073741840),false),(true&&true,true),(isI q1,true),(isI q1,true),(decide (fabsV q1>1073741840),false),(true&&true,true),(isI q0,true),(isI q0,true),(decide (fabsV q0>1073741840),false)]):=by kernel_rfl
theorem fabsk_le {x:Int} (h:decide (fabsV x>1073741840)=false): -1073741840≤x∧x≤1073741840:=by
 have:=of_decide_eq_false h
 unfold fabsV at this
 split at this <;> rename_i h1
 ·omega
 ·split at this <;> rename_i h2
  ·omega
  ·split at this <;> omega
theorem sqk_bd {x:Int} (h: -1073741840≤x∧x≤1073741840):0≤x*x∧x*x≤1152921538966585600:=by
 constructor
 ·by_cases h0:0≤x
  ·exact Int.mul_nonneg h0 h0
  ·have:=Int.mul_nonneg (show 0≤ -x by omega) (show 0≤ -x by omega);rwa [Int.neg_mul_neg] at this
 ·by_cases h0:0≤x
  ·have:=Int.mul_le_mul h.2 h.2 h0 (by omega);omega
  ·have:=Int.mul_le_mul (show -x≤1073741840 by omega) (show -x≤1073741840 by omega) (by omega) (by omega);rw [Int.neg_mul_neg] at this;omega
theorem isIk_bd {x:Int} (h: -1073741840≤x∧x≤1073741840):isI x=true:=isI_iff.2 (by omega)
theorem w00:wVal 0 0=0:=rfl
theorem wre {v:Int} (h0:0≤v) (h1:v<9223372036854775808*18446744073709551616):w64 (wHi v)=wHi v:=w64_in (by unfold wHi;omega) (by unfold wHi;omega)
theorem isW_sm {v:Int} (h0:0≤v) (h1:v<9223372036854775808):isW v=true:=by
 unfold isW;simp only [Bool.and_eq_true,decide_eq_true_eq];omega
theorem isIk_hi {v:Int} (h0:0≤v) (h1:v<9223372036854775808):isI (wHi v)=true:=isI_iff.2 (by unfold wHi;omega)
theorem uAll {q0 q1 q2 q3:Int} (h0: -1073741840≤q0∧q0≤1073741840) (h1: -1073741840≤q1∧q1≤1073741840) (h2: -1073741840≤q2∧q2≤1073741840) (h3: -1073741840≤q3∧q3≤1073741840):
  unA q0 q1 q2 q3=q0*q0∧unB q0 q1 q2 q3=q0*q0+q1*q1∧unC q0 q1 q2 q3=q0*q0+q1*q1+q2*q2∧unD q0 q1 q2 q3=q0*q0+q1*q1+q2*q2+q3*q3∧unE q0 q1 q2 q3=q0*q0+q1*q1+q2*q2+q3*q3:=by
 have s0:=sqk_bd h0
 have s1:=sqk_bd h1
 have s2:=sqk_bd h2
 have s3:=sqk_bd h3
 have a:unA q0 q1 q2 q3=q0*q0:=by unfold unA;rw [wVal_mk,w00];omega
 have b:unB q0 q1 q2 q3=q0*q0+q1*q1:=by
  have e:unB q0 q1 q2 q3=wVal (w64 (wHi (unA q0 q1 q2 q3))) (wLo (unA q0 q1 q2 q3))+wVal (wHi (q1*q1)) (wLo (q1*q1)):=rfl
  rw [e,a,wre (by omega) (by omega),wVal_mk,wVal_mk]
 have c:unC q0 q1 q2 q3=q0*q0+q1*q1+q2*q2:=by
  have e:unC q0 q1 q2 q3=wVal (w64 (wHi (unB q0 q1 q2 q3))) (wLo (unB q0 q1 q2 q3))+wVal (wHi (q2*q2)) (wLo (q2*q2)):=rfl
  rw [e,b,wre (by omega) (by omega),wVal_mk,wVal_mk]
 have d:unD q0 q1 q2 q3=q0*q0+q1*q1+q2*q2+q3*q3:=by
  have e:unD q0 q1 q2 q3=wVal (w64 (wHi (unC q0 q1 q2 q3))) (wLo (unC q0 q1 q2 q3))+wVal (wHi (q3*q3)) (wLo (q3*q3)):=rfl
  rw [e,c,wre (by omega) (by omega),wVal_mk,wVal_mk]
 refine ⟨a,b,c,d, ?_⟩
 have e:unE q0 q1 q2 q3=wVal (w64 (wHi (unD q0 q1 q2 q3))) (wLo (unD q0 q1 q2 q3)):=rfl
 rw [e,d,wre (by omega) (by omega),wVal_mk]
def kunB (q0 q1 q2 q3:Int):Bool:=bif decide (fabsV q0>1073741840) then false else bif decide (fabsV q1>1073741840) then false else bif decide (fabsV q2>1073741840) then false else bif decide (fabsV q3>1073741840) then false else
 decide (q0*q0+q1*q1+q2*q2+q3*q3 - 1152921504606846976≥ -4294967296)&&decide (q0*q0+q1*q1+q2*q2+q3*q3 - 1152921504606846976≤4294967296)
def kunS:List LV→Option (LV×List (Bool×Bool))
 | [.v (.agg [.int .i64 q0,.int .i64 q1,.int .i64 q2,.int .i64 q3])]=>some (.v (.one (.bool (kunB q0 q1 q2 q3))),[])
 | _=>none
theorem sumKun:SumOK Tryz.prog 79 (pureSum kunS):=by
 refine pureSum_run (z:=Zl) (soundK7.drop 67) (own_of soundK7 Tryz.func79 (by kernel_rfl)) fun args v cs hF hc=> ?_
 unfold kunS at hF
 split at hF
 ·rename_i q0 q1 q2 q3
  cases hF
  cases c0:decide (fabsV q0>1073741840)
  ·have h0:=fabsk_le c0
   have b0:=isIk_bd h0
   cases c1:decide (fabsV q1>1073741840)
   ·have h1:=fabsk_le c1
    have b1:=isIk_bd h1
    cases c2:decide (fabsV q2>1073741840)
    ·have h2:=fabsk_le c2
     have b2:=isIk_bd h2
     cases c3:decide (fabsV q3>1073741840)
     ·have h3:=fabsk_le c3
      obtain ⟨eA,eB,eC,eD,eE⟩:=uAll h0 h1 h2 h3
      have s0:=sqk_bd h0
      have s1:=sqk_bd h1
      have s2:=sqk_bd h2
      have s3:=sqk_bd h3
      have r0:isI (rndV (unE q0 q1 q2 q3) 0)=true:=by rw [eE];have:=rnd0 (q0*q0+q1*q1+q2*q2+q3*q3);simp only [Int.toNat_zero] at this;rw [this];exact isI_iff.2 (by omega)
      have r1:rndV (unE q0 q1 q2 q3) (Int.toNat 0)=q0*q0+q1*q1+q2*q2+q3*q3:=by rw [eE,rnd0]
      have r2:wr IntKind.i64 ((if isI (rndV (unE q0 q1 q2 q3) (Int.toNat 0))=true then rndV (unE q0 q1 q2 q3) (Int.toNat 0) else 0) - 1152921504606846976)=q0*q0+q1*q1+q2*q2+q3*q3 - 1152921504606846976:=by
       rw [if_pos (show isI (rndV (unE q0 q1 q2 q3) (Int.toNat 0))=true from r0),r1,wr_i,w64_in (by omega) (by omega)]
      have wA:(!isW (unA q0 q1 q2 q3))=false:=by rw [eA,isW_sm (by omega) (by omega)];rfl
      have wB:(!isW (unB q0 q1 q2 q3))=false:=by rw [eB,isW_sm (by omega) (by omega)];rfl
      have wC:(!isW (unC q0 q1 q2 q3))=false:=by rw [eC,isW_sm (by omega) (by omega)];rfl
      have wD:(!isW (unD q0 q1 q2 q3))=false:=by rw [eD,isW_sm (by omega) (by omega)];rfl
      have iA:isI (w64 (wHi (unA q0 q1 q2 q3)))=true:=by rw [eA,wre (by omega) (by omega)];exact isIk_hi (by omega) (by omega)
      have iB:isI (w64 (wHi (unB q0 q1 q2 q3)))=true:=by rw [eB,wre (by omega) (by omega)];exact isIk_hi (by omega) (by omega)
      have iC:isI (w64 (wHi (unC q0 q1 q2 q3)))=true:=by rw [eC,wre (by omega) (by omega)];exact isIk_hi (by omega) (by omega)
      have iD:isI (w64 (wHi (unD q0 q1 q2 q3)))=true:=by rw [eD,wre (by omega) (by omega)];exact isIk_hi (by omega) (by omega)
      have i0:isI (wHi (q0*q0))=true:=isIk_hi (by omega) (by omega)
      have i1:isI (wHi (q1*q1))=true:=isIk_hi (by omega) (by omega)
      have i2:isI (wHi (q2*q2))=true:=isIk_hi (by omega) (by omega)
      have i3:isI (wHi (q3*q3))=true:=isIk_hi (by omega) (by omega)
      have b3:=isIk_bd h3
      cases c4:decide (q0*q0+q1*q1+q2*q2+q3*q3 - 1152921504606846976≥ -4294967296)
      ·have e:kunB q0 q1 q2 q3=false:=by unfold kunB;rw [c0,c1,c2,c3,c4];rfl
       rw [e]
       refine ⟨4000,_,_,kunR6 q0 q1 q2 q3, ?_⟩
       rw [r2]
       repeat' first | exact ae_nil | apply ae_cons
       all_goals first | with_reducible assumption | with_reducible rfl | with_reducible exact isU_lo _ | rfl
      ·have e:kunB q0 q1 q2 q3=decide (q0*q0+q1*q1+q2*q2+q3*q3 - 1152921504606846976≤4294967296):=by unfold kunB;rw [c0,c1,c2,c3,c4];rfl
       rw [e,←r2]
       refine ⟨4000,_,_,kunR5 q0 q1 q2 q3, ?_⟩
       rw [r2]
       repeat' first | exact ae_nil | apply ae_cons
       all_goals first | with_reducible assumption | with_reducible rfl | with_reducible exact isU_lo _ | rfl
     ·have e:kunB q0 q1 q2 q3=false:=by unfold kunB;rw [c0,c1,c2,c3];rfl
      rw [e]
      refine ⟨4000,_,_,kunR4 q0 q1 q2 q3, ?_⟩
      repeat' first | exact ae_nil | apply ae_cons
      all_goals first | with_reducible assumption | with_reducible rfl | rfl
    ·have e:kunB q0 q1 q2 q3=false:=by unfold kunB;rw [c0,c1,c2];rfl
     rw [e]
     refine ⟨4000,_,_,kunR3 q0 q1 q2 q3, ?_⟩
     repeat' first | exact ae_nil | apply ae_cons
     all_goals first | with_reducible assumption | with_reducible rfl | rfl
   ·have e:kunB q0 q1 q2 q3=false:=by unfold kunB;rw [c0,c1];rfl
    rw [e]
    refine ⟨4000,_,_,kunR2 q0 q1 q2 q3, ?_⟩
    repeat' first | exact ae_nil | apply ae_cons
    all_goals first | with_reducible assumption | with_reducible rfl | rfl
  ·have e:kunB q0 q1 q2 q3=false:=by unfold kunB;rw [c0];rfl
   rw [e]
   exact ⟨4000,_,_,kunR1 q0 q1 q2 q3,ae_cons c0 ae_nil⟩
 ·cases hF
noncomputable def K8u:FuncId→Option SumK:=more K7 79 (pureSum kunS)
theorem soundK8u:Sound Tryz.prog K8u:=soundK7.more sumKun
end Go.Proofs.YtfepmlklbapfiaaGreat

/- state.clamp: its summary. -/
namespace Go.Proofs.YtfepmlklbapfiaaGreat
open Go.Lr
noncomputable def K9u:FuncId→Option SumK:=more K8u 83 (accSum 67 (autoF Tryz.prog K8u Zl 2000 83 67))
theorem soundK9u:Sound Tryz.prog K9u:=soundK8u.more (autoF_ok soundK8u (own_of soundK8u Tryz.func83 (by kernel_rfl)))
end Go.Proofs.YtfepmlklbapfiaaGreat

/- state.Keep: its summary, number by number: it always ends. -/
namespace Go.Proofs.YtfepmlklbapfiaaGreat
open Go.Lr
set_option linter.unusedVariables false
def keepH (hb:Bool) (s0 s1 s2 s3 s4 s5 s6 s7 s8 s9 s10 s11 s12 s13 s14 s15 s16 s17 s18 s19 s20 s21 s22 s23:Int):Bool:=(bif kunB s0 s1 s2 s3 then hb else uFl hb s0 s1 s2 s3)||clampH s4 (wr IntKind.i64 (0 - 549755813888)) 549755813888||clampH s5 (wr IntKind.i64 (0 - 549755813888)) 549755813888||clampH s6 (wr IntKind.i64 (0 - 549755813888)) 549755813888||clampH s7 (wr IntKind.i64 (0 - 9007199254740992)) 9007199254740992||clampH s8 (wr IntKind.i64 (0 - 9007199254740992)) 9007199254740992||clampH s9 (wr IntKind.i64 (0 - 9007199254740992)) 9007199254740992||clampH s10 (wr IntKind.i64 (0 - 134217728)) 134217728||clampH s11 (wr IntKind.i64 (0 - 134217728)) 134217728||clampH s12 (wr IntKind.i64 (0 - 134217728)) 134217728||clampH s13 (wr IntKind.i64 (0 - 1073741824)) 1073741824||clampH s14 (wr IntKind.i64 (0 - 1073741824)) 1073741824||clampH s15 (wr IntKind.i64 (0 - 1073741824)) 1073741824||clampH s16 (wr IntKind.i64 (0 - 2147483648)) 2147483648||clampH s17 (wr IntKind.i64 (0 - 2147483648)) 2147483648||clampH s18 (wr IntKind.i64 (0 - 2147483648)) 2147483648||clampH s19 (wr IntKind.i64 (0 - 2147483648)) 2147483648||clampH s20 (wr IntKind.i64 (0 - 2147483648)) 2147483648||clampH s21 (wr IntKind.i64 (0 - 2147483648)) 2147483648||clampH s22 (wr IntKind.i64 (0 - 137438953472)) 137438953472||clampH s23 (wr IntKind.i64 (0 - 137438953472)) 137438953472
def keepL (s0 s1 s2 s3 s4 s5 s6 s7 s8 s9 s10 s11 s12 s13 s14 s15 s16 s17 s18 s19 s20 s21 s22 s23:Int):LV:= .v (.agg [.int .i64 (bif kunB s0 s1 s2 s3 then s0 else uV0 s0 s1 s2 s3),.int .i64 (bif kunB s0 s1 s2 s3 then s1 else uV1 s0 s1 s2 s3),.int .i64 (bif kunB s0 s1 s2 s3 then s2 else uV2 s0 s1 s2 s3),.int .i64 (bif kunB s0 s1 s2 s3 then s3 else uV3 s0 s1 s2 s3),.int .i64 (clampV s4 (wr IntKind.i64 (0 - 549755813888)) 549755813888),.int .i64 (clampV s5 (wr IntKind.i64 (0 - 549755813888)) 549755813888),.int .i64 (clampV s6 (wr IntKind.i64 (0 - 549755813888)) 549755813888),.int .i64 (clampV s7 (wr IntKind.i64 (0 - 9007199254740992)) 9007199254740992),.int .i64 (clampV s8 (wr IntKind.i64 (0 - 9007199254740992)) 9007199254740992),.int .i64 (clampV s9 (wr IntKind.i64 (0 - 9007199254740992)) 9007199254740992),.int .i64 (clampV s10 (wr IntKind.i64 (0 - 134217728)) 134217728),.int .i64 (clampV s11 (wr IntKind.i64 (0 - 134217728)) 134217728),.int .i64 (clampV s12 (wr IntKind.i64 (0 - 134217728)) 134217728),.int .i64 (clampV s13 (wr IntKind.i64 (0 - 1073741824)) 1073741824),.int .i64 (clampV s14 (wr IntKind.i64 (0 - 1073741824)) 1073741824),.int .i64 (clampV s15 (wr IntKind.i64 (0 - 1073741824)) 1073741824),.int .i64 (clampV s16 (wr IntKind.i64 (0 - 2147483648)) 2147483648),.int .i64 (clampV s17 (wr IntKind.i64 (0 - 2147483648)) 2147483648),.int .i64 (clampV s18 (wr IntKind.i64 (0 - 2147483648)) 2147483648),.int .i64 (clampV s19 (wr IntKind.i64 (0 - 2147483648)) 2147483648),.int .i64 (clampV s20 (wr IntKind.i64 (0 - 2147483648)) 2147483648),.int .i64 (clampV s21 (wr IntKind.i64 (0 - 2147483648)) 2147483648),.int .i64 (clampV s22 (wr IntKind.i64 (0 - 137438953472)) 137438953472),.int .i64 (clampV s23 (wr IntKind.i64 (0 - 137438953472)) 137438953472)])
def keepF:List LV→Bool→Option (LV×Bool×List (Bool×Bool))
 | [.v (.agg [.int .i64 s0,.int .i64 s1,.int .i64 s2,.int .i64 s3,.int .i64 s4,.int .i64 s5,.int .i64 s6,.int .i64 s7,.int .i64 s8,.int .i64 s9,.int .i64 s10,.int .i64 s11,.int .i64 s12,.int .i64 s13,.int .i64 s14,.int .i64 s15,.int .i64 s16,.int .i64 s17,.int .i64 s18,.int .i64 s19,.int .i64 s20,.int .i64 s21,.int .i64 s22,.int .i64 s23])],hb=>some (keepL s0 s1 s2 s3 s4 s5 s6 s7 s8 s9 s10 s11 s12 s13 s14 s15 s16 s17 s18 s19 s20 s21 s22 s23,keepH hb s0 s1 s2 s3 s4 s5 s6 s7 s8 s9 s10 s11 s12 s13 s14 s15 s16 s17 s18 s19 s20 s21 s22 s23,[])
 | _,_=>none
theorem keepR1 (s0 s1 s2 s3 s4 s5 s6 s7 s8 s9 s10 s11 s12 s13 s14 s15 s16 s17 s18 s19 s20 s21 s22 s23:Int) (hb:Bool):(runF Tryz.prog K9u Zl 4000 42 [A0,.v (.agg [.int .i64 s0,.int .i64 s1,.int .i64 s2,.int .i64 s3,.int .i64 s4,.int .i64 s5,.int .i64 s6,.int .i64 s7,.int .i64 s8,.int .i64 s9,.int .i64 s10,.int .i64 s11,.int .i64 s12,.int .i64 s13,.int .i64 s14,.int .i64 s15,.int .i64 s16,.int .i64 s17,.int .i64 s18,.int .i64 s19,.int .i64 s20,.int .i64 s21,.int .i64 s22,.int .i64 s23])] [(0,flag 67 hb)] 1 (tt 1 [])).map (fun r=>(r.1,getM r.2.1 0,r.2.2.2))=some (.v (.agg [.int .i64 (uV0 s0 s1 s2 s3),.int .i64 (uV1 s0 s1 s2 s3),.int .i64 (uV2 s0 s1 s2 s3),.int .i64 (uV3 s0 s1 s2 s3),.int .i64 ((clampV s4 (wr IntKind.i64 (0 - 549755813888)) 549755813888)),.int .i64 ((clampV s5 (wr IntKind.i64 (0 - 549755813888)) 549755813888)),.int .i64 ((clampV s6 (wr IntKind.i64 (0 - 549755813888)) 549755813888)),.int .i64 ((clampV s7 (wr IntKind.i64 (0 - 9007199254740992)) 9007199254740992)),.int .i64 ((clampV s8 (wr IntKind.i64 (0 - 9007199254740992)) 9007199254740992)),.int .i64 ((clampV s9 (wr IntKind.i64 (0 - 9007199254740992)) 9007199254740992)),.int .i64 ((clampV s10 (wr IntKind.i64 (0 - 134217728)) 134217728)),.int .i64 ((clampV s11 (wr IntKind.i64 (0 - 134217728)) 134217728)),.int .i64 ((clampV s12 (wr IntKind.i64 (0 - 134217728)) 134217728)),.int .i64 ((clampV s13 (wr IntKind.i64 (0 - 1073741824)) 1073741824)),.int .i64 ((clampV s14 (wr IntKind.i64 (0 - 1073741824)) 1073741824)),.int .i64 ((clampV s15 (wr IntKind.i64 (0 - 1073741824)) 1073741824)),.int .i64 ((clampV s16 (wr IntKind.i64 (0 - 2147483648)) 2147483648)),.int .i64 ((clampV s17 (wr IntKind.i64 (0 - 2147483648)) 2147483648)),.int .i64 ((clampV s18 (wr IntKind.i64 (0 - 2147483648)) 2147483648)),.int .i64 ((clampV s19 (wr IntKind.i64 (0 - 2147483648)) 2147483648)),.int .i64 ((clampV s20 (wr IntKind.i64 (0 - 2147483648)) 2147483648)),.int .i64 ((clampV s21 (wr IntKind.i64 (0 - 2147483648)) 2147483648)),.int .i64 ((clampV s22 (wr IntKind.i64 (0 - 137438953472)) 137438953472)),.int .i64 ((clampV s23 (wr IntKind.i64 (0 - 137438953472)) 137438953472))]),some (flag 67 (uFl hb s0 s1 s2 s3||clampH s4 (wr IntKind.i64 (0 - 549755813888)) 549755813888||clampH s5 (wr IntKind.i64 (0 - 549755813888)) 549755813888||clampH s6 (wr IntKind.i64 (0 - 549755813888)) 549755813888||clampH s7 (wr IntKind.i64 (0 - 9007199254740992)) 9007199254740992||clampH s8 (wr IntKind.i64 (0 - 9007199254740992)) 9007199254740992||clampH s9 (wr IntKind.i64 (0 - 9007199254740992)) 9007199254740992||clampH s10 (wr IntKind.i64 (0 - 134217728)) 134217728||clampH s11 (wr IntKind.i64 (0 - 134217728)) 134217728||clampH s12 (wr IntKind.i64 (0 - 134217728)) 134217728||clampH s13 (wr IntKind.i64 (0 - 1073741824)) 1073741824||clampH s14 (wr IntKind.i64 (0 - 1073741824)) 1073741824||clampH s15 (wr IntKind.i64 (0 - 1073741824)) 1073741824||clampH s16 (wr IntKind.i64 (0 - 2147483648)) 2147483648||clampH s17 (wr IntKind.i64 (0 - 2147483648)) 2147483648||clampH s18 (wr IntKind.i64 (0 - 2147483648)) 2147483648||clampH s19 (wr IntKind.i64 (0 - 2147483648)) 2147483648||clampH s20 (wr IntKind.i64 (0 - 2147483648)) 2147483648||clampH s21 (wr IntKind.i64 (0 - 2147483648)) 2147483648||clampH s22 (wr IntKind.i64 (0 - 137438953472)) 137438953472||clampH s23 (wr IntKind.i64 (0 - 137438953472)) 137438953472)),[(!kunB s0 s1 s2 s3,true)]):=by kernel_rfl
theorem keepR2 (s0 s1 s2 s3 s4 s5 s6 s7 s8 s9 s10 s11 s12 s13 s14 s15 s16 s17 s18 s19 s20 s21 s22 s23:Int) (hb:Bool):(runF Tryz.prog K9u Zl 4000 42 [A0,.v (.agg [.int .i64 s0,.int .i64 s1,.int .i64 s2,.int .i64 s3,.int .i64 s4,.int .i64 s5,.int .i64 s6,.int .i64 s7,.int .i64 s8,.int .i64 s9,.int .i64 s10,.int .i64 s11,.int .i64 s12,.int .i64 s13,.int .i64 s14,.int .i64 s15,.int .i64 s16,.int .i64 s17,.int .i64 s18,.int .i64 s19,.int .i64 s20,.int .i64 s21,.int .i64 s22,.int .i64 s23])] [(0,flag 67 hb)] 1 (ff 1 [])).map (fun r=>(r.1,getM r.2.1 0,r.2.2.2))=some (.v (.agg [.int .i64 (s0),.int .i64 (s1),.int .i64 (s2),.int .i64 (s3),.int .i64 ((clampV s4 (wr IntKind.i64 (0 - 549755813888)) 549755813888)),.int .i64 ((clampV s5 (wr IntKind.i64 (0 - 549755813888)) 549755813888)),.int .i64 ((clampV s6 (wr IntKind.i64 (0 - 549755813888)) 549755813888)),.int .i64 ((clampV s7 (wr IntKind.i64 (0 - 9007199254740992)) 9007199254740992)),.int .i64 ((clampV s8 (wr IntKind.i64 (0 - 9007199254740992)) 9007199254740992)),.int .i64 ((clampV s9 (wr IntKind.i64 (0 - 9007199254740992)) 9007199254740992)),.int .i64 ((clampV s10 (wr IntKind.i64 (0 - 134217728)) 134217728)),.int .i64 ((clampV s11 (wr IntKind.i64 (0 - 134217728)) 134217728)),.int .i64 ((clampV s12 (wr IntKind.i64 (0 - 134217728)) 134217728)),.int .i64 ((clampV s13 (wr IntKind.i64 (0 - 1073741824)) 1073741824)),.int .i64 ((clampV s14 (wr IntKind.i64 (0 - 1073741824)) 1073741824)),.int .i64 ((clampV s15 (wr IntKind.i64 (0 - 1073741824)) 1073741824)),.int .i64 ((clampV s16 (wr IntKind.i64 (0 - 2147483648)) 2147483648)),.int .i64 ((clampV s17 (wr IntKind.i64 (0 - 2147483648)) 2147483648)),.int .i64 ((clampV s18 (wr IntKind.i64 (0 - 2147483648)) 2147483648)),.int .i64 ((clampV s19 (wr IntKind.i64 (0 - 2147483648)) 2147483648)),.int .i64 ((clampV s20 (wr IntKind.i64 (0 - 2147483648)) 2147483648)),.int .i64 ((clampV s21 (wr IntKind.i64 (0 - 2147483648)) 2147483648)),.int .i64 ((clampV s22 (wr IntKind.i64 (0 - 137438953472)) 137438953472)),.int .i64 ((clampV s23 (wr IntKind.i64 (0 - 137438953472)) 137438953472))]),some (flag 67 (hb||clampH s4 (wr IntKind.i64 (0 - 549755813888)) 549755813888||clampH s5 (wr IntKind.i64 (0 - 549755813888)) 549755813888||clampH s6 (wr IntKind.i64 (0 - 549755813888)) 549755813888||clampH s7 (wr IntKind.i64 (0 - 9007199254740992)) 9007199254740992||clampH s8 (wr IntKind.i64 (0 - 9007199254740992)) 9007199254740992||clampH s9 (wr IntKind.i64 (0 - 9007199254740992)) 9007199254740992||clampH s10 (wr IntKind.i64 (0 - 134217728)) 134217728||clampH s11 (wr IntKind.i64 (0 - 134217728)) 134217728||clampH s12 (wr IntKind.i64 (0 - 134217728)) 134217728||clampH s13 (wr IntKind.i64 (0 - 1073741824)) 1073741824||clampH s14 (wr IntKind.i64 (0 - 1073741824)) 1073741824||clampH s15 (wr IntKind.i64 (0 - 1073741824)) 1073741824||clampH s16 (wr IntKind.i64 (0 - 2147483648)) 2147483648||clampH s17 (wr IntKind.i64 (0 - 2147483648)) 2147483648||clampH s18 (wr IntKind.i64 (0 - 2147483648)) 2147483648||clampH s19 (wr IntKind.i64 (0 - 2147483648)) 2147483648||clampH s20 (wr IntKind.i64 (0 - 2147483648)) 2147483648||clampH s21 (wr IntKind.i64 (0 - 2147483648)) 2147483648||clampH s22 (wr IntKind.i64 (0 - 137438953472)) 137438953472||clampH s23 (wr IntKind.i64 (0 - 137438953472)) 137438953472)),[(!kunB s0 s1 s2 s3,false)]):=by kernel_rfl
theorem sumKeep:SumOK Tryz.prog 42 (accSum 67 keepF):=by
 refine accSum_run (z:=Zl) soundK9u (own_of soundK9u Tryz.func42 (by kernel_rfl)) fun args hb v h' cs hF hc=> ?_
 unfold keepF at hF
 split at hF
 ·rename_i s0 s1 s2 s3 s4 s5 s6 s7 s8 s9 s10 s11 s12 s13 s14 s15 s16 s17 s18 s19 s20 s21 s22 s23
  cases hF
  cases c:kunB s0 s1 s2 s3
  ·refine ⟨rfl,4000,tt 1 [],_, ?_,ae_cons (show (!kunB s0 s1 s2 s3)=true by rw [c];rfl) ae_nil⟩
   rw [keepR1]
   simp only [keepL,keepH,c,cond_false]
  ·refine ⟨rfl,4000,ff 1 [],_, ?_,ae_cons (show (!kunB s0 s1 s2 s3)=false by rw [c];rfl) ae_nil⟩
   rw [keepR2]
   simp only [keepL,keepH,c,cond_true]
 ·cases hF
noncomputable def K10u:FuncId→Option SumK:=more K9u 42 (accSum 67 keepF)
theorem soundK10u:Sound Tryz.prog K10u:=soundK9u.more sumKeep
noncomputable def K11u:FuncId→Option SumK:=more K10u 104 (accSum 67 (autoF Tryz.prog K10u Zl 2000 104 67))
theorem soundK11u:Sound Tryz.prog K11u:=soundK10u.more (autoF_ok soundK10u (own_of soundK10u Tryz.func104 (by kernel_rfl)))
noncomputable def K12u:FuncId→Option SumK:=more K11u 100 (accSum 67 (autoF Tryz.prog K11u Zl 2000 100 67))
theorem soundK12u:Sound Tryz.prog K12u:=soundK11u.more (autoF_ok soundK11u (own_of soundK11u Tryz.func100 (by kernel_rfl)))
end Go.Proofs.YtfepmlklbapfiaaGreat

/- States with holes: what a stage comes to, but for numbers that do not matter. -/
set_option linter.unusedVariables false
namespace Go.Lr
open Go.RowKit
inductive P1 where
 | lit (a:At)
 | hi
 | hb
def pairsB:List (Nat×Nat)→List (Nat×Nat)→Bool
 | [],[]=>true
 | (a,b)::l,(c,d)::m=>match Nat.beq a c with
  | true=>match Nat.beq b d with
   | true=>pairsB l m
   | false=>false
  | false=>false
 | _,_=>false
theorem pairsB_ok:∀{l m:List (Nat×Nat)},pairsB l m=true→l=m
 | [],[],_=>rfl
 | [],_::_,h=>by simp [pairsB] at h
 | _::_,[],h=>by simp [pairsB] at h
 | (a,b)::l,(c,d)::m,h=>by
  unfold pairsB at h
  split at h
  ·rename_i h1
   split at h
   ·rename_i h2
    rw [Nat.eq_of_beq_eq_true h1,Nat.eq_of_beq_eq_true h2,pairsB_ok h]
   ·cases h
  ·cases h
def nat3 (a b c d e f:Nat):Bool:=match Nat.beq a b with
 | true=>match Nat.beq c d with
  | true=>Nat.beq e f
  | false=>false
 | false=>false
theorem nat3_ok {a b c d e f:Nat} (h:nat3 a b c d e f=true):a=b∧c=d∧e=f:=by
 unfold nat3 at h
 split at h
 ·rename_i h1
  split at h
  ·rename_i h2
   exact ⟨Nat.eq_of_beq_eq_true h1,Nat.eq_of_beq_eq_true h2,Nat.eq_of_beq_eq_true h⟩
  ·cases h
 ·cases h
def eqA:At→At→Bool
 | .int k n,.int l m=>match kindEq k l with
  | true=>decide (n=m)
  | false=>false
 | .bool a,.bool b=>match a,b with
  | true,true=>true
  | false,false=>true
  | _,_=>false
 | .ptr b o,.ptr c p=>nat3 b c o p 0 0
 | .nilp,.nilp=>true
 | .sl b o l c,.sl b' o' l' c'=>match Nat.beq b b' with
  | true=>nat3 o o' l l' c c'
  | false=>false
 | .slu b l,.slu b' l'=>nat3 b b' l l' 0 0
 | .slx b o l c,.slx b' o' l' c'=>match Nat.beq b b' with
  | true=>nat3 o o' l l' c c'
  | false=>false
 | .ptx b o,.ptx c p=>nat3 b c o p 0 0
 | .nilsl,.nilsl=>true
 | .slt b o n,.slt b' o' n'=>nat3 b b' o o' n n'
 | .fn f l,.fn g m=>match Nat.beq f g with
  | true=>pairsB l m
  | false=>false
 | _,_=>false
theorem eqA_ok {a b:At} (h:eqA a b=true):a=b:=by
 unfold eqA at h
 split at h
 ·split at h
  ·rename_i h1
   rw [kindEq_spec h1,of_decide_eq_true h]
  ·cases h
 ·split at h <;> first | rfl | cases h
 ·obtain ⟨rfl,rfl,_⟩:=nat3_ok h;rfl
 ·rfl
 ·split at h
  ·rename_i h1
   obtain ⟨rfl,rfl,rfl⟩:=nat3_ok h
   rw [Nat.eq_of_beq_eq_true h1]
  ·cases h
 ·obtain ⟨rfl,rfl,_⟩:=nat3_ok h;rfl
 ·split at h
  ·rename_i h1
   obtain ⟨rfl,rfl,rfl⟩:=nat3_ok h
   rw [Nat.eq_of_beq_eq_true h1]
  ·cases h
 ·obtain ⟨rfl,rfl,_⟩:=nat3_ok h;rfl
 ·rfl
 ·obtain ⟨rfl,rfl,rfl⟩:=nat3_ok h;rfl
 ·split at h
  ·rename_i h1
   have e:_=_:=Nat.eq_of_beq_eq_true h1
   rw [e,pairsB_ok h]
  ·cases h
 ·cases h
def mat1:P1→At→Bool
 | .lit a,b=>eqA b a
 | .hi,.int .i64 _=>true
 | .hb,.bool _=>true
 | _,_=>false
def fil1 (x:Int) (y:Bool):P1→At
 | .lit a=>a
 | .hi=> .int .i64 x
 | .hb=> .bool y
def iA:At→Int
 | .int _ n=>n
 | _=>0
def bA:At→Bool
 | .bool b=>b
 | _=>false
theorem mat1_ok {p:P1} {a:At} (h:mat1 p a=true):a=fil1 (iA a) (bA a) p:=by
 unfold mat1 at h
 split at h
 ·exact eqA_ok h
 ·rfl
 ·rfl
 ·cases h
def matL:List P1→List At→Bool
 | [],[]=>true
 | p::ps,a::l=>match mat1 p a with
  | true=>matL ps l
  | false=>false
 | _,_=>false
def filL (f:Nat→Int) (g:Nat→Bool):Nat→List P1→List At
 | _,[]=>[]
 | o,p::ps=>fil1 (f o) (g o) p::filL f g (o+1) ps
def nthA (l:List At) (o:Nat):At:=(l[o]?).getD .nilp
theorem matL_ok:∀{ps:List P1} {l:List At} {o:Nat} {f:Nat→Int} {g:Nat→Bool},matL ps l=true→(∀k a,l[k]? = some a→f (o+k)=iA a∧g (o+k)=bA a)→l=filL f g o ps
 | [],[],_,_,_,_,_=>rfl
 | [],_::_,_,_,_,h,_=>by simp [matL] at h
 | _::_,[],_,_,_,h,_=>by simp [matL] at h
 | p::ps,a::l,o,f,g,h,hf=>by
  unfold matL at h
  split at h
  ·rename_i h1
   have h0:=hf 0 a rfl
   have e:=mat1_ok h1
   simp only [filL]
   rw [show f o=iA a from h0.1,show g o=bA a from h0.2,←e,←matL_ok h fun k b hk=>by
    have:=hf (k+1) b (by simpa using hk)
    rwa [show o+(k+1)=o+1+k by omega] at this]
  ·cases h
theorem matL_ok0 {ps:List P1} {l:List At} (h:matL ps l=true):l=filL (fun o=>iA (nthA l o)) (fun o=>bA (nthA l o)) 0 ps:=
 matL_ok h fun k a hk=>by simp [nthA,hk]
inductive PV where
 | one (p:P1)
 | agg (l:List P1)
structure PB where
 ty:TypeId
 fr:Nat×Nat
 es:Nat
 cells:List P1
structure Asg where
 F:Nat→Nat→Int
 G:Nat→Nat→Bool
 fs:Nat→Nat→Int
 gs:Nat→Nat→Bool
structure PS where
 live:List (Nat×PV)
 mem:List (Nat×PB)
 nb:Nat
def filV (f:Nat→Int) (g:Nat→Bool):PV→LV
 | .one p=> .v (.one (fil1 (f 0) (g 0) p))
 | .agg l=> .v (.agg (filL f g 0 l))
def filB (f:Nat→Int) (g:Nat→Bool) (b:PB):Blk:=⟨b.ty,b.fr,b.es,filL f g 0 b.cells⟩
def filVs (s:Asg):List (Nat×PV)→List (Nat×LV)
 | []=>[]
 | (i,p)::l=>(i,filV (s.fs i) (s.gs i) p)::filVs s l
def filM (s:Asg):List (Nat×PB)→Mem
 | []=>[]
 | (i,p)::l=>(i,filB (s.F i) (s.G i) p)::filM s l
def filS (s:Asg) (p:PS):Kst:=⟨filVs s p.live,filM s p.mem,p.nb⟩
def matV:PV→LV→Bool
 | .one p,.v (.one a)=>mat1 p a
 | .agg l,.v (.agg m)=>matL l m
 | _,_=>false
def vCells:LV→List At
 | .v (.one a)=>[a]
 | .v (.agg l)=>l
 | _=>[]
theorem matV_ok {p:PV} {v:LV} (h:matV p v=true):v=filV (fun o=>iA (nthA (vCells v) o)) (fun o=>bA (nthA (vCells v) o)) p:=by
 unfold matV at h
 split at h
 ·rename_i p a
  have e:=mat1_ok h
  show _=LV.v (.one (fil1 (iA a) (bA a) p))
  rw [←e]
 ·rename_i l m
  have e:=matL_ok0 h
  show _=LV.v (.agg (filL (fun o=>iA (nthA m o)) (fun o=>bA (nthA m o)) 0 l))
  rw [←e]
 ·cases h
def fr2 (a b:Nat×Nat):Bool:=match a,b with
 | (x,y),(z,w)=>nat3 x z y w 0 0
def matB (p:PB) (b:Blk):Bool:=match Nat.beq b.ty p.ty with
 | true=>match fr2 b.fr p.fr with
  | true=>match Nat.beq b.es p.es with
   | true=>matL p.cells b.cells
   | false=>false
  | false=>false
 | false=>false
theorem matB_ok {p:PB} {b:Blk} (h:matB p b=true):b=filB (fun o=>iA (nthA b.cells o)) (fun o=>bA (nthA b.cells o)) p:=by
 unfold matB at h
 split at h
 ·rename_i h1
  split at h
  ·rename_i h2
   split at h
   ·rename_i h3
    have e:=matL_ok0 h
    obtain ⟨ty,⟨x,y⟩,es,cells⟩:=b
    obtain ⟨ty',⟨x',y'⟩,es',ps⟩:=p
    simp only [fr2] at h2
    obtain ⟨rfl,rfl,_⟩:=nat3_ok h2
    have e1:ty=ty':=Nat.eq_of_beq_eq_true h1
    have e2:es=es':=Nat.eq_of_beq_eq_true h3
    subst e1
    subst e2
    show _=Blk.mk ty (x,y) es (filL (fun o=>iA (nthA cells o)) (fun o=>bA (nthA cells o)) 0 ps)
    rw [←e]
   ·cases h
  ·cases h
 ·cases h
def matVs:List (Nat×PV)→List LV→Bool
 | [],[]=>true
 | (_,p)::l,v::m=>match matV p v with
  | true=>matVs l m
  | false=>false
 | _,_=>false
def matBs:List (Nat×PB)→List (Option Blk)→Bool
 | [],[]=>true
 | (_,p)::l,some b::m=>match matB p b with
  | true=>matBs l m
  | false=>false
 | _,_=>false
theorem matVs_ok {s:Asg}:∀{l:List (Nat×PV)} {m:List LV} {h:Nat→LV},matVs l m=true→(l.map (·.1)).map h=m→(∀k,s.fs k=(fun o=>iA (nthA (vCells (h k)) o))∧s.gs k=(fun o=>bA (nthA (vCells (h k)) o)))→(l.map (·.1)).zip m=filVs s l
 | [],_,_,_,_,_=>rfl
 | (i,p)::l,[],_,h,_,_=>by simp [matVs] at h
 | (i,p)::l,v::m,hh,h,he,hs=>by
  unfold matVs at h
  split at h
  ·rename_i h1
   simp only [List.map_cons,List.cons.injEq] at he
   have e:=matV_ok h1
   simp only [List.map_cons,List.zip_cons_cons,filVs]
   rw [matVs_ok h he.2 hs,(hs i).1,(hs i).2,he.1,←e]
  ·cases h
theorem matBs_ok {s:Asg}:∀{l:List (Nat×PB)} {m:List (Option Blk)} {h:Nat→Option Blk},matBs l m=true→(l.map (·.1)).map h=m→
  (∀k b,h k=some b→s.F k=(fun o=>iA (nthA b.cells o))∧s.G k=(fun o=>bA (nthA b.cells o)))→∃bs,m=bs.map some∧(l.map (·.1)).zip bs=filM s l
 | [],[],_,_,_,_=>⟨[],rfl,rfl⟩
 | [],_::_,_,h,_,_=>by simp [matBs] at h
 | (i,p)::l,[],_,h,_,_=>by simp [matBs] at h
 | (i,p)::l,none::m,_,h,_,_=>by simp [matBs] at h
 | (i,p)::l,some b::m,hh,h,he,hs=>by
  unfold matBs at h
  split at h
  ·rename_i h1
   simp only [List.map_cons,List.cons.injEq] at he
   have e:=matB_ok h1
   obtain ⟨bs,g1,g2⟩:=matBs_ok h he.2 hs
   have h2:=hs i b he.1
   refine ⟨b::bs,by simp [g1], ?_⟩
   simp only [List.map_cons,List.zip_cons_cons,filM]
   rw [g2,h2.1,h2.2,←e]
  ·cases h
def exB:Ex→Ex→Bool
 | .normal,.normal=>true
 | .ret,.ret=>true
 | .exit a,.exit b=>Nat.beq a b
 | _,_=>false
theorem exB_ok {a b:Ex} (h:exB a b=true):a=b:=by
 unfold exB at h
 split at h
 ·rfl
 ·rfl
 ·rw [Nat.eq_of_beq_eq_true h]
 ·cases h
def stageB (p:PS) (e:Ex) (r:Option (Ex×List LV×List (Option Blk)×List (Bool×Bool))):Bool:=
 match r with
 | some (e0,vs,bs,cs)=>match exB e0 e with
  | true=>match matVs p.live vs with
   | true=>match matBs p.mem bs with
    | true=>allEqB cs
    | false=>false
   | false=>false
  | false=>false
 | none=>false
def ToP (P:Program) (sz:Nat) (c:Code) (A:Kst) (e:Ex) (B:Kst→Prop):Prop:=
 ∀E a w,KR E sz A a w→∀Q:Exit→Act→World→Prop,(∀B0,B B0→∀E' a' w',KR E' sz B0 a' w'→Ext w E A.ms w' E' B0.ms→Q e.to a' w')→c.wp P Q a w
def Fil (p:PS) (B:Kst):Prop:=∃s,B=filS s p
section
variable {P:Program} {S:FuncId→Option SumK} {z:Md} {sz:Nat}
theorem ToP.run (hs:Sound P S) {c:Code} {A:Kst} {e:Ex} {p:PS} {n:Nat} {dec:List (Option Bool)}
  (hrun:∀dead,stageB p e (projS (p.live.map (·.1)) (p.mem.map (·.1)) (Go.Lr.exec P S z n (.code c) (A.st sz dead dec)))=true)
  (hB:∀s,canB (filS s p)=true) (hnb:Nat.ble A.nb p.nb=true):ToP P sz c A e (Fil p):=by
 intro E a w hk Q hQ
 have hr:=hk.toR dec
 have h:=hrun fun t=>a.tmps.getD t undef
 cases hp:projS (p.live.map (·.1)) (p.mem.map (·.1)) (Go.Lr.exec P S z n (.code c) (A.st sz (fun t=>a.tmps.getD t undef) dec)) with
 | none=>rw [hp] at h;cases h
 | some q=>
  obtain ⟨e0,vs,bs,cs⟩:=q
  rw [hp] at h
  simp only [stageB] at h
  split at h
  ·rename_i he
   split at h
   ·rename_i hv
    split at h
    ·rename_i hb
     have hcs:=allEqB_ok h
     have:=exB_ok he
     subst this
     unfold projS at hp
     split at hp
     ·rename_i e' s' hex
      simp only [Option.some.injEq,Prod.mk.injEq] at hp
      obtain ⟨rfl,gv,gb,rfl⟩:=hp
      obtain ⟨e2,q1,q2,q3,q4,q5,q6⟩:=(exec_sound (binOK P) hs.sums hs.mix hs.ng n).1 c _ _ s' hex hk.le hr.st
      cases q1
      let s:Asg:=⟨fun k o=>iA (nthA ((getM s'.mem k).elim [] (·.cells)) o),fun k o=>bA (nthA ((getM s'.mem k).elim [] (·.cells)) o),fun k o=>iA (nthA (vCells (getT s'.tm k)) o),fun k o=>bA (nthA (vCells (getT s'.tm k)) o)⟩
      have e1:(p.live.map (·.1)).zip vs=filVs s p.live:=matVs_ok (h:=getT s'.tm) hv gv fun k=>⟨rfl,rfl⟩
      obtain ⟨bs',rfl,e3⟩:=matBs_ok (s:=s) (h:=getM s'.mem) hb gb fun k b hb=>⟨by show (fun o=>iA (nthA ((getM s'.mem k).elim [] (·.cells)) o))=_;rw [hb];rfl,by show (fun o=>bA (nthA ((getM s'.mem k).elim [] (·.cells)) o))=_;rw [hb];rfl⟩
      have hB':KstOK ⟨(p.live.map (·.1)).zip vs,(p.mem.map (·.1)).zip bs',p.nb⟩:=by rw [e1,e3];exact canB_ok (hB s)
      have hnb':=Nat.le_of_ble_eq_true hnb
      refine q6 hcs E a w hr Q fun E' a' w' hr' hx=> ?_
      have hsub:=zip_getM (p.mem.map (·.1)) bs' (getM s'.mem) gb
      refine hQ (filS s p) ⟨s,rfl⟩ E' a' w' ?_ ?_
      ·have:filS s p=⟨(p.live.map (·.1)).zip vs,(p.mem.map (·.1)).zip bs',p.nb⟩:=by rw [e1,e3];rfl
       rw [this]
       refine ⟨hB',hr'.size.trans q4,hk.le,hr'.defers,fun q hq=> ?_,⟨fun i b hib=>hr'.m.rel.blk i b (hsub i b hib),fun i j hi hj he=>hr'.m.rel.inj i j ?_ ?_ he⟩⟩
       ·rw [hr'.tm q.1,zip_getT (p.live.map (·.1)) vs (getT s'.tm) gv q hq]
       ·obtain ⟨b,hib⟩:=Option.isSome_iff_exists.1 hi;simp [hsub i b hib]
       ·obtain ⟨b,hjb⟩:=Option.isSome_iff_exists.1 hj;simp [hsub j b hjb]
      ·have:(filS s p).ms=(Kst.mk ((p.live.map (·.1)).zip vs) ((p.mem.map (·.1)).zip bs') p.nb).ms:=by rw [e1,e3];rfl
       rw [this]
       refine ⟨hnb',hx.agree,hx.os,hx.tape,hx.output,hx.size,hx.frame,fun i hi=>hx.src i ?_⟩
       obtain ⟨b,hib⟩:=Option.isSome_iff_exists.1 hi
       simp [hsub i b hib]
     ·cases hp
    ·cases h
   ·cases h
  ·cases h
theorem ToP.mono {c:Code} {A:Kst} {e:Ex} {B C:Kst→Prop} (h:ToP P sz c A e B) (k:∀x,B x→C x):ToP P sz c A e C:=
 fun E a w hr Q hQ=>h E a w hr Q fun B0 hB0=>hQ B0 (k B0 hB0)
theorem ToP.seq {c:Code} {A:Kst} {e:Ex} {B C:Kst→Prop} (hc:isSeq c=true) (h:ToP P sz (c1 c) A .normal B) (k:∀x,B x→ToP P sz (c2 c) x e C):ToP P sz c A e C:=by
 cases c <;> simp only [isSeq,Bool.false_eq_true] at hc
 intro E a w hr Q hQ
 refine wp_seq (h E a w hr _ fun B0 hB E' a' w' hr' hx'=> ?_)
 exact k B0 hB E' a' w' hr' Q fun C0 hC E'' a'' w'' hr'' hx''=>hQ C0 hC E'' a'' w'' hr'' (hx'.trans hx'')
theorem ToP.seq_out {c:Code} {A:Kst} {e:Ex} {B:Kst→Prop} (hc:isSeq c=true) (he:e≠ .normal) (h:ToP P sz (c1 c) A e B):ToP P sz c A e B:=by
 cases c <;> simp only [isSeq,Bool.false_eq_true] at hc
 intro E a w hr Q hQ
 refine wp_seq (h E a w hr _ fun B0 hB E' a' w' hr' hx'=> ?_)
 have:=hQ B0 hB E' a' w' hr' hx'
 cases e <;> first | exact absurd rfl he | exact this
theorem ToP.block {c:Code} {id:Nat} {A:Kst} {e:Ex} {B:Kst→Prop} (hc:blkId c=some id) (h:ToP P sz (c1 c) A e B) (he:e = .exit id∨e = .normal):ToP P sz c A .normal B:=by
 cases c <;> simp only [blkId,reduceCtorEq] at hc
 cases hc
 intro E a w hr Q hQ
 refine wp_block (h E a w hr _ fun B0 hB E' a' w' hr' hx'=> ?_)
 have:=hQ B0 hB E' a' w' hr' hx'
 rcases he with rfl | rfl
 ·simpa only [Ex.to,Exit.inBlock,if_true] using this
 ·exact this
def RdP (P:Program) (sz:Nat) (c:Code) (m:Nat) (A:Kst) (e:Ex) (B:Kst→Prop):Prop:=
 ∀E a w,KR E sz A a w→∀Q:Exit→Act→World→Prop,(∀B0,B B0→∀E' a' w',KR E' sz B0 a' w'→Ext w E A.ms w' E' B0.ms→Q e.to a' w')→Code.rounds P c Q m a w
theorem RdP.last {c:Code} {A:Kst} {e:Ex} {B:Kst→Prop} (he:e≠ .normal) (h:ToP P sz c A e B):RdP P sz c 1 A e B:=by
 intro E a w hr Q hQ
 rw [rounds_succ]
 refine h E a w hr _ fun B0 hB E' a' w' hr' hx'=> ?_
 have:=hQ B0 hB E' a' w' hr' hx'
 cases e <;> first | exact absurd rfl he | exact this
theorem RdP.next {c:Code} {A:Kst} {e:Ex} {B C:Kst→Prop} {m:Nat} (h:ToP P sz c A .normal B) (k:∀x,B x→RdP P sz c m x e C):RdP P sz c (m+1) A e C:=by
 intro E a w hr Q hQ
 rw [rounds_succ]
 refine h E a w hr _ fun B0 hB E' a' w' hr' hx'=> ?_
 exact k B0 hB E' a' w' hr' Q fun C0 hC E'' a'' w'' hr'' hx''=>hQ C0 hC E'' a'' w'' hr'' (hx'.trans hx'')
theorem ToP.loop {c:Code} {A:Kst} {e:Ex} {B:Kst→Prop} {m:Nat} (hc:isLoop c=true) (h:RdP P sz (c1 c) m A e B):ToP P sz c A e B:=by
 cases c <;> simp only [isLoop,Bool.false_eq_true] at hc
 exact fun E a w hr Q hQ=>wp_loop_rounds m (h E a w hr Q hQ)
theorem pure_of_ToP {f:FuncId} {fn:Func} {c:Code} {args:List LV} {B:Kst→Prop} {e:Ex} {v:LV} (ho:Own P f) (hf:P.funcs[f]? = some fn) (hb:fn.body=some c)
  (hle:fn.ntmps≤60000) (hargs:args.length≤fn.ntmps) (ha:plainVs args=true) (h:ToP P fn.ntmps c ⟨argsL 0 args,[],0⟩ e B) (he:e = .normal∨e = .ret)
  (hres:∀x,B x→∀dead,resultsD P fn.results.toList (getT (x.tm dead)) x.mem=some v) (hv:v.ok noP=true) (w:World):CallOK P f (args.map (LV.den E0)).toArray w fun u w'=>u=v.den E0∧Below w.heap.size w w':=by
 have ha':=plainVs_iff.1 ha
 refine callOK_of ho (calls_of_wp hf hb (h E0 _ w ⟨⟨fun q hq=> ?_,(argsL_fst args 0).1,fun q hq=> ?_,fun i b h=>by simp [getM] at h,trivial⟩,by simp;omega,hle,rfl,fun q hq=> ?_,⟨fun i b h=>by simp [getM] at h,fun i j h=>by simp [getM] at h⟩⟩ _ fun B0 hB E' a' w' hr' hx'=> ?_))
 ·have:=(argsL_mem args 0 q).1 hq
  have:=(List.getElem?_eq_some_iff.1 this.2).1
  omega
 ·exact LV.ok_mono noP_below (ha' q.2 (List.mem_of_getElem? ((argsL_mem args 0 q).1 hq).2))
 ·have:=((argsL_mem args 0 q).1 hq).2
  simp only [Nat.sub_zero] at this
  have hlt:=(List.getElem?_eq_some_iff.1 this).1
  simp only [Array.getD_eq_getD_getElem?,Array.getElem?_append,List.size_toArray,List.length_map]
  rw [if_pos hlt]
  simp [this]
 ·have hR:=hr'.toR []
  have hpost:bodyPost P fn (fun e w'=>e = .returned (v.den E0)∧Below w.heap.size w w') .ret a' w':=by
   refine ⟨hr'.defers,v.den E',resultsD_spec hR.m.rel hR.tm (hres B0 hB _), ?_, ?_⟩
   ·rw [den_noP hv]
   ·exact ⟨hx'.os,hx'.tape,hx'.output,hx'.size,fun k hk=>hx'.frame k hk fun i hi=>by simp [getM,Kst.ms] at hi⟩
  rcases he with rfl | rfl
  ·exact hpost
  ·exact hpost
end
end Go.Lr
namespace Go.Lr
abbrev pI (n:Int):P1:= .lit (.int .i64 n)
abbrev pL (a:At):P1:= .lit a
abbrev pB (x:Bool):P1:= .lit (.bool x)
def rp:Nat→P1→List P1
 | 0,_=>[]
 | n+1,p=>p::rp n p
end Go.Lr

/- Opaque summaries, off one run that asks nothing. -/
set_option linter.unusedVariables false
namespace Go.Lr
open Go.RowKit
def okX (ty:TypeId) (n:Nat) (r:Option (LV×Option Blk×List (Bool×Bool))):Bool:=
 match r with
 | some (.v (.agg l),some b,cs)=>match allIB l n with
  | true=>match matB ⟨ty,(0,0),0,[.hb]⟩ b with
   | true=>allEqB cs
   | false=>false
  | false=>false
 | _=>false
theorem okX_ok {ty:TypeId} {n:Nat} {r:Option (LV×Option Blk×List (Bool×Bool))} (h:okX ty n r=true):∃l h' cs,r=some (.v (.agg l),some (flag ty h'),cs)∧AllI l n∧∀c∈cs,c.1=c.2:=by
 unfold okX at h
 split at h
 ·rename_i l b cs
  split at h
  ·rename_i h1
   split at h
   ·rename_i h2
    refine ⟨l,bA (nthA b.cells 0),cs, ?_,allIB_ok h1,allEqB_ok h⟩
    have e:b=flag ty (bA (nthA b.cells 0)):=matB_ok h2
    rw [←e]
   ·cases h
  ·cases h
 ·cases h
section
variable {P:Program} {S:FuncId→Option SumK} {z:Md}
theorem AllI.okn {l:List At} {n:Nat} (h:AllI l n):(LV.v (.agg l)).ok noP=true:=h.ok
theorem exF_run (hs:Sound P S) {f:FuncId} {ty:TypeId} {okA:List LV→Bool} {n:Nat} (ho:Own P f)
  (h:∀args hb,okA args=true→∃(k:Nat) (dec:List (Option Bool)),okX ty n ((runF P S z k f (A0::args) [(0,flag ty hb)] 1 dec).map (fun r=>(r.1,getM r.2.1 0,r.2.2.2)))=true):SumOK P f (accSum ty (exF P f ty okA n)):=by
 refine exF_ok ho fun args hb hok hp=> ?_
 obtain ⟨k,dec,hr⟩:=h args hb hok
 obtain ⟨l,h',cs,hrun,hl,hc⟩:=okX_ok hr
 exact ⟨l,h',hl,fun w L hL=>acc_run hs hrun hc hp hl.okn w L hL⟩
end
end Go.Lr

/- strap.Step: opaque; output.Of: by formula; and the rest of the filter over them. -/
namespace Go.Proofs.YtfepmlklbapfiaaGreat
open Go.Lr
set_option linter.unusedVariables false
def okSI:List LV→Bool
 | [.v (.agg [.int .i64 s0,.int .i64 s1,.int .i64 s2,.int .i64 s3,.int .i64 s4,.int .i64 s5,.int .i64 s6,.int .i64 s7,.int .i64 s8,.int .i64 s9,.int .i64 s10,.int .i64 s11,.int .i64 s12,.int .i64 s13,.int .i64 s14,.int .i64 s15,.int .i64 s16,.int .i64 s17,.int .i64 s18,.int .i64 s19,.int .i64 s20,.int .i64 s21,.int .i64 s22,.int .i64 s23]),.v (.agg [.int .i64 i0,.int .i64 i1,.int .i64 i2,.int .i64 i3,.int .i64 i4,.int .i64 i5,.int .i64 i6,.int .i64 i7])]=>true
 | _=>false
theorem stepX (s0 s1 s2 s3 s4 s5 s6 s7 s8 s9 s10 s11 s12 s13 s14 s15 s16 s17 s18 s19 s20 s21 s22 s23 i0 i1 i2 i3 i4 i5 i6 i7:Int) (hb:Bool):okX 67 24 ((runF Tryz.prog K12u Zl 4000 55 [A0,.v (.agg [.int .i64 s0,.int .i64 s1,.int .i64 s2,.int .i64 s3,.int .i64 s4,.int .i64 s5,.int .i64 s6,.int .i64 s7,.int .i64 s8,.int .i64 s9,.int .i64 s10,.int .i64 s11,.int .i64 s12,.int .i64 s13,.int .i64 s14,.int .i64 s15,.int .i64 s16,.int .i64 s17,.int .i64 s18,.int .i64 s19,.int .i64 s20,.int .i64 s21,.int .i64 s22,.int .i64 s23]),.v (.agg [.int .i64 i0,.int .i64 i1,.int .i64 i2,.int .i64 i3,.int .i64 i4,.int .i64 i5,.int .i64 i6,.int .i64 i7])] [(0,flag 67 hb)] 1 []).map (fun r=>(r.1,getM r.2.1 0,r.2.2.2)))=true:=by kernel_rfl
theorem sumStepX:SumOK Tryz.prog 55 (accSum 67 (exF Tryz.prog 55 67 okSI 24)):=by
 refine exF_run (z:=Zl) soundK12u (own_of soundK12u Tryz.func55 (by kernel_rfl)) fun args hb hok=> ?_
 unfold okSI at hok
 split at hok
 ·exact ⟨4000,[],stepX _ _ _ _ _ _ _ _ _ _ _ _ _ _ _ _ _ _ _ _ _ _ _ _ _ _ _ _ _ _ _ _ hb⟩
 ·cases hok
noncomputable def K13u:FuncId→Option SumK:=more K12u 55 (accSum 67 (exF Tryz.prog 55 67 okSI 24))
theorem soundK13u:Sound Tryz.prog K13u:=soundK12u.more sumStepX
def outV (t:Int) (s0 s1 s2 s3 s4 s5 s6 s7 s8 s9 s10 s11 s12 s13 s14 s15 s16 s17 s18 s19 s20 s21 s22 s23:Int):LV:=match keepL s0 s1 s2 s3 s4 s5 s6 s7 s8 s9 s10 s11 s12 s13 s14 s15 s16 s17 s18 s19 s20 s21 s22 s23 with
 | .v (.agg (k0::k1::k2::k3::k4::k5::k6::k7::k8::k9::_))=> .v (.agg [.int .i64 t,k0,k1,k2,k3,k4,k5,k6,k7,k8,k9])
 | v=>v
def outOfF:List LV→Bool→Option (LV×Bool×List (Bool×Bool))
 | [.v (.agg [.int .i64 s0,.int .i64 s1,.int .i64 s2,.int .i64 s3,.int .i64 s4,.int .i64 s5,.int .i64 s6,.int .i64 s7,.int .i64 s8,.int .i64 s9,.int .i64 s10,.int .i64 s11,.int .i64 s12,.int .i64 s13,.int .i64 s14,.int .i64 s15,.int .i64 s16,.int .i64 s17,.int .i64 s18,.int .i64 s19,.int .i64 s20,.int .i64 s21,.int .i64 s22,.int .i64 s23]),.v (.one (.int .i64 t))],hb=>some (outV t s0 s1 s2 s3 s4 s5 s6 s7 s8 s9 s10 s11 s12 s13 s14 s15 s16 s17 s18 s19 s20 s21 s22 s23,keepH hb s0 s1 s2 s3 s4 s5 s6 s7 s8 s9 s10 s11 s12 s13 s14 s15 s16 s17 s18 s19 s20 s21 s22 s23,[])
 | _,_=>none
theorem outOfR (t s0 s1 s2 s3 s4 s5 s6 s7 s8 s9 s10 s11 s12 s13 s14 s15 s16 s17 s18 s19 s20 s21 s22 s23:Int) (hb:Bool):(runF Tryz.prog K13u Zl 4000 54 [A0,.v (.agg [.int .i64 s0,.int .i64 s1,.int .i64 s2,.int .i64 s3,.int .i64 s4,.int .i64 s5,.int .i64 s6,.int .i64 s7,.int .i64 s8,.int .i64 s9,.int .i64 s10,.int .i64 s11,.int .i64 s12,.int .i64 s13,.int .i64 s14,.int .i64 s15,.int .i64 s16,.int .i64 s17,.int .i64 s18,.int .i64 s19,.int .i64 s20,.int .i64 s21,.int .i64 s22,.int .i64 s23]),I t] [(0,flag 67 hb)] 1 []).map (fun r=>(r.1,getM r.2.1 0,r.2.2.2))=some (outV t s0 s1 s2 s3 s4 s5 s6 s7 s8 s9 s10 s11 s12 s13 s14 s15 s16 s17 s18 s19 s20 s21 s22 s23,some (flag 67 (keepH hb s0 s1 s2 s3 s4 s5 s6 s7 s8 s9 s10 s11 s12 s13 s14 s15 s16 s17 s18 s19 s20 s21 s22 s23)),[]):=by kernel_rfl
theorem sumOutOf:SumOK Tryz.prog 54 (accSum 67 outOfF):=by
 refine accSum_run (z:=Zl) soundK13u (own_of soundK13u Tryz.func54 (by kernel_rfl)) fun args hb v h' cs hF hc=> ?_
 unfold outOfF at hF
 split at hF
 ·cases hF
  exact ⟨rfl,4000,[],_,outOfR _ _ _ _ _ _ _ _ _ _ _ _ _ _ _ _ _ _ _ _ _ _ _ _ _ hb,ae_nil⟩
 ·cases hF
noncomputable def K14u:FuncId→Option SumK:=more K13u 54 (accSum 67 outOfF)
theorem soundK14u:Sound Tryz.prog K14u:=soundK13u.more sumOutOf
def outPutS:List LV→Option (LV×List (Bool×Bool))
 | [.v (.agg [.int .i64 s0,.int .i64 s1,.int .i64 s2,.int .i64 s3,.int .i64 s4,.int .i64 s5,.int .i64 s6,.int .i64 s7,.int .i64 s8,.int .i64 s9,.int .i64 s10,.int .i64 s11,.int .i64 s12,.int .i64 s13,.int .i64 s14,.int .i64 s15,.int .i64 s16,.int .i64 s17,.int .i64 s18,.int .i64 s19,.int .i64 s20,.int .i64 s21,.int .i64 s22,.int .i64 s23]),.v (.agg [.int .i64 o0,.int .i64 o1,.int .i64 o2,.int .i64 o3,.int .i64 o4,.int .i64 o5,.int .i64 o6,.int .i64 o7,.int .i64 o8,.int .i64 o9,.int .i64 o10])]=>some (.v (.agg [.int .i64 o1,.int .i64 o2,.int .i64 o3,.int .i64 o4,.int .i64 o5,.int .i64 o6,.int .i64 o7,.int .i64 o8,.int .i64 o9,.int .i64 o10,.int .i64 s10,.int .i64 s11,.int .i64 s12,.int .i64 s13,.int .i64 s14,.int .i64 s15,.int .i64 s16,.int .i64 s17,.int .i64 s18,.int .i64 s19,.int .i64 s20,.int .i64 s21,.int .i64 s22,.int .i64 s23]),[])
 | _=>none
theorem outPutR (s0 s1 s2 s3 s4 s5 s6 s7 s8 s9 s10 s11 s12 s13 s14 s15 s16 s17 s18 s19 s20 s21 s22 s23 o0 o1 o2 o3 o4 o5 o6 o7 o8 o9 o10:Int):(runF Tryz.prog K14u Zl 4000 56 [.v (.agg [.int .i64 s0,.int .i64 s1,.int .i64 s2,.int .i64 s3,.int .i64 s4,.int .i64 s5,.int .i64 s6,.int .i64 s7,.int .i64 s8,.int .i64 s9,.int .i64 s10,.int .i64 s11,.int .i64 s12,.int .i64 s13,.int .i64 s14,.int .i64 s15,.int .i64 s16,.int .i64 s17,.int .i64 s18,.int .i64 s19,.int .i64 s20,.int .i64 s21,.int .i64 s22,.int .i64 s23]),.v (.agg [.int .i64 o0,.int .i64 o1,.int .i64 o2,.int .i64 o3,.int .i64 o4,.int .i64 o5,.int .i64 o6,.int .i64 o7,.int .i64 o8,.int .i64 o9,.int .i64 o10])] [] 0 []).map (fun r=>(r.1,r.2.2.2))=some (.v (.agg [.int .i64 o1,.int .i64 o2,.int .i64 o3,.int .i64 o4,.int .i64 o5,.int .i64 o6,.int .i64 o7,.int .i64 o8,.int .i64 o9,.int .i64 o10,.int .i64 s10,.int .i64 s11,.int .i64 s12,.int .i64 s13,.int .i64 s14,.int .i64 s15,.int .i64 s16,.int .i64 s17,.int .i64 s18,.int .i64 s19,.int .i64 s20,.int .i64 s21,.int .i64 s22,.int .i64 s23]),[]):=by kernel_rfl
theorem sumOutPut:SumOK Tryz.prog 56 (pureSum outPutS):=by
 refine pureSum_run (z:=Zl) soundK14u (own_of soundK14u Tryz.func56 (by kernel_rfl)) fun args v cs hF hc=> ?_
 unfold outPutS at hF
 split at hF
 ·cases hF
  exact ⟨4000,[],[],outPutR _ _ _ _ _ _ _ _ _ _ _ _ _ _ _ _ _ _ _ _ _ _ _ _ _ _ _ _ _ _ _ _ _ _ _,by simp⟩
 ·cases hF
noncomputable def K15u:FuncId→Option SumK:=more K14u 56 (pureSum outPutS)
theorem soundK15u:Sound Tryz.prog K15u:=soundK14u.more sumOutPut
noncomputable def K16u:FuncId→Option SumK:=more K15u 53 (accSum 67 (autoF Tryz.prog K15u Zl 2000 53 67))
theorem soundK16u:Sound Tryz.prog K16u:=soundK15u.more (autoF_ok soundK15u (own_of soundK15u Tryz.func53 (by kernel_rfl)))
noncomputable def K17u:FuncId→Option SumK:=more K16u 52 (autoP Tryz.prog K16u Zl 2000 52)
theorem soundK17u:Sound Tryz.prog K17u:=soundK16u.more (autoP_ok soundK16u (own_of soundK16u Tryz.func52 (by kernel_rfl)))
noncomputable def K18u:FuncId→Option SumK:=more K17u 158 (accSum 67 (autoF Tryz.prog K17u Zl 2000 158 67))
theorem soundK18u:Sound Tryz.prog K18u:=soundK17u.more (autoF_ok soundK17u (own_of soundK17u Tryz.func158 (by kernel_rfl)))
noncomputable def K19u:FuncId→Option SumK:=more K18u 108 (accSum 67 thS)
theorem soundK19u:Sound Tryz.prog K19u:=soundK18u.more (sumTh)
noncomputable def K20u:FuncId→Option SumK:=moreG K19u 106 (orGen (narG 0 67 (autoA Tryz.prog K19u Zl 4000 106)) (autoA Tryz.prog K19u Zl 4000 106))
theorem soundK20u:Sound Tryz.prog K20u:=soundK19u.moreG (orGen_ok (narG_ok (autoA_ok soundK19u (own_of soundK19u Tryz.func106 (by kernel_rfl)))) (autoA_ok soundK19u (own_of soundK19u Tryz.func106 (by kernel_rfl))))
noncomputable def K21u:FuncId→Option SumK:=more K20u 62 (autoP Tryz.prog K20u Zl 2000 62)
theorem soundK21u:Sound Tryz.prog K21u:=soundK20u.more (autoP_ok soundK20u (own_of soundK20u Tryz.func62 (by kernel_rfl)))
noncomputable def K22u:FuncId→Option SumK:=more K21u 41 (autoP Tryz.prog K21u Zl 2000 41)
theorem soundK22u:Sound Tryz.prog K22u:=soundK21u.more (autoP_ok soundK21u (own_of soundK21u Tryz.func41 (by kernel_rfl)))
noncomputable def K23u:FuncId→Option SumK:=moreG K22u 43 (orGen (narG 0 67 (autoA Tryz.prog K22u Zl 4000 43)) (autoA Tryz.prog K22u Zl 4000 43))
theorem soundK23u:Sound Tryz.prog K23u:=soundK22u.moreG (orGen_ok (narG_ok (autoA_ok soundK22u (own_of soundK22u Tryz.func43 (by kernel_rfl)))) (autoA_ok soundK22u (own_of soundK22u Tryz.func43 (by kernel_rfl))))
noncomputable def K24u:FuncId→Option SumK:=moreG K23u 46 (autoA Tryz.prog K23u Zl 4000 46)
theorem soundK24u:Sound Tryz.prog K24u:=soundK23u.moreG (autoA_ok soundK23u (own_of soundK23u Tryz.func46 (by kernel_rfl)))
noncomputable def K25u:FuncId→Option SumK:=moreG K24u 48 (autoA Tryz.prog K24u Zl 4000 48)
theorem soundK25u:Sound Tryz.prog K25u:=soundK24u.moreG (autoA_ok soundK24u (own_of soundK24u Tryz.func48 (by kernel_rfl)))
noncomputable def K26u:FuncId→Option SumK:=moreG K25u 26 (orGen (narG 1 67 (autoA Tryz.prog K25u Zl 4000 26)) (autoA Tryz.prog K25u Zl 4000 26))
theorem soundK26u:Sound Tryz.prog K26u:=soundK25u.moreG (orGen_ok (narG_ok (autoA_ok soundK25u (own_of soundK25u Tryz.func26 (by kernel_rfl)))) (autoA_ok soundK25u (own_of soundK25u Tryz.func26 (by kernel_rfl))))
noncomputable def K27u:FuncId→Option SumK:=moreG K26u 86 (autoA Tryz.prog K26u Zl 4000 86)
theorem soundK27u:Sound Tryz.prog K27u:=soundK26u.moreG (autoA_ok soundK26u (own_of soundK26u Tryz.func86 (by kernel_rfl)))
noncomputable def K28u:FuncId→Option SumK:=moreG K27u 27 (orGen (narG 1 67 (autoA Tryz.prog K27u Zl 4000 27)) (autoA Tryz.prog K27u Zl 4000 27))
theorem soundK28u:Sound Tryz.prog K28u:=soundK27u.moreG (orGen_ok (narG_ok (autoA_ok soundK27u (own_of soundK27u Tryz.func27 (by kernel_rfl)))) (autoA_ok soundK27u (own_of soundK27u Tryz.func27 (by kernel_rfl))))
noncomputable def K29u:FuncId→Option SumK:=moreG K28u 107 (orGen (narG 1 67 (autoA Tryz.prog K28u Zl 4000 107)) (autoA Tryz.prog K28u Zl 4000 107))
theorem soundK29u:Sound Tryz.prog K29u:=soundK28u.moreG (orGen_ok (narG_ok (autoA_ok soundK28u (own_of soundK28u Tryz.func107 (by kernel_rfl)))) (autoA_ok soundK28u (own_of soundK28u Tryz.func107 (by kernel_rfl))))
noncomputable def K30u:FuncId→Option SumK:=moreG K29u 59 (autoA Tryz.prog K29u Zl 4000 59)
theorem soundK30u:Sound Tryz.prog K30u:=soundK29u.moreG (autoA_ok soundK29u (own_of soundK29u Tryz.func59 (by kernel_rfl)))
noncomputable def K31u:FuncId→Option SumK:=moreG K30u 133 (autoA Tryz.prog K30u Zl 4000 133)
theorem soundK31u:Sound Tryz.prog K31u:=soundK30u.moreG (autoA_ok soundK30u (own_of soundK30u Tryz.func133 (by kernel_rfl)))
noncomputable def K32u:FuncId→Option SumK:=moreG K31u 61 (autoA Tryz.prog K31u Zl 4000 61)
theorem soundK32u:Sound Tryz.prog K32u:=soundK31u.moreG (autoA_ok soundK31u (own_of soundK31u Tryz.func61 (by kernel_rfl)))
noncomputable def K33u:FuncId→Option SumK:=moreG K32u 132 (autoA Tryz.prog K32u Zl 4000 132)
theorem soundK33u:Sound Tryz.prog K33u:=soundK32u.moreG (autoA_ok soundK32u (own_of soundK32u Tryz.func132 (by kernel_rfl)))
noncomputable def K34u:FuncId→Option SumK:=moreG K33u 65 (orGen (narG 1 67 (autoA Tryz.prog K33u Zl 4000 65)) (autoA Tryz.prog K33u Zl 4000 65))
theorem soundK34u:Sound Tryz.prog K34u:=soundK33u.moreG (orGen_ok (narG_ok (autoA_ok soundK33u (own_of soundK33u Tryz.func65 (by kernel_rfl)))) (autoA_ok soundK33u (own_of soundK33u Tryz.func65 (by kernel_rfl))))
noncomputable def K35u:FuncId→Option SumK:=moreG K34u 30 (autoA Tryz.prog K34u Zl 4000 30)
theorem soundK35u:Sound Tryz.prog K35u:=soundK34u.moreG (autoA_ok soundK34u (own_of soundK34u Tryz.func30 (by kernel_rfl)))
noncomputable def K36u:FuncId→Option SumK:=moreG K35u 31 (autoA Tryz.prog K35u Zl 4000 31)
theorem soundK36u:Sound Tryz.prog K36u:=soundK35u.moreG (autoA_ok soundK35u (own_of soundK35u Tryz.func31 (by kernel_rfl)))
noncomputable def K37u:FuncId→Option SumK:=more K36u 9 (pureSum stillS)
theorem soundK37u:Sound Tryz.prog K37u:=soundK36u.more (sumStill)
end Go.Proofs.YtfepmlklbapfiaaGreat

/- States with holes and with numbers told by a term; asks that are not closed are left to prove. -/
set_option linter.unusedVariables false
namespace Go.Lr
open Go.RowKit
inductive P2 where
 | old (p:P1)
 | sym (x:Int)
 | raw (a:At)
inductive Ob where
 | oi (x y:Int)
 | oa (x y:At)
 | ol (x y:List At)
 | ob (x y:Blk)
def Ob.ok:Ob→Prop
 | .oi x y=>x=y
 | .oa x y=>x=y
 | .ol x y=>x=y
 | .ob x y=>x=y
def mat2:P2→At→Option (List Ob)
 | .old p,a=>match mat1 p a with
  | true=>some []
  | false=>none
 | .raw x,a=>some [.oa a x]
 | .sym x,.int .i64 n=>some [.oi n x]
 | .sym _,_=>none
def fil2 (x:Int) (y:Bool):P2→At
 | .old p=>fil1 x y p
 | .sym n=> .int .i64 n
 | .raw a=>a
def AllOb (l:List Ob):Prop:=∀q∈l,q.ok
theorem mat2_ok {p:P2} {a:At} {es:List Ob} (h:mat2 p a=some es) (he:AllOb es):a=fil2 (iA a) (bA a) p:=by
 unfold mat2 at h
 split at h
 ·split at h
  ·rename_i h1
   exact mat1_ok h1
  ·cases h
 ·cases h
  exact he _ (List.mem_singleton.2 rfl)
 ·cases h
  rename_i x n
  have h1:n=x:=he (.oi n x) (List.mem_singleton.2 rfl)
  simp only [fil2]
  rw [h1]
 ·cases h
def matL2:List P2→List At→Option (List Ob)
 | [],[]=>some []
 | p::ps,a::l=>match mat2 p a with
  | some es=>match matL2 ps l with
   | some fs=>some (es++fs)
   | none=>none
  | none=>none
 | _,_=>none
def filL2 (f:Nat→Int) (g:Nat→Bool):Nat→List P2→List At
 | _,[]=>[]
 | o,p::ps=>fil2 (f o) (g o) p::filL2 f g (o+1) ps
theorem AllOb.left {l m:List Ob} (h:AllOb (l++m)):AllOb l:=fun q hq=>h q (List.mem_append_left m hq)
theorem AllOb.right {l m:List Ob} (h:AllOb (l++m)):AllOb m:=fun q hq=>h q (List.mem_append_right l hq)
theorem matL2_ok:∀{ps:List P2} {l:List At} {o:Nat} {f:Nat→Int} {g:Nat→Bool} {es:List Ob},matL2 ps l=some es→AllOb es→(∀k a,l[k]? = some a→f (o+k)=iA a∧g (o+k)=bA a)→l=filL2 f g o ps
 | [],[],_,_,_,_,_,_,_=>rfl
 | [],_::_,_,_,_,_,h,_,_=>by simp [matL2] at h
 | _::_,[],_,_,_,_,h,_,_=>by simp [matL2] at h
 | p::ps,a::l,o,f,g,es,h,he,hf=>by
  unfold matL2 at h
  split at h
  ·rename_i es1 h1
   split at h
   ·rename_i es2 h2
    cases h
    have h0:=hf 0 a rfl
    have e:=mat2_ok h1 he.left
    simp only [filL2]
    rw [show f o=iA a from h0.1,show g o=bA a from h0.2,←e,←matL2_ok h2 he.right fun k b hk=>by
     have:=hf (k+1) b (by simpa using hk)
     rwa [show o+(k+1)=o+1+k by omega] at this]
   ·cases h
  ·cases h
theorem matL2_ok0 {ps:List P2} {l:List At} {es:List Ob} (h:matL2 ps l=some es) (he:AllOb es):l=filL2 (fun o=>iA (nthA l o)) (fun o=>bA (nthA l o)) 0 ps:=
 matL2_ok h he fun k a hk=>by simp [nthA,hk]
inductive PV2 where
 | one (p:P2)
 | agg (l:List P2)
structure PB2 where
 ty:TypeId
 fr:Nat×Nat
 es:Nat
 cells:List P2
 raw:Option (List At):=none
structure PS2 where
 live:List (Nat×PV2)
 mem:List (Nat×PB2)
 nb:Nat
def filV2 (f:Nat→Int) (g:Nat→Bool):PV2→LV
 | .one p=> .v (.one (fil2 (f 0) (g 0) p))
 | .agg l=> .v (.agg (filL2 f g 0 l))
def filC2 (f:Nat→Int) (g:Nat→Bool) (ps:List P2):Option (List At)→List At
 | none=>filL2 f g 0 ps
 | some l=>l
def filB2 (f:Nat→Int) (g:Nat→Bool) (b:PB2):Blk:=⟨b.ty,b.fr,b.es,filC2 f g b.cells b.raw⟩
def filVs2 (s:Asg):List (Nat×PV2)→List (Nat×LV)
 | []=>[]
 | (i,p)::l=>(i,filV2 (s.fs i) (s.gs i) p)::filVs2 s l
def filM2 (s:Asg):List (Nat×PB2)→Mem
 | []=>[]
 | (i,p)::l=>(i,filB2 (s.F i) (s.G i) p)::filM2 s l
def filS2 (s:Asg) (p:PS2):Kst:=⟨filVs2 s p.live,filM2 s p.mem,p.nb⟩
def matV2:PV2→LV→Option (List Ob)
 | .one p,.v (.one a)=>mat2 p a
 | .agg l,.v (.agg m)=>matL2 l m
 | _,_=>none
theorem matV2_ok {p:PV2} {v:LV} {es:List Ob} (h:matV2 p v=some es) (he:AllOb es):v=filV2 (fun o=>iA (nthA (vCells v) o)) (fun o=>bA (nthA (vCells v) o)) p:=by
 unfold matV2 at h
 split at h
 ·rename_i p a
  have e:=mat2_ok h he
  show _=LV.v (.one (fil2 (iA a) (bA a) p))
  rw [←e]
 ·rename_i l m
  have e:=matL2_ok0 h he
  show _=LV.v (.agg (filL2 (fun o=>iA (nthA m o)) (fun o=>bA (nthA m o)) 0 l))
  rw [←e]
 ·cases h
def matB2 (p:PB2) (b:Blk):Option (List Ob):=match p.raw with
 | some l=>some [.ob b ⟨p.ty,p.fr,p.es,l⟩]
 | none=>match Nat.beq b.ty p.ty with
  | true=>match fr2 b.fr p.fr with
   | true=>match Nat.beq b.es p.es with
    | true=>matL2 p.cells b.cells
    | false=>none
   | false=>none
  | false=>none
theorem matB2_ok {p:PB2} {b:Blk} {es:List Ob} (h:matB2 p b=some es) (he:AllOb es):b=filB2 (fun o=>iA (nthA b.cells o)) (fun o=>bA (nthA b.cells o)) p:=by
 obtain ⟨ty',⟨x',y'⟩,es',ps,rw⟩:=p
 cases rw with
 | some l=>
  simp only [matB2,Option.some.injEq] at h
  subst h
  exact he _ (List.mem_singleton.2 rfl)
 | none=>
  simp only [matB2] at h
  split at h
  ·rename_i h1
   split at h
   ·rename_i h2
    split at h
    ·rename_i h3
     have e:=matL2_ok0 h he
     obtain ⟨ty,⟨x,y⟩,es,cells⟩:=b
     simp only [fr2] at h2
     obtain ⟨rfl,rfl,_⟩:=nat3_ok h2
     have e1:ty=ty':=Nat.eq_of_beq_eq_true h1
     have e2:es=es':=Nat.eq_of_beq_eq_true h3
     subst e1
     subst e2
     show _=Blk.mk ty (x,y) es (filL2 (fun o=>iA (nthA cells o)) (fun o=>bA (nthA cells o)) 0 ps)
     rw [←e]
    ·cases h
   ·cases h
  ·cases h
def matVs2:List (Nat×PV2)→List LV→Option (List Ob)
 | [],[]=>some []
 | (_,p)::l,v::m=>match matV2 p v with
  | some es=>match matVs2 l m with
   | some fs=>some (es++fs)
   | none=>none
  | none=>none
 | _,_=>none
def matBs2:List (Nat×PB2)→List (Option Blk)→Option (List Ob)
 | [],[]=>some []
 | (_,p)::l,some b::m=>match matB2 p b with
  | some es=>match matBs2 l m with
   | some fs=>some (es++fs)
   | none=>none
  | none=>none
 | _,_=>none
theorem matVs2_ok {s:Asg}:∀{l:List (Nat×PV2)} {m:List LV} {h:Nat→LV} {es:List Ob},matVs2 l m=some es→AllOb es→(l.map (·.1)).map h=m→(∀k,s.fs k=(fun o=>iA (nthA (vCells (h k)) o))∧s.gs k=(fun o=>bA (nthA (vCells (h k)) o)))→(l.map (·.1)).zip m=filVs2 s l
 | [],_,_,_,_,_,_,_=>rfl
 | (i,p)::l,[],_,_,h,_,_,_=>by simp [matVs2] at h
 | (i,p)::l,v::m,hh,es,h,hq,he,hs=>by
  unfold matVs2 at h
  split at h
  ·rename_i es1 h1
   split at h
   ·rename_i es2 h2
    cases h
    simp only [List.map_cons,List.cons.injEq] at he
    have e:=matV2_ok h1 hq.left
    simp only [List.map_cons,List.zip_cons_cons,filVs2]
    rw [matVs2_ok h2 hq.right he.2 hs,(hs i).1,(hs i).2,he.1,←e]
   ·cases h
  ·cases h
theorem matBs2_ok {s:Asg}:∀{l:List (Nat×PB2)} {m:List (Option Blk)} {h:Nat→Option Blk} {es:List Ob},matBs2 l m=some es→AllOb es→(l.map (·.1)).map h=m→
  (∀k b,h k=some b→s.F k=(fun o=>iA (nthA b.cells o))∧s.G k=(fun o=>bA (nthA b.cells o)))→∃bs,m=bs.map some∧(l.map (·.1)).zip bs=filM2 s l
 | [],[],_,_,_,_,_,_=>⟨[],rfl,rfl⟩
 | [],_::_,_,_,h,_,_,_=>by simp [matBs2] at h
 | (i,p)::l,[],_,_,h,_,_,_=>by simp [matBs2] at h
 | (i,p)::l,none::m,_,_,h,_,_,_=>by simp [matBs2] at h
 | (i,p)::l,some b::m,hh,es,h,hq,he,hs=>by
  unfold matBs2 at h
  split at h
  ·rename_i es1 h1
   split at h
   ·rename_i es2 h2
    cases h
    simp only [List.map_cons,List.cons.injEq] at he
    have e:=matB2_ok h1 hq.left
    obtain ⟨bs,g1,g2⟩:=matBs2_ok h2 hq.right he.2 hs
    have h2:=hs i b he.1
    refine ⟨b::bs,by simp [g1], ?_⟩
    simp only [List.map_cons,List.zip_cons_cons,filM2]
    rw [g2,h2.1,h2.2,←e]
   ·cases h
  ·cases h
def openC:List Bool→List (Bool×Bool)→Option (List (Bool×Bool))
 | [],[]=>some []
 | true::m,c::l=>match openC m l with
  | some r=>some (c::r)
  | none=>none
 | false::m,(true,true)::l=>openC m l
 | false::m,(false,false)::l=>openC m l
 | _,_=>none
theorem openC_ok:∀{m:List Bool} {l r:List (Bool×Bool)},openC m l=some r→(∀c∈r,c.1=c.2)→∀c∈l,c.1=c.2
 | [],[],_,_,_,c,hc=>by cases hc
 | [],_::_,_,h,_,_,_=>by simp [openC] at h
 | true::m,[],_,h,_,_,_=>by simp [openC] at h
 | true::m,c::l,r,h,hr,d,hd=>by
  simp only [openC] at h
  split at h
  ·rename_i r' h1
   cases h
   rcases List.mem_cons.1 hd with rfl | hd
   ·exact hr _ (List.mem_cons_self ..)
   ·exact openC_ok h1 (fun c hc=>hr c (List.mem_cons_of_mem _ hc)) d hd
  ·cases h
 | false::m,[],_,h,_,_,_=>by simp [openC] at h
 | false::m,(true,true)::l,r,h,hr,d,hd=>by
  simp only [openC] at h
  rcases List.mem_cons.1 hd with rfl | hd
  ·rfl
  ·exact openC_ok h hr d hd
 | false::m,(false,false)::l,r,h,hr,d,hd=>by
  simp only [openC] at h
  rcases List.mem_cons.1 hd with rfl | hd
  ·rfl
  ·exact openC_ok h hr d hd
 | false::m,(true,false)::l,r,h,_,_,_=>by simp [openC] at h
 | false::m,(false,true)::l,r,h,_,_,_=>by simp [openC] at h
def stageO (p:PS2) (e:Ex) (mask:List Bool) (r:Option (Ex×List LV×List (Option Blk)×List (Bool×Bool))):Option (List (Bool×Bool)×List Ob):=
 match r with
 | some (e0,vs,bs,cs)=>match exB e0 e with
  | true=>match matVs2 p.live vs with
   | some es=>match matBs2 p.mem bs with
    | some fs=>match openC mask cs with
     | some os=>some (os,es++fs)
     | none=>none
    | none=>none
   | none=>none
  | false=>none
 | none=>none
def Fil2 (p:PS2) (B:Kst):Prop:=∃s,B=filS2 s p
section
variable {P:Program} {S:FuncId→Option SumK} {z:Md} {sz:Nat}
theorem ToP.run2 (hs:Sound P S) {c:Code} {A:Kst} {e:Ex} {p:PS2} {n:Nat} {dec:List (Option Bool)} {mask:List Bool} {os:List (Bool×Bool)} {es:List Ob}
  (hrun:∀dead,stageO p e mask (projS (p.live.map (·.1)) (p.mem.map (·.1)) (Go.Lr.exec P S z n (.code c) (A.st sz dead dec)))=some (os,es))
  (hos:∀c∈os,c.1=c.2) (hes:AllOb es) (hB:∀s,KstOK (filS2 s p)) (hnb:Nat.ble A.nb p.nb=true):ToP P sz c A e (Fil2 p):=by
 intro E a w hk Q hQ
 have hr:=hk.toR dec
 have h:=hrun fun t=>a.tmps.getD t undef
 cases hp:projS (p.live.map (·.1)) (p.mem.map (·.1)) (Go.Lr.exec P S z n (.code c) (A.st sz (fun t=>a.tmps.getD t undef) dec)) with
 | none=>rw [hp] at h;cases h
 | some q=>
  obtain ⟨e0,vs,bs,cs⟩:=q
  rw [hp] at h
  simp only [stageO] at h
  split at h
  ·rename_i he
   split at h
   ·rename_i es1 hv
    split at h
    ·rename_i es2 hb
     split at h
     ·rename_i os' ho
      simp only [Option.some.injEq,Prod.mk.injEq] at h
      obtain ⟨rfl,rfl⟩:=h
      have hcs:=openC_ok ho hos
      have:=exB_ok he
      subst this
      unfold projS at hp
      split at hp
      ·rename_i e' s' hex
       simp only [Option.some.injEq,Prod.mk.injEq] at hp
       obtain ⟨rfl,gv,gb,rfl⟩:=hp
       obtain ⟨e2,q1,q2,q3,q4,q5,q6⟩:=(exec_sound (binOK P) hs.sums hs.mix hs.ng n).1 c _ _ s' hex hk.le hr.st
       cases q1
       let s:Asg:=⟨fun k o=>iA (nthA ((getM s'.mem k).elim [] (·.cells)) o),fun k o=>bA (nthA ((getM s'.mem k).elim [] (·.cells)) o),fun k o=>iA (nthA (vCells (getT s'.tm k)) o),fun k o=>bA (nthA (vCells (getT s'.tm k)) o)⟩
       have e1:(p.live.map (·.1)).zip vs=filVs2 s p.live:=matVs2_ok (h:=getT s'.tm) hv hes.left gv fun k=>⟨rfl,rfl⟩
       obtain ⟨bs',rfl,e3⟩:=matBs2_ok (s:=s) (h:=getM s'.mem) hb hes.right gb fun k b hb=>⟨by show (fun o=>iA (nthA ((getM s'.mem k).elim [] (·.cells)) o))=_;rw [hb];rfl,by show (fun o=>bA (nthA ((getM s'.mem k).elim [] (·.cells)) o))=_;rw [hb];rfl⟩
       have hB':KstOK ⟨(p.live.map (·.1)).zip vs,(p.mem.map (·.1)).zip bs',p.nb⟩:=by rw [e1,e3];exact hB s
       have hnb':=Nat.le_of_ble_eq_true hnb
       refine q6 hcs E a w hr Q fun E' a' w' hr' hx=> ?_
       have hsub:=zip_getM (p.mem.map (·.1)) bs' (getM s'.mem) gb
       refine hQ (filS2 s p) ⟨s,rfl⟩ E' a' w' ?_ ?_
       ·have:filS2 s p=⟨(p.live.map (·.1)).zip vs,(p.mem.map (·.1)).zip bs',p.nb⟩:=by rw [e1,e3];rfl
        rw [this]
        refine ⟨hB',hr'.size.trans q4,hk.le,hr'.defers,fun q hq=> ?_,⟨fun i b hib=>hr'.m.rel.blk i b (hsub i b hib),fun i j hi hj he=>hr'.m.rel.inj i j ?_ ?_ he⟩⟩
        ·rw [hr'.tm q.1,zip_getT (p.live.map (·.1)) vs (getT s'.tm) gv q hq]
        ·obtain ⟨b,hib⟩:=Option.isSome_iff_exists.1 hi;simp [hsub i b hib]
        ·obtain ⟨b,hjb⟩:=Option.isSome_iff_exists.1 hj;simp [hsub j b hjb]
       ·have:(filS2 s p).ms=(Kst.mk ((p.live.map (·.1)).zip vs) ((p.mem.map (·.1)).zip bs') p.nb).ms:=by rw [e1,e3];rfl
        rw [this]
        refine ⟨hnb',hx.agree,hx.os,hx.tape,hx.output,hx.size,hx.frame,fun i hi=>hx.src i ?_⟩
        obtain ⟨b,hib⟩:=Option.isSome_iff_exists.1 hi
        simp [hsub i b hib]
      ·cases hp
     ·cases h
    ·cases h
   ·cases h
  ·cases h
end
abbrev qI (n:Int):P2:= .old (.lit (.int .i64 n))
abbrev qL (a:At):P2:= .old (.lit a)
abbrev qB (x:Bool):P2:= .old (.lit (.bool x))
abbrev qH:P2:= .old .hi
abbrev qO:P2:= .old .hb
abbrev qS (x:Int):P2:= .sym x
abbrev qR (a:At):P2:= .raw a
def rq:Nat→P2→List P2
 | 0,_=>[]
 | n+1,p=>p::rq n p
end Go.Lr

/- Summaries of the filter's parts, by formula, where nothing much happens: a good sample, an empty buffer, a sensor that was not heard of. -/
namespace Go.Proofs.YtfepmlklbapfiaaGreat
open Go.Lr
set_option linter.unusedVariables false
def goodB (T D a0 a1 a2 d0 d1 d2:Int):Bool:= !decide (fabsV a0>34359738368) && !decide (fabsV a1>34359738368) && !decide (fabsV a2>34359738368) && !decide (fabsV d0>34359738368) && !decide (fabsV d1>34359738368) && !decide (fabsV d2>34359738368)&&decide (D≥1)&&decide (D≤100000)&&decide (T≥0)&&decide (T≤1125899906842624)
def goodS:List LV→Option (LV×List (Bool×Bool))
 | [.v (.agg [.int .i64 T,.int .i64 D,.int .i64 a0,.int .i64 a1,.int .i64 a2,.int .i64 d0,.int .i64 d1,.int .i64 d2])]=>some (.v (.one (.bool true)),[(goodB T D a0 a1 a2 d0 d1 d2,true)])
 | _=>none
theorem goodR (T D a0 a1 a2 d0 d1 d2:Int):(runF Tryz.prog K16u Zl 4000 52 [.v (.agg [.int .i64 T,.int .i64 D,.int .i64 a0,.int .i64 a1,.int .i64 a2,.int .i64 d0,.int .i64 d1,.int .i64 d2])] [] 0 (nn 1 (ff 8 (nn 1 (ff 8 (nn 1 (ff 8 (nn 1 (tt 12 []))))))))).map (fun r=>(r.1,r.2.2.2))=some (.v (.one (.bool (decide (T≤1125899906842624)))),(ra 4 (decide (T≥0),true) (ra 4 (decide (D≤100000),true) (ra 4 (decide (D≥1),true) ((decide (fabsV d2>34359738368),false)::ra 7 (decide (fabsV a2>34359738368),false) ((decide (fabsV d1>34359738368),false)::ra 7 (decide (fabsV a1>34359738368),false) ((decide (fabsV d0>34359738368),false)::ra 7 (decide (fabsV a0>34359738368),false) []))))))):=by kernel_rfl
theorem sumGood:SumOK Tryz.prog 52 (pureSum goodS):=by
 refine pureSum_run (z:=Zl) soundK16u (own_of soundK16u Tryz.func52 (by kernel_rfl)) fun args v cs hF hc=> ?_
 unfold goodS at hF
 split at hF
 ·rename_i T D a0 a1 a2 d0 d1 d2
  cases hF
  have h:=hd_of hc
  simp only [goodB,Bool.and_eq_true,Bool.not_eq_true'] at h
  obtain ⟨⟨⟨⟨⟨⟨⟨⟨⟨ha0,ha1⟩,ha2⟩,hd0⟩,hd1⟩,hd2⟩,hD1⟩,hD2⟩,hT1⟩,hT2⟩:=h
  have r:=goodR T D a0 a1 a2 d0 d1 d2
  rw [hT2] at r
  exact ⟨4000,_,_,r,(ra_ok hT1 (ra_ok hD2 (ra_ok hD1 (ae_cons hd2 (ra_ok ha2 (ae_cons hd1 (ra_ok ha1 (ae_cons hd0 (ra_ok ha0 ae_nil _)) _)) _)) _) _) _)⟩
 ·cases hF
noncomputable def G1:FuncId→Option SumK:=more K37u 52 (pureSum goodS)
theorem soundG1:Sound Tryz.prog G1:=soundK37u.more sumGood
def popF (k:Blk) (rest:List LV):Option (LV×Blk×List (Bool×Bool)):=
 match k,rest with
 | ⟨t,(0,0),0,[.int .i64 a,.int .i64 b,.int .i64 c,.int .i64 d,.int .i64 e,.int .i64 f,.nilsl,.int .i64 h]⟩,[.v (.one (.int .i64 u))]=>match Nat.beq t 193 with
  | true=>some (.v (.one .nilsl),⟨193,(0,0),0,[.int .i64 a,.int .i64 b,.int .i64 c,.int .i64 d,.int .i64 (wr .i64 (e+0)),.int .i64 f,.nilsl,.int .i64 (if u>h then u else h)]⟩,[])
  | false=>none
 | _,_=>none
theorem popR (a b c d e f h u:Int):(runF Tryz.prog K29u Zl 4000 59 [A0,I u] [(0,⟨193,(0,0),0,[.int .i64 a,.int .i64 b,.int .i64 c,.int .i64 d,.int .i64 e,.int .i64 f,.nilsl,.int .i64 h]⟩)] 1 []).map (fun r=>(r.1,getM r.2.1 0,r.2.2.2))=some (.v (.one .nilsl),some ⟨193,(0,0),0,[.int .i64 a,.int .i64 b,.int .i64 c,.int .i64 d,.int .i64 (wr .i64 (e+0)),.int .i64 f,.nilsl,.int .i64 (if u>h then u else h)]⟩,[]):=by kernel_rfl
theorem map3 {r:Option (LV×Mem×Nat×List (Bool×Bool))} {v:LV} {k:Option Blk} {cs:List (Bool×Bool)} (h:r.map (fun r=>(r.1,getM r.2.1 0,r.2.2.2))=some (v,k,cs)):∃m nb,r=some (v,m,nb,cs)∧getM m 0=k:=by
 cases r with
 | none=>cases h
 | some q=>
  obtain ⟨a,b,c,d⟩:=q
  simp only [Option.map_some,Option.some.injEq,Prod.mk.injEq] at h
  obtain ⟨rfl,rfl,rfl⟩:=h
  exact ⟨b,c,rfl,rfl⟩
theorem genPop:GenOK Tryz.prog 59 (genOf (fM popF)):=by
 refine genOf_ok (fM_ok (z:=Zl) soundK29u (own_of soundK29u Tryz.func59 (by kernel_rfl)) fun k rest v k' cs hF hc hp=> ?_)
 unfold popF at hF
 split at hF
 ·split at hF
  ·rename_i ht
   cases hF
   have:=Nat.eq_of_beq_eq_true ht
   subst this
   obtain ⟨m,nb,h1,h2⟩:=map3 (popR _ _ _ _ _ _ _ _)
   exact ⟨rfl,rfl,rfl,rfl,4000,[],m,nb,[],h1,h2,by simp⟩
  ·cases hF
 ·cases hF
noncomputable def G2:FuncId→Option SumK:=moreG G1 59 (orGen (genOf (fM popF)) (autoA Tryz.prog K29u Zl 4000 59))
theorem soundG2:Sound Tryz.prog G2:=soundG1.moreG (orGen_ok genPop (autoA_ok soundK29u (own_of soundK29u Tryz.func59 (by kernel_rfl))))
def mon6 (s0 s1 s2 s3 s4 s5:Bool) (x:Nat→Int):List At:= .int .i64 (x 0):: .int .i64 (x 1):: .bool s0:: .int .i64 (x 3):: .int .i64 (x 4):: .int .i64 (x 5):: .int .i64 (x 6):: .int .i64 (x 7):: .bool s1:: .int .i64 (x 9):: .int .i64 (x 10):: .int .i64 (x 11):: .int .i64 (x 12):: .int .i64 (x 13):: .bool s2:: .int .i64 (x 15):: .int .i64 (x 16):: .int .i64 (x 17):: .int .i64 (x 18):: .int .i64 (x 19):: .bool s3:: .int .i64 (x 21):: .int .i64 (x 22):: .int .i64 (x 23):: .int .i64 (x 24):: .int .i64 (x 25):: .bool s4:: .int .i64 (x 27):: .int .i64 (x 28):: .int .i64 (x 29):: .int .i64 (x 30):: .int .i64 (x 31):: .bool s5:: .int .i64 (x 33):: .int .i64 (x 34):: .int .i64 (x 35):: .int .i64 (x 36)::[]
def monS (l:List At):Option (Bool×Bool×Bool×Bool×Bool×Bool):=match l with
 | .int .i64 _:: .int .i64 _:: .bool s0:: .int .i64 _:: .int .i64 _:: .int .i64 _:: .int .i64 _:: .int .i64 _:: .bool s1:: .int .i64 _:: .int .i64 _:: .int .i64 _:: .int .i64 _:: .int .i64 _:: .bool s2:: .int .i64 _:: .int .i64 _:: .int .i64 _:: .int .i64 _:: .int .i64 _:: .bool s3:: .int .i64 _:: .int .i64 _:: .int .i64 _:: .int .i64 _:: .int .i64 _:: .bool s4:: .int .i64 _:: .int .i64 _:: .int .i64 _:: .int .i64 _:: .int .i64 _:: .bool s5:: .int .i64 _:: .int .i64 _:: .int .i64 _:: .int .i64 _::[]=>some (s0,s1,s2,s3,s4,s5)
 | _=>none
theorem monS_ok {l:List At} {s0 s1 s2 s3 s4 s5:Bool} (h:monS l=some (s0,s1,s2,s3,s4,s5)):l=mon6 s0 s1 s2 s3 s4 s5 (intAt l):=by
 unfold monS at h
 split at h
 ·cases h;rfl
 ·cases h
theorem usR0 (s1 s2 s3 s4 s5:Bool) (x:Nat→Int) (n:Int):(runF Tryz.prog K31u Zl 4000 61 [A0,I 0,I n] [(0,⟨165,(0,0),0,mon6 false s1 s2 s3 s4 s5 x⟩)] 1 []).map (fun r=>(r.1,getM r.2.1 0,r.2.2.2))=some (.v (.one (.bool false)),some ⟨165,(0,0),0,mon6 false s1 s2 s3 s4 s5 x⟩,[]):=by kernel_rfl
theorem usR1 (s0 s2 s3 s4 s5:Bool) (x:Nat→Int) (n:Int):(runF Tryz.prog K31u Zl 4000 61 [A0,I 1,I n] [(0,⟨165,(0,0),0,mon6 s0 false s2 s3 s4 s5 x⟩)] 1 []).map (fun r=>(r.1,getM r.2.1 0,r.2.2.2))=some (.v (.one (.bool false)),some ⟨165,(0,0),0,mon6 s0 false s2 s3 s4 s5 x⟩,[]):=by kernel_rfl
theorem usR2 (s0 s1 s3 s4 s5:Bool) (x:Nat→Int) (n:Int):(runF Tryz.prog K31u Zl 4000 61 [A0,I 2,I n] [(0,⟨165,(0,0),0,mon6 s0 s1 false s3 s4 s5 x⟩)] 1 []).map (fun r=>(r.1,getM r.2.1 0,r.2.2.2))=some (.v (.one (.bool false)),some ⟨165,(0,0),0,mon6 s0 s1 false s3 s4 s5 x⟩,[]):=by kernel_rfl
theorem usR3 (s0 s1 s2 s4 s5:Bool) (x:Nat→Int) (n:Int):(runF Tryz.prog K31u Zl 4000 61 [A0,I 3,I n] [(0,⟨165,(0,0),0,mon6 s0 s1 s2 false s4 s5 x⟩)] 1 []).map (fun r=>(r.1,getM r.2.1 0,r.2.2.2))=some (.v (.one (.bool false)),some ⟨165,(0,0),0,mon6 s0 s1 s2 false s4 s5 x⟩,[]):=by kernel_rfl
theorem usR4 (s0 s1 s2 s3 s5:Bool) (x:Nat→Int) (n:Int):(runF Tryz.prog K31u Zl 4000 61 [A0,I 4,I n] [(0,⟨165,(0,0),0,mon6 s0 s1 s2 s3 false s5 x⟩)] 1 []).map (fun r=>(r.1,getM r.2.1 0,r.2.2.2))=some (.v (.one (.bool false)),some ⟨165,(0,0),0,mon6 s0 s1 s2 s3 false s5 x⟩,[]):=by kernel_rfl
theorem usR5 (s0 s1 s2 s3 s4:Bool) (x:Nat→Int) (n:Int):(runF Tryz.prog K31u Zl 4000 61 [A0,I 5,I n] [(0,⟨165,(0,0),0,mon6 s0 s1 s2 s3 s4 false x⟩)] 1 []).map (fun r=>(r.1,getM r.2.1 0,r.2.2.2))=some (.v (.one (.bool false)),some ⟨165,(0,0),0,mon6 s0 s1 s2 s3 s4 false x⟩,[]):=by kernel_rfl
def usI (i:Int) (b:Bool×Bool×Bool×Bool×Bool×Bool):Bool:=match i,b with
 | .ofNat 0,(false,_,_,_,_,_)=>true
 | .ofNat 1,(_,false,_,_,_,_)=>true
 | .ofNat 2,(_,_,false,_,_,_)=>true
 | .ofNat 3,(_,_,_,false,_,_)=>true
 | .ofNat 4,(_,_,_,_,false,_)=>true
 | .ofNat 5,(_,_,_,_,_,false)=>true
 | _,_=>false
def usF (k:Blk) (rest:List LV):Option (LV×Blk×List (Bool×Bool)):=
 match rest,k with
 | [.v (.one (.int .i64 i)),.v (.one (.int .i64 n))],⟨ty,(0,0),0,l⟩=>match Nat.beq ty 165 with
  | true=>match monS l with
   | some b=>match usI i b with
    | true=>some (.v (.one (.bool false)),⟨ty,(0,0),0,l⟩,[])
    | false=>none
   | none=>none
  | false=>none
 | _,_=>none
theorem genUs:GenOK Tryz.prog 61 (genOf (fM usF)):=by
 refine genOf_ok (fM_ok (z:=Zl) soundK31u (own_of soundK31u Tryz.func61 (by kernel_rfl)) fun k rest v k' cs hF hc hp=> ?_)
 unfold usF at hF
 split at hF
 ·rename_i i n ty l
  split at hF
  ·rename_i ht
   have ht:=Nat.eq_of_beq_eq_true ht
   subst ht
   split at hF
   ·rename_i b hb
    split at hF
    ·rename_i hi
     cases hF
     unfold usI at hi
     split at hi
     ·have e:=monS_ok hb
      obtain ⟨m,nb,h2,h3⟩:=map3 (usR0 _ _ _ _ _ (intAt l) n)
      rw [e]
      exact ⟨rfl,rfl,rfl,rfl,4000,[],m,nb,[],h2,h3,by simp⟩
     ·have e:=monS_ok hb
      obtain ⟨m,nb,h2,h3⟩:=map3 (usR1 _ _ _ _ _ (intAt l) n)
      rw [e]
      exact ⟨rfl,rfl,rfl,rfl,4000,[],m,nb,[],h2,h3,by simp⟩
     ·have e:=monS_ok hb
      obtain ⟨m,nb,h2,h3⟩:=map3 (usR2 _ _ _ _ _ (intAt l) n)
      rw [e]
      exact ⟨rfl,rfl,rfl,rfl,4000,[],m,nb,[],h2,h3,by simp⟩
     ·have e:=monS_ok hb
      obtain ⟨m,nb,h2,h3⟩:=map3 (usR3 _ _ _ _ _ (intAt l) n)
      rw [e]
      exact ⟨rfl,rfl,rfl,rfl,4000,[],m,nb,[],h2,h3,by simp⟩
     ·have e:=monS_ok hb
      obtain ⟨m,nb,h2,h3⟩:=map3 (usR4 _ _ _ _ _ (intAt l) n)
      rw [e]
      exact ⟨rfl,rfl,rfl,rfl,4000,[],m,nb,[],h2,h3,by simp⟩
     ·have e:=monS_ok hb
      obtain ⟨m,nb,h2,h3⟩:=map3 (usR5 _ _ _ _ _ (intAt l) n)
      rw [e]
      exact ⟨rfl,rfl,rfl,rfl,4000,[],m,nb,[],h2,h3,by simp⟩
     ·cases hi
    ·cases hF
   ·cases hF
  ·cases hF
 ·cases hF
noncomputable def G3:FuncId→Option SumK:=moreG G2 61 (orGen (genOf (fM usF)) (autoA Tryz.prog K31u Zl 4000 61))
theorem soundG3:Sound Tryz.prog G3:=soundG2.moreG (orGen_ok genUs (autoA_ok soundK31u (own_of soundK31u Tryz.func61 (by kernel_rfl))))
noncomputable def KPg:FuncId→Option SumK:=more K25u 52 (pureSum goodS)
theorem soundKPg:Sound Tryz.prog KPg:=soundK25u.more sumGood
def decPut:List (Option Bool):=(nn 16 (ff 1 (nn 1 [])))
noncomputable def G4:FuncId→Option SumK:=moreG G3 26 (narG 1 67 (autoAD Tryz.prog KPg Zl 4000 26 decPut))
theorem soundG4:Sound Tryz.prog G4:=soundG3.moreG (narG_ok (autoAD_ok soundKPg (own_of soundKPg Tryz.func26 (by kernel_rfl))))
end Go.Proofs.YtfepmlklbapfiaaGreat

/- astrolabetop.awake: stage by stage; numbers behind the tilt do not matter. -/
namespace Go.Proofs.YtfepmlklbapfiaaGreat
open Go.Lr
set_option linter.unusedVariables false
def zF:Md:=⟨false,false,false⟩
def wPar:List Go.Lr.P1:=[pI 8000,pI 40000,pI 16]++rp 7 (pI 5)++[pI 1000000,pI 1000000,pI 1000000,pI 1000000,pI 1000000,pI 1000000,pI 1048576,pI 1048576,pI 1048576,pI 1048576,pI 17179869184,pI 17179869184,pI 17179869184,pI 16384,pI 16384,pI 16384,pI 1024,pI 1024,pI 1024,pI 65536,pI 65536,pI 65536,pI 16384,pI 16384,pI 16384,pI 16384,pI 16384,pI 16384,pI 17179869184,pI 17179869184,pI 68719476736,pI 68719476736,pI 68719476736,pI 68719476736,pI 17592186044416,pI 17592186044416,pI 17592186044416,pI 17592186044416,pI 17592186044416,pI 17592186044416,pI 67108864,pI 67108864,pI 67108864,pI 4294967296,pI 4294967296,pI 4294967296,pI 17179869184,pI 17179869184,pI 17179869184,pI 17179869184,pI 17179869184,pI 17179869184,pI 17592186044416,pI 17592186044416,pI 5000000,pI 68719476736,pI 1,pI 268435456,pI 32,pI 0,pI 0,pI 0]
def wVar:List Go.Lr.P1:=[pI 68719476736,pI 68719476736,pI 68719476736,pI 68719476736,pI 17592186044416,pI 17592186044416,pI 17592186044416,pI 17592186044416,pI 17592186044416,pI 17592186044416,pI 67108864,pI 67108864,pI 67108864,pI 4294967296,pI 4294967296,pI 4294967296,pI 17179869184,pI 17179869184,pI 17179869184,pI 17179869184,pI 17179869184,pI 17179869184,pI 17592186044416,pI 17592186044416]
def wMon:List Go.Lr.P1:=[pI 0,pI 0,pB false,pI 0,pI 1000000,pI 5,pI 0,pI 0,pB false,pI 1,pI 1000000,pI 5,pI 0,pI 0,pB false,pI 2,pI 1000000,pI 5,pI 0,pI 0,pB false,pI 3,pI 1000000,pI 5,pI 0,pI 0,pB false,pI 4,pI 1000000,pI 5,pI 0,pI 0,pB false,pI 5,pI 1000000,pI 5,pI 0]
def wImu:List Go.Lr.P1:=[pI 8000,pI 0,pI 0,pI 0,pI 0,pI 0,pI (-84238486)]
def wPtr:List Go.Lr.P1:=[pL (.ptr 20 0),pL (.ptr 21 0),pL (.ptr 22 0),pL (.ptr 23 0),pL (.ptr 24 0),pL (.ptr 25 0),pL (.ptr 18 0)]
def wSum:List Go.Lr.P1:=[pI 1073741824]++rp 9 (pI 0)++[pL .nilsl]
def wFr:Nat×PB:=(16,⟨189,(0,0),0,[pI 0,pI 0,pI 0,pI 12157770197,pI 12239707452]⟩)
def wMo:Nat×PB:=(18,⟨165,(0,0),0,wMon⟩)
def wBuf (h:Int):List (Nat×PB):=[(20,⟨193,(0,0),0,[pI 0,pI 0,pI 0,pI 0,pI 0,pI 16,pL .nilsl,pI h]⟩),(21,⟨193,(0,0),0,[pI 0,pI 0,pI 0,pI 0,pI 0,pI 16,pL .nilsl,pI h]⟩),(22,⟨193,(0,0),0,[pI 0,pI 0,pI 0,pI 0,pI 0,pI 16,pL .nilsl,pI h]⟩),(23,⟨193,(0,0),0,[pI 0,pI 0,pI 0,pI 0,pI 0,pI 16,pL .nilsl,pI h]⟩),(24,⟨193,(0,0),0,[pI 0,pI 0,pI 0,pI 0,pI 0,pI 16,pL .nilsl,pI h]⟩),(25,⟨193,(0,0),0,[pI 0,pI 0,pI 0,pI 0,pI 0,pI 16,pL .nilsl,pI h]⟩)]
def pw_w0:PS:=⟨[],[],0⟩
theorem tw_w0 (s:Asg):ToP Tryz.prog 44 (c1 (bodyF Tryz.prog 6)) (⟨[],[],0⟩:Kst) .normal (Fil pw_w0):=ToP.run (z:=zF) (n:=20000) (dec:=[]) soundK37u (fun dead=>by kernel_rfl) (fun s=>by kernel_rfl) (by kernel_rfl)
def pw_w1:PS:=⟨[(1,.one (pL (.ptr 9 0))),(2,.one (pI 0))],[(9,⟨99,(0,0),0,wPar++[pB false,pI 1073741824]++rp 299 (pI 0)++wVar++[pL (.ptr 16 0),pL (.ptr 17 0),pL .nilsl]++wPtr++[pI 0,pI 0,pB false,pB false,pL (.ptr 19 0),pB false,pI 0,pI 0,pI 0,pI 0,pB false,pB false,pB false,pI 0,pI 0,pI 0]++wSum⟩),wFr,(17,⟨133,(0,0),0,[pI 8000]++rp 8 (pI 0)++[pB false]⟩),wMo,(19,⟨136,(0,0),0,[pI 32,pI 268435456,pL .nilsl]⟩)]++wBuf (-9223372036854775808),26⟩
theorem tw_w1 (s:Asg):ToP Tryz.prog 44 (c1 (c2 (bodyF Tryz.prog 6))) (filS s pw_w0) .normal (Fil pw_w1):=ToP.run (z:=zF) (n:=20000) (dec:=[]) soundK37u (fun dead=>by kernel_rfl) (fun s=>by kernel_rfl) (by kernel_rfl)
def pw_w2:PS:=⟨[(1,.one (pL (.ptr 9 0)))],[(9,⟨99,(0,0),0,wPar++[pB false,pI 1073741824]++rp 299 (pI 0)++wVar++[pL (.ptr 16 0),pL (.ptr 17 0),pL .nilsl]++wPtr++[pI 0,pI 0,pB false,pB false,pL (.ptr 19 0),pB false,pI 0,pI 0,pI 0,pI 0,pB false,pB false,pB false,pI 0,pI 0,pI 0]++wSum⟩),wFr,(17,⟨133,(0,0),0,[pI 8000]++rp 8 (pI 0)++[pB false]⟩),wMo,(19,⟨136,(0,0),0,[pI 32,pI 268435456,pL .nilsl]⟩)]++wBuf (-9223372036854775808),26⟩
theorem tw_w2 (s:Asg):ToP Tryz.prog 44 (c1 (c2 (c2 (bodyF Tryz.prog 6)))) (filS s pw_w1) .normal (Fil pw_w2):=ToP.run (z:=zF) (n:=20000) (dec:=[]) soundK37u (fun dead=>by kernel_rfl) (fun s=>by kernel_rfl) (by kernel_rfl)
def pw_w3:PS:=⟨[(1,.one (pL (.ptr 9 0))),(3,.one (pI 1))],[(9,⟨99,(0,0),0,wPar++[pB false,pI 1073741824]++rp 299 (pI 0)++wVar++[pL (.ptr 16 0),pL (.ptr 17 0),pL .nilsl]++wPtr++[pI 0,pI 0,pB false,pB false,pL (.ptr 19 0),pB false,pI 0,pI 0,pI 0,pI 0,pB false,pB false,pB false,pI 0,pI 0,pI 0]++wSum⟩),wFr,(17,⟨133,(0,0),0,[pI 8000]++rp 8 (pI 0)++[pB false]⟩),wMo,(19,⟨136,(0,0),0,[pI 32,pI 268435456,pL .nilsl]⟩)]++wBuf (-9223372036854775808),26⟩
theorem tw_w3 (s:Asg):ToP Tryz.prog 44 (c1 (c1 (c2 (c2 (c2 (bodyF Tryz.prog 6)))))) (filS s pw_w2) .normal (Fil pw_w3):=ToP.run (z:=zF) (n:=20000) (dec:=[]) soundK37u (fun dead=>by kernel_rfl) (fun s=>by kernel_rfl) (by kernel_rfl)
def pw_r1:PS:=⟨[(1,.one (pL (.ptr 9 0))),(3,.one (pI 2))],[(9,⟨99,(0,0),0,wPar++[pB false,pI 1073741824]++rp 299 (pI 0)++wVar++[pL (.ptr 16 0),pL (.ptr 17 0),pL (.slu 32 1)]++wPtr++[pI 0,pI 0,pB false,pB false,pL (.ptr 19 0),pB false,pI 0,pI 0,pI 0,pI 0,pB false,pB false,pB false,pI 0,pI 0,pI 0]++wSum⟩),wFr,(17,⟨133,(0,0),0,[pI 8000,pI 8000]++rp 7 (pI 0)++[pB true]⟩),wMo,(19,⟨136,(0,0),0,[pI 32,pI 268435456,pL .nilsl]⟩)]++wBuf (-9223372036854775808)++[(32,⟨36,(0,0),8,[pI 8000]++wImu⟩)],33⟩
theorem tw_r1 (s:Asg):ToP Tryz.prog 44 (c1 (c1 (c2 (c1 (c2 (c2 (c2 (bodyF Tryz.prog 6)))))))) (filS s pw_w3) .normal (Fil pw_r1):=ToP.run (z:=zF) (n:=20000) (dec:=[]) soundK37u (fun dead=>by kernel_rfl) (fun s=>by kernel_rfl) (by kernel_rfl)
def pw_r2:PS:=⟨[(1,.one (pL (.ptr 9 0))),(3,.one (pI 3))],[(9,⟨99,(0,0),0,wPar++[pB false,pI 1073741824]++rp 299 (pI 0)++wVar++[pL (.ptr 16 0),pL (.ptr 17 0),pL (.slu 39 2)]++wPtr++[pI 0,pI 0,pB false,pB false,pL (.ptr 19 0),pB false,pI 0,pI 0,pI 0,pI 0,pB false,pB false,pB false,pI 0,pI 0,pI 0]++wSum⟩),wFr,(17,⟨133,(0,0),0,[pI 8000,pI 16000]++rp 7 (pI 0)++[pB true]⟩),wMo,(19,⟨136,(0,0),0,[pI 32,pI 268435456,pL .nilsl]⟩)]++wBuf (-9223372036854775808)++[(39,⟨36,(0,0),8,[pI 8000]++wImu++[pI 16000]++wImu⟩)],40⟩
theorem tw_r2 (s:Asg):ToP Tryz.prog 44 (c1 (c1 (c2 (c1 (c2 (c2 (c2 (bodyF Tryz.prog 6)))))))) (filS s pw_r1) .normal (Fil pw_r2):=ToP.run (z:=zF) (n:=20000) (dec:=[]) soundK37u (fun dead=>by kernel_rfl) (fun s=>by kernel_rfl) (by kernel_rfl)
def pw_r3:PS:=⟨[(1,.one (pL (.ptr 9 0))),(3,.one (pI 4))],[(9,⟨99,(0,0),0,wPar++[pB false,pI 1073741824]++rp 299 (pI 0)++wVar++[pL (.ptr 16 0),pL (.ptr 17 0),pL (.slu 46 3)]++wPtr++[pI 0,pI 0,pB false,pB false,pL (.ptr 19 0),pB false,pI 0,pI 0,pI 0,pI 0,pB false,pB false,pB false,pI 0,pI 0,pI 0]++wSum⟩),wFr,(17,⟨133,(0,0),0,[pI 8000,pI 24000]++rp 7 (pI 0)++[pB true]⟩),wMo,(19,⟨136,(0,0),0,[pI 32,pI 268435456,pL .nilsl]⟩)]++wBuf (-9223372036854775808)++[(46,⟨36,(0,0),8,[pI 8000]++wImu++[pI 16000]++wImu++[pI 24000]++wImu⟩)],47⟩
theorem tw_r3 (s:Asg):ToP Tryz.prog 44 (c1 (c1 (c2 (c1 (c2 (c2 (c2 (bodyF Tryz.prog 6)))))))) (filS s pw_r2) .normal (Fil pw_r3):=ToP.run (z:=zF) (n:=20000) (dec:=[]) soundK37u (fun dead=>by kernel_rfl) (fun s=>by kernel_rfl) (by kernel_rfl)
def pw_r4:PS:=⟨[(1,.one (pL (.ptr 9 0))),(3,.one (pI 5))],[(9,⟨99,(0,0),0,wPar++[pB false,pI 1073741824]++rp 299 (pI 0)++wVar++[pL (.ptr 16 0),pL (.ptr 17 0),pL (.slu 53 4)]++wPtr++[pI 0,pI 0,pB false,pB false,pL (.ptr 19 0),pB false,pI 0,pI 0,pI 0,pI 0,pB false,pB false,pB false,pI 0,pI 0,pI 0]++wSum⟩),wFr,(17,⟨133,(0,0),0,[pI 8000,pI 32000]++rp 7 (pI 0)++[pB true]⟩),wMo,(19,⟨136,(0,0),0,[pI 32,pI 268435456,pL .nilsl]⟩)]++wBuf (-9223372036854775808)++[(53,⟨36,(0,0),8,[pI 8000]++wImu++[pI 16000]++wImu++[pI 24000]++wImu++[pI 32000]++wImu⟩)],54⟩
theorem tw_r4 (s:Asg):ToP Tryz.prog 44 (c1 (c1 (c2 (c1 (c2 (c2 (c2 (bodyF Tryz.prog 6)))))))) (filS s pw_r3) .normal (Fil pw_r4):=ToP.run (z:=zF) (n:=20000) (dec:=[]) soundK37u (fun dead=>by kernel_rfl) (fun s=>by kernel_rfl) (by kernel_rfl)
def pw_r5:PS:=⟨[(1,.one (pL (.ptr 9 0))),(3,.one (pI 6))],[(9,⟨99,(0,0),0,wPar++[pB false,pI 1073741824]++rp 299 (pI 0)++wVar++[pL (.ptr 16 0),pL (.ptr 17 0),pL (.slu 60 5)]++wPtr++[pI 0,pI 0,pB false,pB false,pL (.ptr 19 0),pB false,pI 0,pI 0,pI 0,pI 0,pB false,pB false,pB false,pI 0,pI 0,pI 0]++wSum⟩),wFr,(17,⟨133,(0,0),0,[pI 8000,pI 40000]++rp 7 (pI 0)++[pB true]⟩),wMo,(19,⟨136,(0,0),0,[pI 32,pI 268435456,pL .nilsl]⟩)]++wBuf (-9223372036854775808)++[(60,⟨36,(0,0),8,[pI 8000]++wImu++[pI 16000]++wImu++[pI 24000]++wImu++[pI 32000]++wImu++[pI 40000]++wImu⟩)],61⟩
theorem tw_r5 (s:Asg):ToP Tryz.prog 44 (c1 (c1 (c2 (c1 (c2 (c2 (c2 (bodyF Tryz.prog 6)))))))) (filS s pw_r4) .normal (Fil pw_r5):=ToP.run (z:=zF) (n:=20000) (dec:=[]) soundK37u (fun dead=>by kernel_rfl) (fun s=>by kernel_rfl) (by kernel_rfl)
def pw_r6:PS:=⟨[(1,.one (pL (.ptr 9 0))),(3,.one (pI 7))],[(9,⟨99,(0,0),0,wPar++[pB false,pI 1073741824]++rp 299 (pI 0)++wVar++[pL (.ptr 16 0),pL (.ptr 17 0),pL (.slu 69 5)]++wPtr++[pI 0,pI 0,pB false,pB false,pL (.ptr 19 0),pB false,pI 1,pI 0,pI 0,pI (-84238486),pB false,pB false,pB false,pI 0,pI 8000,pI 0]++wSum⟩),wFr,(17,⟨133,(0,0),0,[pI 8000,pI 48000]++rp 7 (pI 0)++[pB true]⟩),wMo,(19,⟨136,(0,0),0,[pI 32,pI 268435456,pL .nilsl]⟩)]++wBuf 8000++[(69,⟨36,(0,0),8,[pI 16000]++wImu++[pI 24000]++wImu++[pI 32000]++wImu++[pI 40000]++wImu++[pI 48000]++wImu⟩)],91⟩
theorem tw_r6 (s:Asg):ToP Tryz.prog 44 (c1 (c1 (c2 (c1 (c2 (c2 (c2 (bodyF Tryz.prog 6)))))))) (filS s pw_r5) .normal (Fil pw_r6):=ToP.run (z:=zF) (n:=20000) (dec:=[]) soundK37u (fun dead=>by kernel_rfl) (fun s=>by kernel_rfl) (by kernel_rfl)
def pw_r7:PS:=⟨[(1,.one (pL (.ptr 9 0))),(3,.one (pI 8))],[(9,⟨99,(0,0),0,wPar++[pB false,pI 1073741824]++rp 299 (pI 0)++wVar++[pL (.ptr 16 0),pL (.ptr 17 0),pL (.slu 99 5)]++wPtr++[pI 0,pI 0,pB false,pB false,pL (.ptr 19 0),pB false,pI 2,pI 0,pI 0,pI (-168476972),pB false,pB false,pB false,pI 0,pI 16000,pI 0]++wSum⟩),wFr,(17,⟨133,(0,0),0,[pI 8000,pI 56000]++rp 7 (pI 0)++[pB true]⟩),wMo,(19,⟨136,(0,0),0,[pI 32,pI 268435456,pL .nilsl]⟩)]++wBuf 16000++[(99,⟨36,(0,0),8,[pI 24000]++wImu++[pI 32000]++wImu++[pI 40000]++wImu++[pI 48000]++wImu++[pI 56000]++wImu⟩)],121⟩
theorem tw_r7 (s:Asg):ToP Tryz.prog 44 (c1 (c1 (c2 (c1 (c2 (c2 (c2 (bodyF Tryz.prog 6)))))))) (filS s pw_r6) .normal (Fil pw_r7):=ToP.run (z:=zF) (n:=20000) (dec:=[]) soundK37u (fun dead=>by kernel_rfl) (fun s=>by kernel_rfl) (by kernel_rfl)
def pw_r8:PS:=⟨[(1,.one (pL (.ptr 9 0))),(3,.one (pI 9))],[(9,⟨99,(0,0),0,wPar++[pB false,pI 1073741824]++rp 299 (pI 0)++wVar++[pL (.ptr 16 0),pL (.ptr 17 0),pL (.slu 129 5)]++wPtr++[pI 0,pI 0,pB false,pB false,pL (.ptr 19 0),pB false,pI 3,pI 0,pI 0,pI (-252715458),pB false,pB false,pB false,pI 0,pI 24000,pI 0]++wSum⟩),wFr,(17,⟨133,(0,0),0,[pI 8000,pI 64000]++rp 7 (pI 0)++[pB true]⟩),wMo,(19,⟨136,(0,0),0,[pI 32,pI 268435456,pL .nilsl]⟩)]++wBuf 24000++[(129,⟨36,(0,0),8,[pI 32000]++wImu++[pI 40000]++wImu++[pI 48000]++wImu++[pI 56000]++wImu++[pI 64000]++wImu⟩)],151⟩
theorem tw_r8 (s:Asg):ToP Tryz.prog 44 (c1 (c1 (c2 (c1 (c2 (c2 (c2 (bodyF Tryz.prog 6)))))))) (filS s pw_r7) .normal (Fil pw_r8):=ToP.run (z:=zF) (n:=20000) (dec:=[]) soundK37u (fun dead=>by kernel_rfl) (fun s=>by kernel_rfl) (by kernel_rfl)
def pw_r9:PS:=⟨[(1,.one (pL (.ptr 9 0))),(3,.one (pI 10))],[(9,⟨99,(0,0),0,wPar++[pB false,pI 1073741824]++rp 299 (pI 0)++wVar++[pL (.ptr 16 0),pL (.ptr 17 0),pL (.slu 159 5)]++wPtr++[pI 0,pI 0,pB false,pB false,pL (.ptr 19 0),pB false,pI 4,pI 0,pI 0,pI (-336953944),pB false,pB false,pB false,pI 0,pI 32000,pI 0]++wSum⟩),wFr,(17,⟨133,(0,0),0,[pI 8000,pI 72000]++rp 7 (pI 0)++[pB true]⟩),wMo,(19,⟨136,(0,0),0,[pI 32,pI 268435456,pL .nilsl]⟩)]++wBuf 32000++[(159,⟨36,(0,0),8,[pI 40000]++wImu++[pI 48000]++wImu++[pI 56000]++wImu++[pI 64000]++wImu++[pI 72000]++wImu⟩)],181⟩
theorem tw_r9 (s:Asg):ToP Tryz.prog 44 (c1 (c1 (c2 (c1 (c2 (c2 (c2 (bodyF Tryz.prog 6)))))))) (filS s pw_r8) .normal (Fil pw_r9):=ToP.run (z:=zF) (n:=20000) (dec:=[]) soundK37u (fun dead=>by kernel_rfl) (fun s=>by kernel_rfl) (by kernel_rfl)
def pw_r10:PS:=⟨[(1,.one (pL (.ptr 9 0))),(3,.one (pI 11))],[(9,⟨99,(0,0),0,wPar++[pB false,pI 1073741824]++rp 299 (pI 0)++wVar++[pL (.ptr 16 0),pL (.ptr 17 0),pL (.slu 189 5)]++wPtr++[pI 0,pI 0,pB false,pB false,pL (.ptr 19 0),pB false,pI 5,pI 0,pI 0,pI (-421192430),pB false,pB false,pB false,pI 0,pI 40000,pI 0]++wSum⟩),wFr,(17,⟨133,(0,0),0,[pI 8000,pI 80000]++rp 7 (pI 0)++[pB true]⟩),wMo,(19,⟨136,(0,0),0,[pI 32,pI 268435456,pL .nilsl]⟩)]++wBuf 40000++[(189,⟨36,(0,0),8,[pI 48000]++wImu++[pI 56000]++wImu++[pI 64000]++wImu++[pI 72000]++wImu++[pI 80000]++wImu⟩)],211⟩
theorem tw_r10 (s:Asg):ToP Tryz.prog 44 (c1 (c1 (c2 (c1 (c2 (c2 (c2 (bodyF Tryz.prog 6)))))))) (filS s pw_r9) .normal (Fil pw_r10):=ToP.run (z:=zF) (n:=20000) (dec:=[]) soundK37u (fun dead=>by kernel_rfl) (fun s=>by kernel_rfl) (by kernel_rfl)
def pw_r11:PS:=⟨[(1,.one (pL (.ptr 9 0))),(3,.one (pI 12))],[(9,⟨99,(0,0),0,wPar++[pB false,pI 1073741824]++rp 299 (pI 0)++wVar++[pL (.ptr 16 0),pL (.ptr 17 0),pL (.slu 219 5)]++wPtr++[pI 0,pI 0,pB false,pB false,pL (.ptr 19 0),pB false,pI 6,pI 0,pI 0,pI (-505430916),pB false,pB false,pB false,pI 0,pI 48000,pI 0]++wSum⟩),wFr,(17,⟨133,(0,0),0,[pI 8000,pI 88000]++rp 7 (pI 0)++[pB true]⟩),wMo,(19,⟨136,(0,0),0,[pI 32,pI 268435456,pL .nilsl]⟩)]++wBuf 48000++[(219,⟨36,(0,0),8,[pI 56000]++wImu++[pI 64000]++wImu++[pI 72000]++wImu++[pI 80000]++wImu++[pI 88000]++wImu⟩)],241⟩
theorem tw_r11 (s:Asg):ToP Tryz.prog 44 (c1 (c1 (c2 (c1 (c2 (c2 (c2 (bodyF Tryz.prog 6)))))))) (filS s pw_r10) .normal (Fil pw_r11):=ToP.run (z:=zF) (n:=20000) (dec:=[]) soundK37u (fun dead=>by kernel_rfl) (fun s=>by kernel_rfl) (by kernel_rfl)
def pw_r12:PS:=⟨[(1,.one (pL (.ptr 9 0))),(3,.one (pI 13))],[(9,⟨99,(0,0),0,wPar++[pB false,pI 1073741824]++rp 299 (pI 0)++wVar++[pL (.ptr 16 0),pL (.ptr 17 0),pL (.slu 249 5)]++wPtr++[pI 0,pI 0,pB false,pB false,pL (.ptr 19 0),pB false,pI 7,pI 0,pI 0,pI (-589669402),pB false,pB false,pB false,pI 0,pI 56000,pI 0]++wSum⟩),wFr,(17,⟨133,(0,0),0,[pI 8000,pI 96000]++rp 7 (pI 0)++[pB true]⟩),wMo,(19,⟨136,(0,0),0,[pI 32,pI 268435456,pL .nilsl]⟩)]++wBuf 56000++[(249,⟨36,(0,0),8,[pI 64000]++wImu++[pI 72000]++wImu++[pI 80000]++wImu++[pI 88000]++wImu++[pI 96000]++wImu⟩)],271⟩
theorem tw_r12 (s:Asg):ToP Tryz.prog 44 (c1 (c1 (c2 (c1 (c2 (c2 (c2 (bodyF Tryz.prog 6)))))))) (filS s pw_r11) .normal (Fil pw_r12):=ToP.run (z:=zF) (n:=20000) (dec:=[]) soundK37u (fun dead=>by kernel_rfl) (fun s=>by kernel_rfl) (by kernel_rfl)
def pw_r13:PS:=⟨[(1,.one (pL (.ptr 9 0))),(3,.one (pI 14))],[(9,⟨99,(0,0),0,wPar++[pB false,pI 1073741824]++rp 299 (pI 0)++wVar++[pL (.ptr 16 0),pL (.ptr 17 0),pL (.slu 279 5)]++wPtr++[pI 0,pI 0,pB false,pB false,pL (.ptr 19 0),pB false,pI 8,pI 0,pI 0,pI (-673907888),pB false,pB false,pB false,pI 0,pI 64000,pI 0]++wSum⟩),wFr,(17,⟨133,(0,0),0,[pI 8000,pI 104000]++rp 7 (pI 0)++[pB true]⟩),wMo,(19,⟨136,(0,0),0,[pI 32,pI 268435456,pL .nilsl]⟩)]++wBuf 64000++[(279,⟨36,(0,0),8,[pI 72000]++wImu++[pI 80000]++wImu++[pI 88000]++wImu++[pI 96000]++wImu++[pI 104000]++wImu⟩)],301⟩
theorem tw_r13 (s:Asg):ToP Tryz.prog 44 (c1 (c1 (c2 (c1 (c2 (c2 (c2 (bodyF Tryz.prog 6)))))))) (filS s pw_r12) .normal (Fil pw_r13):=ToP.run (z:=zF) (n:=20000) (dec:=[]) soundK37u (fun dead=>by kernel_rfl) (fun s=>by kernel_rfl) (by kernel_rfl)
def pw_r14:PS:=⟨[(1,.one (pL (.ptr 9 0))),(3,.one (pI 15))],[(9,⟨99,(0,0),0,wPar++[pB false,pI 1073741824]++rp 299 (pI 0)++wVar++[pL (.ptr 16 0),pL (.ptr 17 0),pL (.slu 309 5)]++wPtr++[pI 0,pI 0,pB false,pB false,pL (.ptr 19 0),pB false,pI 9,pI 0,pI 0,pI (-758146374),pB false,pB false,pB false,pI 0,pI 72000,pI 0]++wSum⟩),wFr,(17,⟨133,(0,0),0,[pI 8000,pI 112000]++rp 7 (pI 0)++[pB true]⟩),wMo,(19,⟨136,(0,0),0,[pI 32,pI 268435456,pL .nilsl]⟩)]++wBuf 72000++[(309,⟨36,(0,0),8,[pI 80000]++wImu++[pI 88000]++wImu++[pI 96000]++wImu++[pI 104000]++wImu++[pI 112000]++wImu⟩)],331⟩
theorem tw_r14 (s:Asg):ToP Tryz.prog 44 (c1 (c1 (c2 (c1 (c2 (c2 (c2 (bodyF Tryz.prog 6)))))))) (filS s pw_r13) .normal (Fil pw_r14):=ToP.run (z:=zF) (n:=20000) (dec:=[]) soundK37u (fun dead=>by kernel_rfl) (fun s=>by kernel_rfl) (by kernel_rfl)
def pw_r15:PS:=⟨[(1,.one (pL (.ptr 9 0))),(3,.one (pI 16))],[(9,⟨99,(0,0),0,wPar++[P1.hb,pI 1073741824]++rp 23 (pI 0)++rp 300 (P1.hi)++[pL (.ptr 16 0),pL (.ptr 17 0),pL (.slu 339 5)]++wPtr++[pI 1,pI 0,pB false,pB false,pL (.ptr 19 0),pB true,pI 10,pI 0,pI 0,pI (-842384860),pB true,pB false,pB false,pI 0,pI 80000,pI 0]++wSum⟩),wFr,(17,⟨133,(0,0),0,[pI 8000,pI 120000]++rp 7 (pI 0)++[pB true]⟩),wMo,(19,⟨136,(0,0),0,[pI 32,pI 268435456,pL (.slu 394 6)]⟩)]++wBuf 80000++[(339,⟨36,(0,0),8,[pI 88000]++wImu++[pI 96000]++wImu++[pI 104000]++wImu++[pI 112000]++wImu++[pI 120000]++wImu⟩),(394,⟨48,(0,0),11,[pI 80000,pI 1073741824]++rp 9 (pI 0)++[pI 88000]++rp 10 (P1.hi)++[pI 96000]++rp 10 (P1.hi)++[pI 104000]++rp 10 (P1.hi)++[pI 112000]++rp 10 (P1.hi)++[pI 120000]++rp 10 (P1.hi)⟩)],415⟩
theorem tw_r15 (s:Asg):ToP Tryz.prog 44 (c1 (c1 (c2 (c1 (c2 (c2 (c2 (bodyF Tryz.prog 6)))))))) (filS s pw_r14) .normal (Fil pw_r15):=ToP.run (z:=zF) (n:=20000) (dec:=[]) soundK37u (fun dead=>by kernel_rfl) (fun s=>by kernel_rfl) (by kernel_rfl)
def pw_rx:PS:=⟨[(1,.one (pL (.ptr 9 0)))],[(9,⟨99,(0,0),0,wPar++[P1.hb,pI 1073741824]++rp 23 (pI 0)++rp 300 (P1.hi)++[pL (.ptr 16 0),pL (.ptr 17 0),pL (.slu 339 5)]++wPtr++[pI 1,pI 0,pB false,pB false,pL (.ptr 19 0),pB true,pI 10,pI 0,pI 0,pI (-842384860),pB true,pB false,pB false,pI 0,pI 80000,pI 0]++wSum⟩),wFr,(17,⟨133,(0,0),0,[pI 8000,pI 120000]++rp 7 (pI 0)++[pB true]⟩),wMo,(19,⟨136,(0,0),0,[pI 32,pI 268435456,pL (.slu 394 6)]⟩)]++wBuf 80000++[(339,⟨36,(0,0),8,[pI 88000]++wImu++[pI 96000]++wImu++[pI 104000]++wImu++[pI 112000]++wImu++[pI 120000]++wImu⟩),(394,⟨48,(0,0),11,[pI 80000,pI 1073741824]++rp 9 (pI 0)++[pI 88000]++rp 10 (P1.hi)++[pI 96000]++rp 10 (P1.hi)++[pI 104000]++rp 10 (P1.hi)++[pI 112000]++rp 10 (P1.hi)++[pI 120000]++rp 10 (P1.hi)⟩)],415⟩
theorem tw_rx (s:Asg):ToP Tryz.prog 44 (c1 (c1 (c2 (c1 (c2 (c2 (c2 (bodyF Tryz.prog 6)))))))) (filS s pw_r15) (.exit 0) (Fil pw_rx):=ToP.run (z:=zF) (n:=20000) (dec:=[]) soundK37u (fun dead=>by kernel_rfl) (fun s=>by kernel_rfl) (by kernel_rfl)
def pw_w5:PS:=⟨[(1,.one (pL (.ptr 9 0))),(4,.one (pL (.ptr 417 0))),(5,.one (pB true))],[(9,⟨99,(0,0),0,wPar++[P1.hb,pI 1073741824]++rp 23 (pI 0)++rp 300 (P1.hi)++[pL (.ptr 16 0),pL (.ptr 17 0),pL (.slu 339 5)]++wPtr++[pI 1,pI 0,pB false,pB false,pL (.ptr 19 0),pB true,pI 10,pI 0,pI 0,pI (-842384860),pB true,pB false,pB false,pI 0,pI 80000,pI 0]++wSum⟩),wFr,(17,⟨133,(0,0),0,[pI 8000,pI 120000]++rp 7 (pI 0)++[pB true]⟩),wMo,(19,⟨136,(0,0),0,[pI 32,pI 268435456,pL (.slu 394 6)]⟩)]++wBuf 80000++[(339,⟨36,(0,0),8,[pI 88000]++wImu++[pI 96000]++wImu++[pI 104000]++wImu++[pI 112000]++wImu++[pI 120000]++wImu⟩),(394,⟨48,(0,0),11,[pI 80000,pI 1073741824]++rp 9 (pI 0)++[pI 88000]++rp 10 (P1.hi)++[pI 96000]++rp 10 (P1.hi)++[pI 104000]++rp 10 (P1.hi)++[pI 112000]++rp 10 (P1.hi)++[pI 120000]++rp 10 (P1.hi)⟩),(417,⟨48,(0,0),0,[pI 120000]++rp 10 (P1.hi)⟩)],418⟩
theorem tw_w5 (s:Asg):ToP Tryz.prog 44 (c1 (c2 (c2 (c2 (c2 (bodyF Tryz.prog 6)))))) (filS s pw_rx) .normal (Fil pw_w5):=ToP.run (z:=zF) (n:=20000) (dec:=[]) soundK37u (fun dead=>by kernel_rfl) (fun s=>by kernel_rfl) (by kernel_rfl)
def pw_w6:PS:=⟨[(0,.one (pB true))],[],419⟩
theorem tw_w6 (s:Asg):ToP Tryz.prog 44 (c1 (c2 (c2 (c2 (c2 (c2 (bodyF Tryz.prog 6))))))) (filS s pw_w5) .normal (Fil pw_w6):=ToP.run (z:=zF) (n:=20000) (dec:=[]) soundK37u (fun dead=>by kernel_rfl) (fun s=>by kernel_rfl) (by kernel_rfl)
def pw_w7:PS:=⟨[(0,.one (pB true))],[],419⟩
theorem tw_w7 (s:Asg):ToP Tryz.prog 44 (c2 (c2 (c2 (c2 (c2 (c2 (bodyF Tryz.prog 6))))))) (filS s pw_w6) .ret (Fil pw_w7):=ToP.run (z:=zF) (n:=20000) (dec:=[]) soundK37u (fun dead=>by kernel_rfl) (fun s=>by kernel_rfl) (by kernel_rfl)
theorem awkLoop (s:Asg):RdP Tryz.prog 44 (c1 (c1 (c2 (c1 (c2 (c2 (c2 (bodyF Tryz.prog 6)))))))) 16 (filS s pw_w3) (.exit 0) (Fil pw_rx):=by
 refine RdP.next (tw_r1 s) ?_
 rintro x ⟨s,rfl⟩
 refine RdP.next (tw_r2 s) ?_
 rintro x ⟨s,rfl⟩
 refine RdP.next (tw_r3 s) ?_
 rintro x ⟨s,rfl⟩
 refine RdP.next (tw_r4 s) ?_
 rintro x ⟨s,rfl⟩
 refine RdP.next (tw_r5 s) ?_
 rintro x ⟨s,rfl⟩
 refine RdP.next (tw_r6 s) ?_
 rintro x ⟨s,rfl⟩
 refine RdP.next (tw_r7 s) ?_
 rintro x ⟨s,rfl⟩
 refine RdP.next (tw_r8 s) ?_
 rintro x ⟨s,rfl⟩
 refine RdP.next (tw_r9 s) ?_
 rintro x ⟨s,rfl⟩
 refine RdP.next (tw_r10 s) ?_
 rintro x ⟨s,rfl⟩
 refine RdP.next (tw_r11 s) ?_
 rintro x ⟨s,rfl⟩
 refine RdP.next (tw_r12 s) ?_
 rintro x ⟨s,rfl⟩
 refine RdP.next (tw_r13 s) ?_
 rintro x ⟨s,rfl⟩
 refine RdP.next (tw_r14 s) ?_
 rintro x ⟨s,rfl⟩
 refine RdP.next (tw_r15 s) ?_
 rintro x ⟨s,rfl⟩
 exact RdP.last (by simp) (tw_rx s)
theorem awkAll:ToP Tryz.prog 44 (bodyF Tryz.prog 6) ⟨argsL 0 [],[],0⟩ .ret (Fil pw_w7):=by
 refine ToP.seq (by kernel_rfl) (tw_w0 ⟨fun _ _=>0,fun _ _=>false,fun _ _=>0,fun _ _=>false⟩) ?_
 rintro x ⟨s,rfl⟩
 refine ToP.seq (by kernel_rfl) (tw_w1 s) ?_
 rintro x ⟨s,rfl⟩
 refine ToP.seq (by kernel_rfl) (tw_w2 s) ?_
 rintro x ⟨s,rfl⟩
 refine ToP.seq (by kernel_rfl) (B:=Fil pw_rx) (ToP.seq (by kernel_rfl) (tw_w3 s) ?_) ?_
 ·rintro x ⟨s,rfl⟩
  exact ToP.block (id:=0) (e:= .exit 0) (by kernel_rfl) (ToP.loop (by kernel_rfl) (awkLoop s)) (.inl rfl)
 rintro x ⟨s,rfl⟩
 refine ToP.seq (by kernel_rfl) (tw_w5 s) ?_
 rintro x ⟨s,rfl⟩
 refine ToP.seq (by kernel_rfl) (tw_w6 s) ?_
 rintro x ⟨s,rfl⟩
 exact tw_w7 s
def awkS:List LV→Option (LV×List (Bool×Bool))
 | []=>some (.v (.one (.bool true)),[])
 | _=>none
theorem sumAwk:SumOK Tryz.prog 6 (pureSum awkS):=by
 refine pureSum_ok' fun args v cs hF hc hp hv w=> ?_
 unfold awkS at hF
 split at hF
 ·cases hF
  have ho:=own_of soundK37u Tryz.func6 (by kernel_rfl)
  refine pure_of_ToP (fn:=Tryz.f6) ho Tryz.func6 (c:=(bodyF Tryz.prog 6)) (by kernel_rfl) (by decide) (by decide) hp awkAll (.inr rfl) ?_ hv w
  rintro x ⟨s,rfl⟩ dead
  kernel_rfl
 ·cases hF
end Go.Proofs.YtfepmlklbapfiaaGreat

/- Blocks by other numbers: a walk in pieces in which a call's own blocks may be told by other numbers. -/
set_option linter.unusedVariables false
namespace Go.Lr
open Go.RowKit
def sw (a b i:Nat):Nat:=match Nat.beq i a with
 | true=>b
 | false=>match Nat.beq i b with
  | true=>a
  | false=>i
theorem sw_eq (a b i:Nat):sw a b i=if i=a then b else if i=b then a else i:=by
 unfold sw
 by_cases h:i=a
 ·subst h
  simp
 ·have h1:Nat.beq i a=false:=by cases h1:Nat.beq i a with
   | true=>exact absurd (Nat.eq_of_beq_eq_true h1) h
   | false=>rfl
  rw [h1,if_neg h]
  by_cases h2:i=b
  ·subst h2
   simp
  ·have h3:Nat.beq i b=false:=by cases h3:Nat.beq i b with
    | true=>exact absurd (Nat.eq_of_beq_eq_true h3) h2
    | false=>rfl
   rw [h3,if_neg h2]
theorem sw_sw (a b i:Nat):sw a b (sw a b i)=i:=by
 simp only [sw_eq]
 by_cases h:i=a
 ·subst h
  rw [if_pos rfl]
  by_cases h2:b=i
  ·rw [if_pos h2,h2]
  ·rw [if_neg h2,if_pos rfl]
 ·rw [if_neg h]
  by_cases h2:i=b
  ·subst h2
   rw [if_pos rfl,if_pos rfl]
  ·rw [if_neg h2,if_neg h,if_neg h2]
def swp:List (Nat×Nat)→Nat→Nat
 | [],i=>i
 | (a,b)::l,i=>swp l (sw a b i)
def swq:List (Nat×Nat)→Nat→Nat
 | [],i=>i
 | (a,b)::l,i=>sw a b (swq l i)
theorem swq_swp:∀(l:List (Nat×Nat)) (i:Nat),swq l (swp l i)=i
 | [],i=>rfl
 | (a,b)::l,i=>by simp only [swp,swq];rw [swq_swp l,sw_sw]
theorem swp_swq:∀(l:List (Nat×Nat)) (i:Nat),swp l (swq l i)=i
 | [],i=>rfl
 | (a,b)::l,i=>by simp only [swp,swq];rw [sw_sw,swp_swq l]
def swOK (N:Nat):List (Nat×Nat)→Bool
 | []=>true
 | (a,b)::l=>match Nat.ble N a with
  | true=>match Nat.ble N b with
   | true=>swOK N l
   | false=>false
  | false=>false
theorem swq_below {N:Nat}:∀{l:List (Nat×Nat)},swOK N l=true→∀i,i<N→swq l i=i
 | [],_,i,_=>rfl
 | (a,b)::l,h,i,hi=>by
  unfold swOK at h
  split at h
  ·rename_i h1
   split at h
   ·rename_i h2
    have h1':=Nat.le_of_ble_eq_true h1
    have h2':=Nat.le_of_ble_eq_true h2
    simp only [swq]
    rw [swq_below h i hi,sw_eq,if_neg (by omega),if_neg (by omega)]
   ·cases h
  ·cases h
def renCaps (ρ:Nat→Nat):List (Nat×Nat)→List (Nat×Nat)
 | []=>[]
 | (b,o)::l=>(ρ b,o)::renCaps ρ l
def renA (ρ:Nat→Nat):At→At
 | .int k n=> .int k n
 | .bool b=> .bool b
 | .ptr b o=> .ptr (ρ b) o
 | .nilp=> .nilp
 | .sl b o l c=> .sl (ρ b) o l c
 | .slu b l=> .slu (ρ b) l
 | .slx b o l c=> .slx (ρ b) o l c
 | .ptx b o=> .ptx (ρ b) o
 | .nilsl=> .nilsl
 | .slt b o n=> .slt (ρ b) o n
 | .fn f caps=> .fn f (renCaps ρ caps)
 | .opq v=> .opq v
def renL (ρ:Nat→Nat):List At→List At
 | []=>[]
 | a::l=>renA ρ a::renL ρ l
def renV1 (ρ:Nat→Nat):V1→V1
 | .one a=> .one (renA ρ a)
 | .agg l=> .agg (renL ρ l)
def renV (ρ:Nat→Nat):LV→LV
 | .v x=> .v (renV1 ρ x)
 | .tup l=> .tup (l.map (renV1 ρ))
def renB (ρ:Nat→Nat) (b:Blk):Blk:=⟨b.ty,b.fr,b.es,renL ρ b.cells⟩
def renLv (ρ:Nat→Nat):List (Nat×LV)→List (Nat×LV)
 | []=>[]
 | (i,v)::l=>(i,renV ρ v)::renLv ρ l
def renM (ρ:Nat→Nat):Mem→Mem
 | []=>[]
 | (i,b)::l=>(ρ i,renB ρ b)::renM ρ l
theorem renA_den {ρ:Nat→Nat} {E E':Env} (h:∀b,E' (ρ b)=E b) (a:At):(renA ρ a).den E'=a.den E:=by
 cases a with
 | fn f caps=>
  simp only [renA,At.den]
  congr 1
  congr 1
  induction caps with
  | nil=>rfl
  | cons c l ih=>simp only [renCaps,List.map_cons,h,ih]
 | _=>simp only [renA,At.den,h]
theorem renL_den {ρ:Nat→Nat} {E E':Env} (h:∀b,E' (ρ b)=E b):∀l:List At,(renL ρ l).map (At.den E')=l.map (At.den E)
 | []=>rfl
 | a::l=>by simp only [renL,List.map_cons,renA_den h,renL_den h l]
theorem renL_len (ρ:Nat→Nat):∀l:List At,(renL ρ l).length=l.length
 | []=>rfl
 | a::l=>by simp [renL,renL_len ρ l]
theorem renV1_den {ρ:Nat→Nat} {E E':Env} (h:∀b,E' (ρ b)=E b) (x:V1):(renV1 ρ x).den E'=x.den E:=by
 cases x with
 | one a=>exact renA_den h a
 | agg l=>simp only [renV1,V1.den,renL_den h]
theorem renV_den {ρ:Nat→Nat} {E E':Env} (h:∀b,E' (ρ b)=E b) (v:LV):(renV ρ v).den E'=v.den E:=by
 cases v with
 | v x=>exact renV1_den h x
 | tup l=>simp only [renV,LV.den,List.map_map];congr 1;congr 1;exact List.map_congr_left fun x _=>renV1_den h x
theorem renLv_mem {ρ:Nat→Nat}:∀{l:List (Nat×LV)} {q:Nat×LV},q∈renLv ρ l→∃v,(q.1,v)∈l∧q.2=renV ρ v
 | [],q,h=>by simp [renLv] at h
 | (i,v)::l,q,h=>by
  simp only [renLv,List.mem_cons] at h
  rcases h with rfl | h
  ·exact ⟨v,List.mem_cons_self ..,rfl⟩
  ·obtain ⟨u,h1,h2⟩:=renLv_mem h
   exact ⟨u,List.mem_cons_of_mem _ h1,h2⟩
theorem renM_get {ρ σ:Nat→Nat} (h1:∀i,σ (ρ i)=i) (h2:∀i,ρ (σ i)=i):∀(m:Mem) (j:Nat),getM (renM ρ m) j=(getM m (σ j)).map (renB ρ)
 | [],j=>rfl
 | (i,b)::m,j=>by
  simp only [renM]
  rw [getM_cons,getM_cons]
  by_cases h:j=ρ i
  ·rw [if_pos h,if_pos (by rw [h,h1])];rfl
  ·rw [if_neg h,if_neg (fun e=>h (by rw [←e,h2])),renM_get h1 h2 m j]
section
variable {P:Program} {sz:Nat}
theorem KR.ren {E:Env} {A:Kst} {a:Act} {w:World} (h:KR E sz A a w) (l:List (Nat×Nat)) {nb:Nat} (hB:KstOK ⟨renLv (swp l) A.live,renM (swp l) A.mem,nb⟩):
  KR (fun j=>E (swq l j)) sz ⟨renLv (swp l) A.live,renM (swp l) A.mem,nb⟩ a w:=by
 have hE:∀b,(fun j=>E (swq l j)) ((swp l) b)=E b:=fun b=>by show E (swq l (swp l b))=E b;rw [swq_swp]
 refine ⟨hB,h.size,h.le,h.defers,fun q hq=> ?_,⟨fun j b' hj=> ?_,fun i j hi hj he=> ?_⟩⟩
 ·obtain ⟨v,h1,h2⟩:=renLv_mem hq
  rw [h2,renV_den (ρ:=swp l) (E:=E) (E':=fun j=>E (swq l j)) hE]
  exact h.tm _ h1
 ·have hj':getM (renM (swp l) A.mem) j=some b':=hj
  rw [renM_get (swq_swp l) (swp_swq l)] at hj'
  cases hg:getM A.mem (swq l j) with
  | none=>rw [hg] at hj';cases hj'
  | some b=>
   rw [hg] at hj'
   cases hj'
   obtain ⟨r,g1,g2,g3⟩:=h.rel.blk _ b hg
   refine ⟨r, ?_,g2,fun hne=> ?_⟩
   ·show w.heap[(E (swq l j)).1]? = _
    rw [g1]
    show some (Obj.cells _ _ _)=some (Obj.cells ((E (swq l j)).pre++(renL (swp l) b.cells).map (At.den fun j=>E (swq l j))++r++(E (swq l j)).suf).toArray ((E (swq l j)).ty.getD b.ty) b.fr)
    rw [renL_den (ρ:=swp l) (E:=E) (E':=fun j=>E (swq l j)) hE]
   ·show (renL (swp l) b.cells).length+r.length=_
    rw [renL_len]
    exact g3 hne
 ·have hi':(getM (renM (swp l) A.mem) i).isSome:=hi
  have hj':(getM (renM (swp l) A.mem) j).isSome:=hj
  rw [renM_get (swq_swp l) (swp_swq l),Option.isSome_map] at hi' hj'
  have:=h.rel.inj _ _ hi' hj' he
  rw [←swp_swq l i,this,swp_swq]
def ToR (P:Program) (sz N:Nat) (c:Code) (A:Kst) (e:Ex) (B:Kst→Prop):Prop:=
 ∀E a w,KR E sz A a w→∀Q:Exit→Act→World→Prop,(∀B0,B B0→∀E' a' w',KR E' sz B0 a' w'→ExtG N w E (getM A.mem) w' E' (getM B0.mem)→Q e.to a' w')→c.wp P Q a w
theorem Ext.toG {N:Nat} {w w':World} {E E':Env} {s s':St} (h:Ext w E s w' E' s') (hN:N≤s.nb):ExtG N w E (getM s.mem) w' E' (getM s'.mem):=
 ⟨fun i hi=>h.agree i (Nat.lt_of_lt_of_le hi hN),h.os,h.tape,h.output,h.size,h.frame,h.src⟩
theorem ToR.of_ToP {N:Nat} {c:Code} {A:Kst} {e:Ex} {B:Kst→Prop} (h:ToP P sz c A e B) (hN:Nat.ble N A.nb=true):ToR P sz N c A e B:=
 fun E a w hr Q hQ=>h E a w hr Q fun B0 hB E' a' w' hr' hx=>hQ B0 hB E' a' w' hr' (hx.toG (Nat.le_of_ble_eq_true hN))
theorem ToR.mono {N:Nat} {c:Code} {A:Kst} {e:Ex} {B C:Kst→Prop} (h:ToR P sz N c A e B) (k:∀x,B x→C x):ToR P sz N c A e C:=
 fun E a w hr Q hQ=>h E a w hr Q fun B0 hB0=>hQ B0 (k B0 hB0)
theorem ToR.ren {N:Nat} {c:Code} {A:Kst} {e:Ex} {B C:Kst→Prop} (h:ToR P sz N c A e B) (l:List (Nat×Nat)) (hl:swOK N l=true)
  (k:∀x,B x→∃nb,KstOK ⟨renLv (swp l) x.live,renM (swp l) x.mem,nb⟩∧C ⟨renLv (swp l) x.live,renM (swp l) x.mem,nb⟩):ToR P sz N c A e C:=by
 intro E a w hr Q hQ
 refine h E a w hr Q fun B0 hB E' a' w' hr' hx=> ?_
 obtain ⟨nb,h1,h2⟩:=k B0 hB
 refine hQ _ h2 (fun j=>E' (swq l j)) a' w' (hr'.ren l h1) ⟨fun i hi=> ?_,hx.os,hx.tape,hx.output,hx.size,hx.frame,fun i hi=> ?_⟩
 ·show E' (swq l i)=E i
  rw [swq_below hl i hi]
  exact hx.agree i hi
 ·have hi':(getM (renM (swp l) B0.mem) i).isSome:=hi
  rw [renM_get (swq_swp l) (swp_swq l),Option.isSome_map] at hi'
  exact hx.src _ hi'
theorem ToR.seq {N:Nat} {c:Code} {A:Kst} {e:Ex} {B C:Kst→Prop} (hc:isSeq c=true) (h:ToR P sz N (c1 c) A .normal B) (k:∀x,B x→ToR P sz N (c2 c) x e C):ToR P sz N c A e C:=by
 cases c <;> simp only [isSeq,Bool.false_eq_true] at hc
 intro E a w hr Q hQ
 refine wp_seq (h E a w hr _ fun B0 hB E' a' w' hr' hx'=> ?_)
 exact k B0 hB E' a' w' hr' Q fun C0 hC E'' a'' w'' hr'' hx''=>hQ C0 hC E'' a'' w'' hr'' (hx'.trans hx'')
theorem ToR.seq_out {N:Nat} {c:Code} {A:Kst} {e:Ex} {B:Kst→Prop} (hc:isSeq c=true) (he:e≠ .normal) (h:ToR P sz N (c1 c) A e B):ToR P sz N c A e B:=by
 cases c <;> simp only [isSeq,Bool.false_eq_true] at hc
 intro E a w hr Q hQ
 refine wp_seq (h E a w hr _ fun B0 hB E' a' w' hr' hx'=> ?_)
 have:=hQ B0 hB E' a' w' hr' hx'
 cases e <;> first | exact absurd rfl he | exact this
theorem ToR.block {N:Nat} {c:Code} {id:Nat} {A:Kst} {e:Ex} {B:Kst→Prop} (hc:blkId c=some id) (h:ToR P sz N (c1 c) A e B) (he:e = .exit id∨e = .normal):ToR P sz N c A .normal B:=by
 cases c <;> simp only [blkId,reduceCtorEq] at hc
 cases hc
 intro E a w hr Q hQ
 refine wp_block (h E a w hr _ fun B0 hB E' a' w' hr' hx'=> ?_)
 have:=hQ B0 hB E' a' w' hr' hx'
 rcases he with rfl | rfl
 ·simpa only [Ex.to,Exit.inBlock,if_true] using this
 ·exact this
def RdR (P:Program) (sz N:Nat) (c:Code) (m:Nat) (A:Kst) (e:Ex) (B:Kst→Prop):Prop:=
 ∀E a w,KR E sz A a w→∀Q:Exit→Act→World→Prop,(∀B0,B B0→∀E' a' w',KR E' sz B0 a' w'→ExtG N w E (getM A.mem) w' E' (getM B0.mem)→Q e.to a' w')→Code.rounds P c Q m a w
theorem RdR.last {N:Nat} {c:Code} {A:Kst} {e:Ex} {B:Kst→Prop} (he:e≠ .normal) (h:ToR P sz N c A e B):RdR P sz N c 1 A e B:=by
 intro E a w hr Q hQ
 rw [rounds_succ]
 refine h E a w hr _ fun B0 hB E' a' w' hr' hx'=> ?_
 have:=hQ B0 hB E' a' w' hr' hx'
 cases e <;> first | exact absurd rfl he | exact this
theorem RdR.next {N:Nat} {c:Code} {A:Kst} {e:Ex} {B C:Kst→Prop} {m:Nat} (h:ToR P sz N c A .normal B) (k:∀x,B x→RdR P sz N c m x e C):RdR P sz N c (m+1) A e C:=by
 intro E a w hr Q hQ
 rw [rounds_succ]
 refine h E a w hr _ fun B0 hB E' a' w' hr' hx'=> ?_
 exact k B0 hB E' a' w' hr' Q fun C0 hC E'' a'' w'' hr'' hx''=>hQ C0 hC E'' a'' w'' hr'' (hx'.trans hx'')
theorem ToR.loop {N:Nat} {c:Code} {A:Kst} {e:Ex} {B:Kst→Prop} {m:Nat} (hc:isLoop c=true) (h:RdR P sz N (c1 c) m A e B):ToR P sz N c A e B:=by
 cases c <;> simp only [isLoop,Bool.false_eq_true] at hc
 exact fun E a w hr Q hQ=>wp_loop_rounds m (h E a w hr Q hQ)
end
end Go.Lr

/- Laws that are handed slices: the blocks behind them, as the evaluator's memory. -/
namespace Go.Lr
set_option linter.unusedVariables false
open Go.ChangeShapes Go.WideShapes Go.ChangeAt Go.RowKit
def IsBlk (w:World) (a:Option Addr):Prop:=∀x,a=some x→x.spot=none∧∃arr ty fr,w.heap[x.block]? = some (.cells arr ty fr)∧x.off≤arr.size
def conv:Value→At
 | .int k n=> .int k n
 | .bool b=> .bool b
 | v=> .opq v
theorem conv_den (E:Env) (v:Value):(conv v).den E=v:=by cases v <;> rfl
theorem conv_ok (p:Nat→Bool) (v:Value):(conv v).ok p=true:=by cases v <;> rfl
def convL (arr:Array Value):List At:=arr.toList.map conv
theorem convL_den (E:Env) (arr:Array Value):(convL arr).map (At.den E)=arr.toList:=by
 unfold convL
 rw [List.map_map]
 have:(At.den E ∘ conv)=id:=by funext v;exact conv_den E v
 rw [this,List.map_id]
theorem okL_map (p:Nat→Bool):∀l:List Value,okL p (l.map conv)=true
 | []=>rfl
 | v::l=>by
  show (match (conv v).ok p with | true=>okL p (l.map conv) | false=>false)=true
  rw [conv_ok];exact okL_map p l
theorem convL_ok (p:Nat→Bool) (arr:Array Value):okL p (convL arr)=true:=okL_map p _
def blkOf (arr:Array Value) (ty:TypeId) (fr:Nat×Nat):Blk:=⟨ty,fr,0,convL arr⟩
theorem blkOf_at {E:Env} {i b:Nat} {w:World} {arr:Array Value} {ty:TypeId} {fr:Nat×Nat} (he:E i=Loc.at b 0) (h:w.heap[b]? = some (.cells arr ty fr)):blkAt E i (blkOf arr ty fr) w:=by
 refine ⟨[], ?_,fun _=>rfl,fun hn=>absurd rfl hn⟩
 rw [he]
 show w.heap[b]? = some (Obj.cells ([]++(convL arr).map (At.den E)++[]++[]).toArray ty fr)
 rw [convL_den,h];simp
structure RowL (arr:Array Value) (o cap:Nat) (zs:List Int):Prop where
 len:zs.length=cap
 le:o+cap≤arr.size
 at':∀i (h:i<cap),arr[o+i]? = some (.int .i64 (zs.getD i 0))
theorem add_cell {w:World} {b o:Nat} {arr:Array Value} {ty:TypeId} {fr:Nat×Nat} (h:w.heap[b]? = some (.cells arr ty fr)) (i:Nat):w.cell? (Addr.add ⟨b,o,none⟩ i)=arr[o+i]? :=by
 have e:Addr.add ⟨b,o,none⟩ i=⟨b,o+i,none⟩:=by
  unfold Addr.add
  split
  ·rename_i h;rw [h,Nat.add_zero]
  ·rfl
 rw [e]
 unfold World.cell?
 simp only [h,Option.isSome_none,Bool.false_eq_true,if_false]
theorem row_in {w:World} {a:Option Addr} {len cap:Nat} {zs:List Int} (hb:IsBlk w a)
  (h:(a=none∧len=0∧cap=0∧zs=[])∨∃x,a=some x∧len≤cap∧cap≤maxLen∧zs.length=cap∧(∀i,i<zs.length→w.cell? (x.add i)=some (.int .i64 (zs.getD i 0)))∧∀n∈zs,(Lit.int .i64 n).wf=true):
  (a=none∧len=0∧cap=0∧zs=[])∨∃b o arr ty fr,a=some ⟨b,o,none⟩∧w.heap[b]? = some (.cells arr ty fr)∧len≤cap∧cap≤maxLen∧RowL arr o cap zs∧∀n∈zs,(Lit.int .i64 n).wf=true:=by
 rcases h with h | ⟨x,rfl,hl,hm,hz,hc,hw⟩
 ·exact .inl h
 ·right
  obtain ⟨hs,arr,ty,fr,hh,ho⟩:=hb x rfl
  obtain ⟨b,o,sp⟩:=x
  cases hs
  refine ⟨b,o,arr,ty,fr,rfl,hh,hl,hm,⟨hz, ?_,fun i hi=> ?_⟩,hw⟩
  ·by_cases h0:cap=0
   ·rw [h0];exact ho
   ·have:=hc (cap - 1) (by omega)
    rw [add_cell hh] at this
    have:=(Array.getElem?_eq_some_iff.1 this).1
    omega
  ·have:=hc i (by omega)
   rw [add_cell hh] at this
   exact this
theorem RowL.atL {arr:Array Value} {o cap:Nat} {zs:List Int} (h:RowL arr o cap zs) {i:Nat} (hi:i<cap):(convL arr)[o+i]? = some (.int .i64 (zs.getD i 0)):=by
 unfold convL
 rw [List.getElem?_map,Array.getElem?_toList,h.at' i hi]
 rfl
theorem RowL.cut {arr:Array Value} {o cap:Nat} {zs:List Int} (h:RowL arr o cap zs) {p n:Nat} (hn:p+n≤cap):((convL arr).drop (o+p)).take n=((zs.drop p).take n).map (At.int .i64):=by
 refine List.ext_getElem? fun i=> ?_
 by_cases hi:i<n
 ·rw [List.getElem?_take,if_pos hi,List.getElem?_drop,Nat.add_assoc,h.atL (i:=p+i) (by omega),List.getElem?_map,List.getElem?_take,if_pos hi,List.getElem?_drop,List.getD_eq_getElem?_getD]
  have:p+i<zs.length:=by have:=h.len;omega
  rw [List.getElem?_eq_getElem this]
  rfl
 ·rw [List.getElem?_take,if_neg hi,List.getElem?_map,List.getElem?_take,if_neg hi];rfl
section
variable {P:Program} {S:FuncId→Option SumK} {z:Md}
end
end Go.Lr

/- A law off a walk in pieces in which blocks change their numbers; lists of cells that name no block. -/
set_option linter.unusedVariables false
namespace Go.Lr
open Go.RowKit
theorem renA_noP {ρ:Nat→Nat} {a:At} (h:a.ok noP=true):renA ρ a=a:=by
 cases a with
 | fn f caps=>
  cases caps with
  | nil=>rfl
  | cons c l=>simp [At.ok,noP] at h
 | ptr b o=>cases h
 | sl b o l c=>cases h
 | slu b l=>cases h
 | slx b o l c=>cases h
 | ptx b o=>cases h
 | slt b o n=>cases h
 | _=>rfl
theorem renL_noP {ρ:Nat→Nat}:∀{l:List At},okL noP l=true→renL ρ l=l
 | [],_=>rfl
 | a::l,h=>by
  simp only [okL] at h
  split at h
  ·rename_i ha
   simp only [renL,renA_noP ha,renL_noP h]
  ·cases h
section
variable {P:Program}
theorem law_ToR {f:FuncId} {fn:Func} {c:Code} {args:List LV} {m:Mem} {nb N:Nat} {B:Kst→Prop} {v:LV} (hf:P.funcs[f]? = some fn) (hb:fn.body=some c)
  (hle:fn.ntmps≤60000) (hargs:args.length≤fn.ntmps) (hA:∀u∈args,u.ok (below nb)=true) (hm:memOKb nb m=true) (hz:∀i b,getM m i=some b→b.es=0) (hn:∀i b,getM m i=some b→i<N)
  (ho:∀i b,getM m i=some b→okL noP b.cells=true)
  (h:ToR P fn.ntmps N c ⟨argsL 0 args,m,nb⟩ .ret B) (hres:∀x,B x→(∀dead,resultsD P fn.results.toList (getT (x.tm dead)) x.mem=some v)∧∀i b,getM m i=some b→getM x.mem i=some b) (hv:v.ok noP=true)
  (E:Env) (w:World) (hrel:Rel E (getM m) w):Calls P f (args.map (LV.den E)).toArray w fun e w'=>e = .returned (v.den E0)∧Below w.heap.size w w':=by
 obtain ⟨k1,k2⟩:=memOKb_ok hm
 refine calls_of_wp hf hb (h E _ w ⟨⟨fun q hq=> ?_,(argsL_fst args 0).1,fun q hq=> ?_,k1,k2⟩,by simp;omega,hle,rfl,fun q hq=> ?_,hrel⟩ _ fun B0 hB E' a' w' hr' hx'=> ?_)
 ·have:=(argsL_mem args 0 q).1 hq
  have:=(List.getElem?_eq_some_iff.1 this.2).1
  omega
 ·exact hA q.2 (List.mem_of_getElem? ((argsL_mem args 0 q).1 hq).2)
 ·have:=((argsL_mem args 0 q).1 hq).2
  simp only [Nat.sub_zero] at this
  have hlt:=(List.getElem?_eq_some_iff.1 this).1
  simp only [Array.getD_eq_getD_getElem?,Array.getElem?_append,List.size_toArray,List.length_map]
  rw [if_pos hlt]
  simp [this]
 ·have hR:=hr'.toR []
  obtain ⟨hr1,hr2⟩:=hres B0 hB
  refine ⟨hr'.defers,v.den E',resultsD_spec hR.m.rel hR.tm (hr1 _),by rw [den_noP hv],hx'.os,hx'.tape,hx'.output,hx'.size,fun k hk=> ?_⟩
  by_cases hex:∃i b,getM m i=some b∧(E i).1=k
  ·obtain ⟨i,b,hi,rfl⟩:=hex
   obtain ⟨r,u1,u2,-⟩:=hrel.blk i b hi
   obtain ⟨r',v1,v2,-⟩:=hr'.rel.blk i b (hr2 i b hi)
   rw [hx'.agree i (hn i b hi),v2 (hz i b hi),denA_noP (E:=E') (ho i b hi),←denA_noP (E:=E) (ho i b hi)] at v1
   rw [u2 (hz i b hi)] at u1
   rw [u1,v1]
  ·refine hx'.frame k hk fun i hi e=>hex ?_
   obtain ⟨b,hb⟩:=Option.isSome_iff_exists.1 hi
   exact ⟨i,b,hb,e⟩
end
def mskC:Nat→List Bool→List Bool
 | 0,l=>l
 | n+1,l=>false::mskC n l
def mskO:Nat→List Bool→List Bool
 | 0,l=>l
 | n+1,l=>true::mskO n l
theorem w1 {x:Int} (h: -9223372036854775808≤x∧x<9223372036854775808):wr .i64 x=x:=by
 show w64 x=x
 unfold w64
 omega
end Go.Lr

/- TopShaken: the walk, round by round. -/
namespace Go.Proofs.YtfepmlklbapfiaaGreat
open Go.Lr
set_option linter.unusedVariables false
def hPar:List Go.Lr.P2:=[qI 8000,qI 0,qI 16]++rq 7 (qI 5)++[qI 1000000,qI 1000000,qI 1000000,qI 1000000,qI 1000000,qI 1000000,qI 1048576,qI 1048576,qI 1048576,qI 1048576,qI 17179869184,qI 17179869184,qI 17179869184,qI 16384,qI 16384,qI 16384,qI 1024,qI 1024,qI 1024,qI 65536,qI 65536,qI 65536,qI 16384,qI 16384,qI 16384,qI 16384,qI 16384,qI 16384,qI 17179869184,qI 17179869184,qI 68719476736,qI 68719476736,qI 68719476736,qI 68719476736,qI 17592186044416,qI 17592186044416,qI 17592186044416,qI 17592186044416,qI 17592186044416,qI 17592186044416,qI 67108864,qI 67108864,qI 67108864,qI 4294967296,qI 4294967296,qI 4294967296,qI 17179869184,qI 17179869184,qI 17179869184,qI 17179869184,qI 17179869184,qI 17179869184,qI 17592186044416,qI 17592186044416,qI 5000000,qI 68719476736,qI 1,qI 268435456,qI 32,qI 0,qI 0,qI 0]
def hVar:List Go.Lr.P2:=[qI 68719476736,qI 68719476736,qI 68719476736,qI 68719476736,qI 17592186044416,qI 17592186044416,qI 17592186044416,qI 17592186044416,qI 17592186044416,qI 17592186044416,qI 67108864,qI 67108864,qI 67108864,qI 4294967296,qI 4294967296,qI 4294967296,qI 17179869184,qI 17179869184,qI 17179869184,qI 17179869184,qI 17179869184,qI 17179869184,qI 17592186044416,qI 17592186044416]
def hMon:List Go.Lr.P2:=[qI 0,qI 0,qB false,qI 0,qI 1000000,qI 5,qI 0,qI 0,qB false,qI 1,qI 1000000,qI 5,qI 0,qI 0,qB false,qI 2,qI 1000000,qI 5,qI 0,qI 0,qB false,qI 3,qI 1000000,qI 5,qI 0,qI 0,qB false,qI 4,qI 1000000,qI 5,qI 0,qI 0,qB false,qI 5,qI 1000000,qI 5,qI 0]
def shM (Q:Nat) (k r:Int):List (Nat×PB2):=[(13,⟨99,(0,0),0,hPar++[qO,qI 1073741824]++rq 299 (qI 0)++hVar++[qL (.ptr 20 0),qL (.ptr 21 0),qL (.slu Q 0),qL (.ptr 24 0),qL (.ptr 25 0),qL (.ptr 26 0),qL (.ptr 27 0),qL (.ptr 28 0),qL (.ptr 29 0),qL (.ptr 22 0),qI 0,qI 0,qB false,qB false,qL (.ptr 23 0),qB false,qS r,qH,qH,qH,qB false,qB false,qB false,qI 0,qS (8000*k),qI 0,qI 1073741824]++rq 9 (qI 0)++[qL .nilsl],none⟩),(20,⟨189,(0,0),0,[qI 0,qI 0,qI 0,qI 12157770197,qI 12239707452],none⟩),(21,⟨133,(0,0),0,[qI 8000,qS (8000*k)]++rq 7 (qI 0)++[qB true],none⟩),(22,⟨165,(0,0),0,hMon,none⟩),(23,⟨136,(0,0),0,[qI 32,qI 268435456,qL .nilsl],none⟩),(24,⟨193,(0,0),0,[qI 0,qI 0,qI 0,qI 0,qI 0,qI 16,qL .nilsl,qH],none⟩),(25,⟨193,(0,0),0,[qI 0,qI 0,qI 0,qI 0,qI 0,qI 16,qL .nilsl,qH],none⟩),(26,⟨193,(0,0),0,[qI 0,qI 0,qI 0,qI 0,qI 0,qI 16,qL .nilsl,qH],none⟩),(27,⟨193,(0,0),0,[qI 0,qI 0,qI 0,qI 0,qI 0,qI 16,qL .nilsl,qH],none⟩),(28,⟨193,(0,0),0,[qI 0,qI 0,qI 0,qI 0,qI 0,qI 16,qL .nilsl,qH],none⟩),(29,⟨193,(0,0),0,[qI 0,qI 0,qI 0,qI 0,qI 0,qI 16,qL .nilsl,qH],none⟩),(30,⟨40,(0,0),0,[qL (.ptr 13 0),qS (8000*k),qI 0,qB false],none⟩),(Q,⟨36,(0,0),8,[],none⟩)]
def shA:List (Nat×PB2):=[(13,⟨99,(0,0),0,hPar++[qB false,qI 1073741824]++rq 299 (qI 0)++hVar++[qL (.ptr 20 0),qL (.ptr 21 0),qL .nilsl,qL (.ptr 24 0),qL (.ptr 25 0),qL (.ptr 26 0),qL (.ptr 27 0),qL (.ptr 28 0),qL (.ptr 29 0),qL (.ptr 22 0),qI 0,qI 0,qB false,qB false,qL (.ptr 23 0),qB false,qI 0,qI 0,qI 0,qI 0,qB false,qB false,qB false,qI 0,qI 0,qI 0,qI 1073741824]++rq 9 (qI 0)++[qL .nilsl],none⟩),(20,⟨189,(0,0),0,[qI 0,qI 0,qI 0,qI 12157770197,qI 12239707452],none⟩),(21,⟨133,(0,0),0,[qI 8000]++rq 8 (qI 0)++[qB false],none⟩),(22,⟨165,(0,0),0,hMon,none⟩),(23,⟨136,(0,0),0,[qI 32,qI 268435456,qL .nilsl],none⟩),(24,⟨193,(0,0),0,[qI 0,qI 0,qI 0,qI 0,qI 0,qI 16,qL .nilsl,qI (-9223372036854775808)],none⟩),(25,⟨193,(0,0),0,[qI 0,qI 0,qI 0,qI 0,qI 0,qI 16,qL .nilsl,qI (-9223372036854775808)],none⟩),(26,⟨193,(0,0),0,[qI 0,qI 0,qI 0,qI 0,qI 0,qI 16,qL .nilsl,qI (-9223372036854775808)],none⟩),(27,⟨193,(0,0),0,[qI 0,qI 0,qI 0,qI 0,qI 0,qI 16,qL .nilsl,qI (-9223372036854775808)],none⟩),(28,⟨193,(0,0),0,[qI 0,qI 0,qI 0,qI 0,qI 0,qI 16,qL .nilsl,qI (-9223372036854775808)],none⟩),(29,⟨193,(0,0),0,[qI 0,qI 0,qI 0,qI 0,qI 0,qI 16,qL .nilsl,qI (-9223372036854775808)],none⟩),(30,⟨40,(0,0),0,[qL (.ptr 13 0),qI 0,qI 0,qB false],none⟩)]
def shS (a:Go.Lr.P2) (m0:List (Nat×PB2)) (Q nb:Nat) (n k r:Int):PS2:=⟨[(0,.one a),(1,.one (qS n)),(5,.one (qL (.ptr 30 0))),(6,.one (qS r)),(7,.one (qS k))],m0++shM Q k r,nb⟩
def shX (m0:List (Nat×PB2)) (k r:Int):PS2:=⟨[(5,.one (qL (.ptr 30 0)))],m0++shM 53 k r,61⟩
def shB (a:Go.Lr.P2) (m0:List (Nat×PB2)) (n:Int):PS2:=⟨[(0,.one a),(1,.one (qS n)),(5,.one (qL (.ptr 30 0))),(6,.one (qI 0)),(7,.one (qI 0))],m0++shA,31⟩
def bitB (L:List At) (o:Nat) (k:Int):Bool:=w64 (Int.ofNat (Nat.land (u64 (intAt L (o+k.toNat*1))).toNat (u64 1).toNat))==1
theorem ob_nil:AllOb []:=fun q h=>by cases h
theorem ob_cons {q:Ob} {l:List Ob} (h:q.ok) (k:AllOb l):AllOb (q::l):=fun x hx=>by
 rcases List.mem_cons.1 hx with rfl | hx
 ·exact h
 ·exact k x hx
theorem gbT {T:Int} (h:0≤T∧T≤1125899906842624):goodB T 8000 0 0 0 0 0 (-84238486)=true:=by
 unfold goodB
 rw [decide_eq_true (show T≥0 from h.1),decide_eq_true (show T≤1125899906842624 from h.2)]
 rfl
theorem gbU {T:Int} (h:0≤T∧T≤1125899906842624):goodB T 8000 0 0 0 0 0 (wr .i64 (2 * -84238486))=true:=by
 unfold goodB
 rw [decide_eq_true (show T≥0 from h.1),decide_eq_true (show T≤1125899906842624 from h.2)]
 rfl
noncomputable abbrev shLB:Code:=(c1 (c1 (c2 (c1 (c2 (c2 (c2 (c2 (c2 (c2 (bodyF Tryz.prog 3)))))))))))
noncomputable def GS:FuncId→Option SumK:=(moreG G4 10 (autoAD Tryz.prog G4 ⟨false,false,false⟩ 20000 10 (nn 22 (tt 1 (nn 2 (tt 1 (nn 41 [])))))))
theorem soundGS:Sound Tryz.prog GS:=soundG4.moreG (autoAD_ok soundG4 (own_of soundG4 Tryz.func10 (by kernel_rfl)))
noncomputable def GH:FuncId→Option SumK:=(moreG G4 10 (autoAD Tryz.prog G4 ⟨false,false,false⟩ 20000 10 (nn 22 (tt 1 (nn 43 [])))))
theorem soundGH:Sound Tryz.prog GH:=soundG4.moreG (autoAD_ok soundG4 (own_of soundG4 Tryz.func10 (by kernel_rfl)))
noncomputable def G0i:FuncId→Option SumK:=(moreG G3 10 (autoAD Tryz.prog G3 ⟨false,false,false⟩ 20000 10 []))
theorem soundG0i:Sound Tryz.prog G0i:=soundG3.moreG (autoAD_ok soundG3 (own_of soundG3 Tryz.func10 (by kernel_rfl)))
noncomputable def GA:FuncId→Option SumK:=more G3 6 (pureSum awkS)
theorem soundGA:Sound Tryz.prog GA:=soundG3.more sumAwk
theorem shNa (s:Asg) {n k r:Int} (hk:1≤k) (hn:n≤60) (hlt:k<n) (hr:0≤r∧r≤8) (h8:r=8):ToP Tryz.prog 122 shLB (filS2 s (shS (qL .nilsl) [] 53 61 n k r)) .normal (Fil2 (shS (qL .nilsl) [] 65 73 n (k+1) 0)):=by
 have eT:wr IntKind.i64 (8000*k+8000)=8000*(k+1):=by rw [w1 (by omega)];omega
 have eK:wr IntKind.i64 (k+1)=k+1:=w1 (by omega)
 exact ToP.run2 (z:=zF) (n:=20000) (dec:=(tt 6 (nn 6 (tt 1 (nn 1 (tt 1 (nn 1 []))))))) (mask:=(mskO 1 (mskC 19 (mskO 9 (mskC 1 (mskO 1 [])))))) (os:=((decide (wr IntKind.i64 (8000*k+8000)≤wr IntKind.i64 (wr IntKind.i64 (8000*k+8000) - 0)),true)::(decide (wr IntKind.i64 (8000*k+8000)≤8000*k),false)::(goodB (wr IntKind.i64 (8000*k+8000)) 8000 0 0 0 0 0 (wr IntKind.i64 (2 * -84238486)),true)::ra 7 (r==8,true) ((decide (k<n),true)::[]))) (es:=[.oi n n,.oi (0) (0),.oi (wr IntKind.i64 (k+1)) (k+1),.oi (0) (0),.oi (wr IntKind.i64 (8000*k+8000)) (8000*(k+1)),.oi (wr IntKind.i64 (8000*k+8000)) (8000*(k+1)),.oi (wr IntKind.i64 (8000*k+8000)) (8000*(k+1))]) soundGH (fun dead=>by kernel_rfl) (ae_cons (decide_eq_true (by rw [eT,w1 (by omega)];omega)) (ae_cons (decide_eq_false (by rw [eT];omega)) (ae_cons (by rw [eT];exact gbU (by omega)) (ra_ok (by rw [h8];rfl) (ae_cons (decide_eq_true (by omega)) ae_nil) _)))) (ob_cons rfl (ob_cons rfl (ob_cons eK (ob_cons rfl (ob_cons eT (ob_cons eT (ob_cons eT ob_nil))))))) (fun s=>canB_ok (by kernel_rfl)) (by kernel_rfl)
theorem shNd (s:Asg) {n k r:Int} (hk:1≤k) (hn:n≤60) (hlt:k<n) (hr:0≤r∧r≤8) (h8:r≠8):ToP Tryz.prog 122 shLB (filS2 s (shS (qL .nilsl) [] 53 61 n k r)) .normal (Fil2 (shS (qL .nilsl) [] 83 91 n (k+1) (r+1))):=by
 have eT:wr IntKind.i64 (8000*k+8000)=8000*(k+1):=by rw [w1 (by omega)];omega
 have eK:wr IntKind.i64 (k+1)=k+1:=w1 (by omega)
 have eR:wr IntKind.i64 (r+1)=r+1:=w1 (by omega)
 exact ToP.run2 (z:=zF) (n:=20000) (dec:=(tt 1 (ff 14 (nn 1 [])))) (mask:=(mskO 1 (mskC 9 (mskO 1 (mskC 19 (mskO 16 (mskC 1 (mskO 1 [])))))))) (os:=((wr IntKind.i64 (r+1) != 10,true)::(decide (wr IntKind.i64 (8000*k+8000)≤wr IntKind.i64 (wr IntKind.i64 (8000*k+8000) - 0)),true)::(decide (wr IntKind.i64 (8000*k+8000)≤8000*k),false)::(goodB (wr IntKind.i64 (8000*k+8000)) 8000 0 0 0 0 0 (-84238486),true)::ra 2 (r==8,false) (ra 7 (decide (k<0),false) (ra 5 (r==8,false) ((decide (k<n),true)::[]))))) (es:=[.oi n n,.oi (wr IntKind.i64 (r+1)) (r+1),.oi (wr IntKind.i64 (k+1)) (k+1),.oi (wr IntKind.i64 (r+1)) (r+1),.oi (wr IntKind.i64 (8000*k+8000)) (8000*(k+1)),.oi (wr IntKind.i64 (8000*k+8000)) (8000*(k+1)),.oi (wr IntKind.i64 (8000*k+8000)) (8000*(k+1))]) soundGS (fun dead=>by kernel_rfl) (ae_cons (by rw [eR];exact bne_iff_ne.2 (by omega)) (ae_cons (decide_eq_true (by rw [eT,w1 (by omega)];omega)) (ae_cons (decide_eq_false (by rw [eT];omega)) (ae_cons (by rw [eT];exact gbT (by omega)) (ra_ok (beq_eq_false_iff_ne.2 h8) (ra_ok (decide_eq_false (by omega)) (ra_ok (beq_eq_false_iff_ne.2 h8) (ae_cons (decide_eq_true (by omega)) ae_nil) _) _) _))))) (ob_cons rfl (ob_cons eR (ob_cons eK (ob_cons eR (ob_cons eT (ob_cons eT (ob_cons eT ob_nil))))))) (fun s=>canB_ok (by kernel_rfl)) (by kernel_rfl)
theorem shNd0 (s:Asg) {n k r:Int} (hlt:0<n):ToP Tryz.prog 122 shLB (filS2 s (shB (qL .nilsl) [] n)) .normal (Fil2 (shS (qL .nilsl) [] 53 61 n 1 1)):=by
 exact ToP.run2 (z:=zF) (n:=20000) (dec:=(tt 1 (nn 15 []))) (mask:=(mskC 29 (mskO 1 []))) (os:=((decide (0<n),true)::[])) (es:=[.oi n n,.oi 1 1,.oi 1 1,.oi 1 1,.oi 8000 8000,.oi 8000 8000,.oi 8000 8000]) soundG0i (fun dead=>by kernel_rfl) (ae_cons (decide_eq_true (by omega)) ae_nil) (ob_cons rfl (ob_cons rfl (ob_cons rfl (ob_cons rfl (ob_cons rfl (ob_cons rfl (ob_cons rfl ob_nil))))))) (fun s=>canB_ok (by kernel_rfl)) (by kernel_rfl)
theorem shNx (s:Asg) {n k r:Int} (hlt:n≤k):ToP Tryz.prog 122 shLB (filS2 s (shS (qL .nilsl) [] 53 61 n k r)) (.exit 0) (Fil2 (shX [] k r)):=by
 exact ToP.run2 (z:=zF) (n:=20000) (dec:=(ff 1 [])) (mask:=[true]) (os:=((decide (k<n),false)::[])) (es:=[.oi r r,.oi (8000*k) (8000*k),.oi (8000*k) (8000*k),.oi (8000*k) (8000*k)]) soundG3 (fun dead=>by kernel_rfl) (ae_cons (decide_eq_false (by omega)) ae_nil) (ob_cons rfl (ob_cons rfl (ob_cons rfl (ob_cons rfl ob_nil)))) (fun s=>canB_ok (by kernel_rfl)) (by kernel_rfl)
theorem shNx0 (s:Asg) {n k r:Int} (hlt:n≤0):ToP Tryz.prog 122 shLB (filS2 s (shB (qL .nilsl) [] n)) (.exit 0) (Fil2 ⟨[(5,.one (qL (.ptr 30 0)))],[]++shA,61⟩):=by
 exact ToP.run2 (z:=zF) (n:=20000) (dec:=(ff 1 [])) (mask:=[true]) (os:=((decide (0<n),false)::[])) (es:=[]) soundG3 (fun dead=>by kernel_rfl) (ae_cons (decide_eq_false (by omega)) ae_nil) ob_nil (fun s=>canB_ok (by kernel_rfl)) (by kernel_rfl)
theorem shBa (s:Asg) {n k r:Int} {o len cap:Nat} {L:List At} {ty:Go.TypeId} {fr:Nat×Nat} (hL:okL noP L=true) (hk:1≤k) (hn:n≤60) (hlt:k<n) (hr:0≤r∧r≤8) (h8:r=8):ToP Tryz.prog 122 shLB (filS2 s (shS (qR (.slx 0 o len cap)) [(0,⟨ty,fr,0,[],some L⟩)] 53 61 n k r)) .normal (Fil2 (shS (qR (.slx 0 o len cap)) [(0,⟨ty,fr,0,[],some L⟩)] 65 73 n (k+1) 0)):=by
 have eT:wr IntKind.i64 (8000*k+8000)=8000*(k+1):=by rw [w1 (by omega)];omega
 have eK:wr IntKind.i64 (k+1)=k+1:=w1 (by omega)
 exact ToP.run2 (z:=zF) (n:=20000) (dec:=(tt 6 (nn 6 (tt 1 (nn 1 (tt 1 (nn 1 []))))))) (mask:=(mskO 1 (mskC 19 (mskO 9 (mskC 1 (mskO 1 [])))))) (os:=((decide (wr IntKind.i64 (8000*k+8000)≤wr IntKind.i64 (wr IntKind.i64 (8000*k+8000) - 0)),true)::(decide (wr IntKind.i64 (8000*k+8000)≤8000*k),false)::(goodB (wr IntKind.i64 (8000*k+8000)) 8000 0 0 0 0 0 (wr IntKind.i64 (2 * -84238486)),true)::ra 7 (r==8,true) ((decide (k<n),true)::[]))) (es:=[.oa (.slx 0 o len cap) (.slx 0 o len cap),.oi n n,.oi (0) (0),.oi (wr IntKind.i64 (k+1)) (k+1),.ob ⟨ty,fr,0,L⟩ ⟨ty,fr,0,L⟩,.oi (0) (0),.oi (wr IntKind.i64 (8000*k+8000)) (8000*(k+1)),.oi (wr IntKind.i64 (8000*k+8000)) (8000*(k+1)),.oi (wr IntKind.i64 (8000*k+8000)) (8000*(k+1))]) soundGH (fun dead=>by kernel_rfl) (ae_cons (decide_eq_true (by rw [eT,w1 (by omega)];omega)) (ae_cons (decide_eq_false (by rw [eT];omega)) (ae_cons (by rw [eT];exact gbU (by omega)) (ra_ok (by rw [h8];rfl) (ae_cons (decide_eq_true (by omega)) ae_nil) _)))) (ob_cons rfl (ob_cons rfl (ob_cons rfl (ob_cons eK (ob_cons rfl (ob_cons rfl (ob_cons eT (ob_cons eT (ob_cons eT ob_nil))))))))) (fun s=>kstOK_of (by kernel_rfl) (memOKc (Nat.lt_of_lt_of_le Nat.zero_lt_one (Nat.le_of_ble_eq_true (by kernel_rfl))) (okL_mono noP_below hL) (by kernel_rfl) (by kernel_rfl))) (by kernel_rfl)
theorem shBd (s:Asg) {n k r:Int} {o len cap:Nat} {L:List At} {ty:Go.TypeId} {fr:Nat×Nat} (hL:okL noP L=true) (hk:1≤k) (hn:n≤60) (hlt:k<n) (hr:0≤r∧r≤8) (h8:r≠8) (hl:(len:Int)≤k):ToP Tryz.prog 122 shLB (filS2 s (shS (qR (.slx 0 o len cap)) [(0,⟨ty,fr,0,[],some L⟩)] 53 61 n k r)) .normal (Fil2 (shS (qR (.slx 0 o len cap)) [(0,⟨ty,fr,0,[],some L⟩)] 83 91 n (k+1) (r+1))):=by
 have eT:wr IntKind.i64 (8000*k+8000)=8000*(k+1):=by rw [w1 (by omega)];omega
 have eK:wr IntKind.i64 (k+1)=k+1:=w1 (by omega)
 have eR:wr IntKind.i64 (r+1)=r+1:=w1 (by omega)
 exact ToP.run2 (z:=zF) (n:=20000) (dec:=(tt 1 (ff 14 (nn 1 [])))) (mask:=(mskO 1 (mskC 9 (mskO 1 (mskC 19 (mskO 16 (mskC 1 (mskO 1 [])))))))) (os:=((wr IntKind.i64 (r+1) != 10,true)::(decide (wr IntKind.i64 (8000*k+8000)≤wr IntKind.i64 (wr IntKind.i64 (8000*k+8000) - 0)),true)::(decide (wr IntKind.i64 (8000*k+8000)≤8000*k),false)::(goodB (wr IntKind.i64 (8000*k+8000)) 8000 0 0 0 0 0 (-84238486),true)::ra 2 (r==8,false) (ra 7 (decide (k<(len:Int)),false) (ra 5 (r==8,false) ((decide (k<n),true)::[]))))) (es:=[.oa (.slx 0 o len cap) (.slx 0 o len cap),.oi n n,.oi (wr IntKind.i64 (r+1)) (r+1),.oi (wr IntKind.i64 (k+1)) (k+1),.ob ⟨ty,fr,0,L⟩ ⟨ty,fr,0,L⟩,.oi (wr IntKind.i64 (r+1)) (r+1),.oi (wr IntKind.i64 (8000*k+8000)) (8000*(k+1)),.oi (wr IntKind.i64 (8000*k+8000)) (8000*(k+1)),.oi (wr IntKind.i64 (8000*k+8000)) (8000*(k+1))]) soundGS (fun dead=>by kernel_rfl) (ae_cons (by rw [eR];exact bne_iff_ne.2 (by omega)) (ae_cons (decide_eq_true (by rw [eT,w1 (by omega)];omega)) (ae_cons (decide_eq_false (by rw [eT];omega)) (ae_cons (by rw [eT];exact gbT (by omega)) (ra_ok (beq_eq_false_iff_ne.2 h8) (ra_ok (decide_eq_false (by omega)) (ra_ok (beq_eq_false_iff_ne.2 h8) (ae_cons (decide_eq_true (by omega)) ae_nil) _) _) _))))) (ob_cons rfl (ob_cons rfl (ob_cons eR (ob_cons eK (ob_cons rfl (ob_cons eR (ob_cons eT (ob_cons eT (ob_cons eT ob_nil))))))))) (fun s=>kstOK_of (by kernel_rfl) (memOKc (Nat.lt_of_lt_of_le Nat.zero_lt_one (Nat.le_of_ble_eq_true (by kernel_rfl))) (okL_mono noP_below hL) (by kernel_rfl) (by kernel_rfl))) (by kernel_rfl)
theorem shBb (s:Asg) {n k r:Int} {o len cap:Nat} {L:List At} {ty:Go.TypeId} {fr:Nat×Nat} (hL:okL noP L=true) (hk:1≤k) (hn:n≤60) (hlt:k<n) (hr:0≤r∧r≤8) (h8:r≠8) (hl:k<(len:Int)) (hI:isIntAt .i64 L (o+(k:Int).toNat*1)=true) (hB:bitB L o k=true):ToP Tryz.prog 122 shLB (filS2 s (shS (qR (.slx 0 o len cap)) [(0,⟨ty,fr,0,[],some L⟩)] 53 61 n k r)) .normal (Fil2 (shS (qR (.slx 0 o len cap)) [(0,⟨ty,fr,0,[],some L⟩)] 65 73 n (k+1) 0)):=by
 have eT:wr IntKind.i64 (8000*k+8000)=8000*(k+1):=by rw [w1 (by omega)];omega
 have eK:wr IntKind.i64 (k+1)=k+1:=w1 (by omega)
 exact ToP.run2 (z:=zF) (n:=20000) (dec:=(tt 1 (ff 5 (tt 6 (ff 1 (tt 1 (ff 1 (tt 1 [])))))))) (mask:=(mskO 1 (mskC 19 (mskO 19 (mskC 1 (mskO 1 [])))))) (os:=((decide (wr IntKind.i64 (8000*k+8000)≤wr IntKind.i64 (wr IntKind.i64 (8000*k+8000) - 0)),true)::(decide (wr IntKind.i64 (8000*k+8000)≤8000*k),false)::(goodB (wr IntKind.i64 (8000*k+8000)) 8000 0 0 0 0 0 (wr IntKind.i64 (2 * -84238486)),true)::(bitB L o k,true)::ra 2 (r==8,false) (ra 4 (decide (k<(len:Int)),true) ((isIntAt .i64 L (o+(k:Int).toNat*1),true)::(decide (k<(len:Int)),true)::(decide ((0:Int)≤k)&&decide (k<(len:Int)),true)::ra 2 (decide (k<(len:Int)),true) (ra 5 (r==8,false) ((decide (k<n),true)::[])))))) (es:=[.oa (.slx 0 o len cap) (.slx 0 o len cap),.oi n n,.oi (0) (0),.oi (wr IntKind.i64 (k+1)) (k+1),.ob ⟨ty,fr,0,L⟩ ⟨ty,fr,0,L⟩,.oi (0) (0),.oi (wr IntKind.i64 (8000*k+8000)) (8000*(k+1)),.oi (wr IntKind.i64 (8000*k+8000)) (8000*(k+1)),.oi (wr IntKind.i64 (8000*k+8000)) (8000*(k+1))]) soundGH (fun dead=>by kernel_rfl) (ae_cons (decide_eq_true (by rw [eT,w1 (by omega)];omega)) (ae_cons (decide_eq_false (by rw [eT];omega)) (ae_cons (by rw [eT];exact gbU (by omega)) (ae_cons hB (ra_ok (beq_eq_false_iff_ne.2 h8) (ra_ok (decide_eq_true (by omega)) (ae_cons hI (ae_cons (decide_eq_true (by omega)) (ae_cons (by rw [decide_eq_true (by omega:(0:Int)≤k),decide_eq_true (by omega:k<(len:Int))];rfl) (ra_ok (decide_eq_true (by omega)) (ra_ok (beq_eq_false_iff_ne.2 h8) (ae_cons (decide_eq_true (by omega)) ae_nil) _) _)))) _) _))))) (ob_cons rfl (ob_cons rfl (ob_cons rfl (ob_cons eK (ob_cons rfl (ob_cons rfl (ob_cons eT (ob_cons eT (ob_cons eT ob_nil))))))))) (fun s=>kstOK_of (by kernel_rfl) (memOKc (Nat.lt_of_lt_of_le Nat.zero_lt_one (Nat.le_of_ble_eq_true (by kernel_rfl))) (okL_mono noP_below hL) (by kernel_rfl) (by kernel_rfl))) (by kernel_rfl)
theorem shBc (s:Asg) {n k r:Int} {o len cap:Nat} {L:List At} {ty:Go.TypeId} {fr:Nat×Nat} (hL:okL noP L=true) (hk:1≤k) (hn:n≤60) (hlt:k<n) (hr:0≤r∧r≤8) (h8:r≠8) (hl:k<(len:Int)) (hI:isIntAt .i64 L (o+(k:Int).toNat*1)=true) (hB:bitB L o k=false):ToP Tryz.prog 122 shLB (filS2 s (shS (qR (.slx 0 o len cap)) [(0,⟨ty,fr,0,[],some L⟩)] 53 61 n k r)) .normal (Fil2 (shS (qR (.slx 0 o len cap)) [(0,⟨ty,fr,0,[],some L⟩)] 83 91 n (k+1) (r+1))):=by
 have eT:wr IntKind.i64 (8000*k+8000)=8000*(k+1):=by rw [w1 (by omega)];omega
 have eK:wr IntKind.i64 (k+1)=k+1:=w1 (by omega)
 have eR:wr IntKind.i64 (r+1)=r+1:=w1 (by omega)
 exact ToP.run2 (z:=zF) (n:=20000) (dec:=(tt 1 (ff 5 (tt 6 (ff 1 (tt 1 (ff 2 []))))))) (mask:=(mskO 1 (mskC 9 (mskO 1 (mskC 19 (mskO 19 (mskC 1 (mskO 1 [])))))))) (os:=((wr IntKind.i64 (r+1) != 10,true)::(decide (wr IntKind.i64 (8000*k+8000)≤wr IntKind.i64 (wr IntKind.i64 (8000*k+8000) - 0)),true)::(decide (wr IntKind.i64 (8000*k+8000)≤8000*k),false)::(goodB (wr IntKind.i64 (8000*k+8000)) 8000 0 0 0 0 0 (-84238486),true)::(bitB L o k,false)::ra 2 (r==8,false) (ra 4 (decide (k<(len:Int)),true) ((isIntAt .i64 L (o+(k:Int).toNat*1),true)::(decide (k<(len:Int)),true)::(decide ((0:Int)≤k)&&decide (k<(len:Int)),true)::ra 2 (decide (k<(len:Int)),true) (ra 5 (r==8,false) ((decide (k<n),true)::[])))))) (es:=[.oa (.slx 0 o len cap) (.slx 0 o len cap),.oi n n,.oi (wr IntKind.i64 (r+1)) (r+1),.oi (wr IntKind.i64 (k+1)) (k+1),.ob ⟨ty,fr,0,L⟩ ⟨ty,fr,0,L⟩,.oi (wr IntKind.i64 (r+1)) (r+1),.oi (wr IntKind.i64 (8000*k+8000)) (8000*(k+1)),.oi (wr IntKind.i64 (8000*k+8000)) (8000*(k+1)),.oi (wr IntKind.i64 (8000*k+8000)) (8000*(k+1))]) soundGS (fun dead=>by kernel_rfl) (ae_cons (by rw [eR];exact bne_iff_ne.2 (by omega)) (ae_cons (decide_eq_true (by rw [eT,w1 (by omega)];omega)) (ae_cons (decide_eq_false (by rw [eT];omega)) (ae_cons (by rw [eT];exact gbT (by omega)) (ae_cons hB (ra_ok (beq_eq_false_iff_ne.2 h8) (ra_ok (decide_eq_true (by omega)) (ae_cons hI (ae_cons (decide_eq_true (by omega)) (ae_cons (by rw [decide_eq_true (by omega:(0:Int)≤k),decide_eq_true (by omega:k<(len:Int))];rfl) (ra_ok (decide_eq_true (by omega)) (ra_ok (beq_eq_false_iff_ne.2 h8) (ae_cons (decide_eq_true (by omega)) ae_nil) _) _)))) _) _)))))) (ob_cons rfl (ob_cons rfl (ob_cons eR (ob_cons eK (ob_cons rfl (ob_cons eR (ob_cons eT (ob_cons eT (ob_cons eT ob_nil))))))))) (fun s=>kstOK_of (by kernel_rfl) (memOKc (Nat.lt_of_lt_of_le Nat.zero_lt_one (Nat.le_of_ble_eq_true (by kernel_rfl))) (okL_mono noP_below hL) (by kernel_rfl) (by kernel_rfl))) (by kernel_rfl)
theorem shBd0 (s:Asg) {n k r:Int} {o len cap:Nat} {L:List At} {ty:Go.TypeId} {fr:Nat×Nat} (hL:okL noP L=true) (hlt:0<n) (hl:(len:Int)≤0):ToP Tryz.prog 122 shLB (filS2 s (shB (qR (.slx 0 o len cap)) [(0,⟨ty,fr,0,[],some L⟩)] n)) .normal (Fil2 (shS (qR (.slx 0 o len cap)) [(0,⟨ty,fr,0,[],some L⟩)] 53 61 n 1 1)):=by
 exact ToP.run2 (z:=zF) (n:=20000) (dec:=(tt 1 (nn 5 (ff 6 (nn 1 (ff 1 (nn 2 []))))))) (mask:=(mskC 28 (mskO 7 (mskC 1 (mskO 1 []))))) (os:=(ra 7 (decide (0<(len:Int)),false) ((decide (0<n),true)::[]))) (es:=[.oa (.slx 0 o len cap) (.slx 0 o len cap),.oi n n,.oi 1 1,.oi 1 1,.ob ⟨ty,fr,0,L⟩ ⟨ty,fr,0,L⟩,.oi 1 1,.oi 8000 8000,.oi 8000 8000,.oi 8000 8000]) soundG0i (fun dead=>by kernel_rfl) (ra_ok (decide_eq_false (by omega)) (ae_cons (decide_eq_true (by omega)) ae_nil) _) (ob_cons rfl (ob_cons rfl (ob_cons rfl (ob_cons rfl (ob_cons rfl (ob_cons rfl (ob_cons rfl (ob_cons rfl (ob_cons rfl ob_nil))))))))) (fun s=>kstOK_of (by kernel_rfl) (memOKc (Nat.lt_of_lt_of_le Nat.zero_lt_one (Nat.le_of_ble_eq_true (by kernel_rfl))) (okL_mono noP_below hL) (by kernel_rfl) (by kernel_rfl))) (by kernel_rfl)
theorem shBb0 (s:Asg) {n k r:Int} {o len cap:Nat} {L:List At} {ty:Go.TypeId} {fr:Nat×Nat} (hL:okL noP L=true) (hlt:0<n) (hl:0<(len:Int)) (hI:isIntAt .i64 L (o+(0:Int).toNat*1)=true) (hB:bitB L o 0=true):ToP Tryz.prog 122 shLB (filS2 s (shB (qR (.slx 0 o len cap)) [(0,⟨ty,fr,0,[],some L⟩)] n)) .normal (Fil2 (shS (qR (.slx 0 o len cap)) [(0,⟨ty,fr,0,[],some L⟩)] 35 43 n 1 0)):=by
 exact ToP.run2 (z:=zF) (n:=20000) (dec:=(tt 1 (nn 5 (tt 6 (nn 1 (tt 1 (nn 1 (tt 1 [])))))))) (mask:=(mskC 19 (mskO 10 (mskC 1 (mskO 1 []))))) (os:=((bitB L o 0,true)::ra 4 (decide (0<(len:Int)),true) ((isIntAt .i64 L (o+(0:Int).toNat*1),true)::(decide (0<(len:Int)),true)::(decide ((0:Int)≤0)&&decide (0<(len:Int)),true)::ra 2 (decide (0<(len:Int)),true) ((decide (0<n),true)::[])))) (es:=[.oa (.slx 0 o len cap) (.slx 0 o len cap),.oi n n,.oi 0 0,.oi 1 1,.ob ⟨ty,fr,0,L⟩ ⟨ty,fr,0,L⟩,.oi 0 0,.oi 8000 8000,.oi 8000 8000,.oi 8000 8000]) soundG0i (fun dead=>by kernel_rfl) (ae_cons hB (ra_ok (decide_eq_true (by omega)) (ae_cons hI (ae_cons (decide_eq_true (by omega)) (ae_cons (by rw [decide_eq_true (by omega:(0:Int)≤0),decide_eq_true (by omega:0<(len:Int))];rfl) (ra_ok (decide_eq_true (by omega)) (ae_cons (decide_eq_true (by omega)) ae_nil) _)))) _)) (ob_cons rfl (ob_cons rfl (ob_cons rfl (ob_cons rfl (ob_cons rfl (ob_cons rfl (ob_cons rfl (ob_cons rfl (ob_cons rfl ob_nil))))))))) (fun s=>kstOK_of (by kernel_rfl) (memOKc (Nat.lt_of_lt_of_le Nat.zero_lt_one (Nat.le_of_ble_eq_true (by kernel_rfl))) (okL_mono noP_below hL) (by kernel_rfl) (by kernel_rfl))) (by kernel_rfl)
theorem shBc0 (s:Asg) {n k r:Int} {o len cap:Nat} {L:List At} {ty:Go.TypeId} {fr:Nat×Nat} (hL:okL noP L=true) (hlt:0<n) (hl:0<(len:Int)) (hI:isIntAt .i64 L (o+(0:Int).toNat*1)=true) (hB:bitB L o 0=false):ToP Tryz.prog 122 shLB (filS2 s (shB (qR (.slx 0 o len cap)) [(0,⟨ty,fr,0,[],some L⟩)] n)) .normal (Fil2 (shS (qR (.slx 0 o len cap)) [(0,⟨ty,fr,0,[],some L⟩)] 53 61 n 1 1)):=by
 exact ToP.run2 (z:=zF) (n:=20000) (dec:=(tt 1 (nn 5 (tt 6 (nn 1 (tt 1 (nn 1 (ff 1 [])))))))) (mask:=(mskC 28 (mskO 10 (mskC 1 (mskO 1 []))))) (os:=((bitB L o 0,false)::ra 4 (decide (0<(len:Int)),true) ((isIntAt .i64 L (o+(0:Int).toNat*1),true)::(decide (0<(len:Int)),true)::(decide ((0:Int)≤0)&&decide (0<(len:Int)),true)::ra 2 (decide (0<(len:Int)),true) ((decide (0<n),true)::[])))) (es:=[.oa (.slx 0 o len cap) (.slx 0 o len cap),.oi n n,.oi 1 1,.oi 1 1,.ob ⟨ty,fr,0,L⟩ ⟨ty,fr,0,L⟩,.oi 1 1,.oi 8000 8000,.oi 8000 8000,.oi 8000 8000]) soundG0i (fun dead=>by kernel_rfl) (ae_cons hB (ra_ok (decide_eq_true (by omega)) (ae_cons hI (ae_cons (decide_eq_true (by omega)) (ae_cons (by rw [decide_eq_true (by omega:(0:Int)≤0),decide_eq_true (by omega:0<(len:Int))];rfl) (ra_ok (decide_eq_true (by omega)) (ae_cons (decide_eq_true (by omega)) ae_nil) _)))) _)) (ob_cons rfl (ob_cons rfl (ob_cons rfl (ob_cons rfl (ob_cons rfl (ob_cons rfl (ob_cons rfl (ob_cons rfl (ob_cons rfl ob_nil))))))))) (fun s=>kstOK_of (by kernel_rfl) (memOKc (Nat.lt_of_lt_of_le Nat.zero_lt_one (Nat.le_of_ble_eq_true (by kernel_rfl))) (okL_mono noP_below hL) (by kernel_rfl) (by kernel_rfl))) (by kernel_rfl)
theorem shBx (s:Asg) {n k r:Int} {o len cap:Nat} {L:List At} {ty:Go.TypeId} {fr:Nat×Nat} (hL:okL noP L=true) (hlt:n≤k):ToP Tryz.prog 122 shLB (filS2 s (shS (qR (.slx 0 o len cap)) [(0,⟨ty,fr,0,[],some L⟩)] 53 61 n k r)) (.exit 0) (Fil2 (shX [(0,⟨ty,fr,0,[],some L⟩)] k r)):=by
 exact ToP.run2 (z:=zF) (n:=20000) (dec:=(ff 1 [])) (mask:=[true]) (os:=((decide (k<n),false)::[])) (es:=[.ob ⟨ty,fr,0,L⟩ ⟨ty,fr,0,L⟩,.oi r r,.oi (8000*k) (8000*k),.oi (8000*k) (8000*k),.oi (8000*k) (8000*k)]) soundG3 (fun dead=>by kernel_rfl) (ae_cons (decide_eq_false (by omega)) ae_nil) (ob_cons rfl (ob_cons rfl (ob_cons rfl (ob_cons rfl (ob_cons rfl ob_nil))))) (fun s=>kstOK_of (by kernel_rfl) (memOKc (Nat.lt_of_lt_of_le Nat.zero_lt_one (Nat.le_of_ble_eq_true (by kernel_rfl))) (okL_mono noP_below hL) (by kernel_rfl) (by kernel_rfl))) (by kernel_rfl)
theorem shBx0 (s:Asg) {n k r:Int} {o len cap:Nat} {L:List At} {ty:Go.TypeId} {fr:Nat×Nat} (hL:okL noP L=true) (hlt:n≤0):ToP Tryz.prog 122 shLB (filS2 s (shB (qR (.slx 0 o len cap)) [(0,⟨ty,fr,0,[],some L⟩)] n)) (.exit 0) (Fil2 ⟨[(5,.one (qL (.ptr 30 0)))],[(0,⟨ty,fr,0,[],some L⟩)]++shA,61⟩):=by
 exact ToP.run2 (z:=zF) (n:=20000) (dec:=(ff 1 [])) (mask:=[true]) (os:=((decide (0<n),false)::[])) (es:=[.ob ⟨ty,fr,0,L⟩ ⟨ty,fr,0,L⟩]) soundG3 (fun dead=>by kernel_rfl) (ae_cons (decide_eq_false (by omega)) ae_nil) (ob_cons rfl ob_nil) (fun s=>kstOK_of (by kernel_rfl) (memOKc (Nat.lt_of_lt_of_le Nat.zero_lt_one (Nat.le_of_ble_eq_true (by kernel_rfl))) (okL_mono noP_below hL) (by kernel_rfl) (by kernel_rfl))) (by kernel_rfl)
end Go.Proofs.YtfepmlklbapfiaaGreat

/- TopShaken: from the beginning to the end. -/
namespace Go.Proofs.YtfepmlklbapfiaaGreat
open Go.Lr
set_option linter.unusedVariables false
def shP (a:Go.Lr.P2) (m0:List (Nat×PB2)) (n:Int):PS2:=⟨[(0,.one a),(1,.one (qS n))],m0,1⟩
def shR (m0:List (Nat×PB2)) (j:Nat):PS2:=⟨[(4,.one (qB true))],m0,j⟩
def shQ (a:Go.Lr.P2) (m0:List (Nat×PB2)) (n:Int):PS2:=⟨[(0,.one a),(1,.one (qS n)),(5,.one (qL (.ptr 30 0)))],m0++shA,31⟩
def shQ6 (a:Go.Lr.P2) (m0:List (Nat×PB2)) (n:Int):PS2:=⟨[(0,.one a),(1,.one (qS n)),(5,.one (qL (.ptr 30 0))),(6,.one (qI 0))],m0++shA,31⟩
def shX0 (m0:List (Nat×PB2)):PS2:=⟨[(5,.one (qL (.ptr 30 0)))],m0++shA,61⟩
def rnS (Q:Nat) (s:Asg):Asg:=⟨fun i=>s.F (swq [(53,Q)] i),fun i=>s.G (swq [(53,Q)] i),s.fs,s.gs⟩
abbrev rnK (Q:Nat) (x:Kst) (nb:Nat):Kst:=⟨renLv (swp [(53,Q)]) x.live,renM (swp [(53,Q)]) x.mem,nb⟩
abbrev ShGoal (args:Array Go.Value) (w:Go.World):Prop:=Go.Calls Tryz.prog 3 args w fun e w'=>e = .returned (.bool true)∧Go.RowKit.Below w.heap.size w w'
theorem shN1 (s:Asg) {n k r:Int}:ToP Tryz.prog 122 (c1 (bodyF Tryz.prog 3)) (filS2 s (shP (qL .nilsl) [] n)) .normal (Fil2 (shP (qL .nilsl) [] n)):=by
 exact ToP.run2 (z:=zF) (n:=20000) (dec:=[]) (mask:=[]) (os:=([])) (es:=[.oi n n]) soundGA (fun dead=>by kernel_rfl) ae_nil (ob_cons rfl ob_nil) (fun s=>(canB_ok (by kernel_rfl))) (by kernel_rfl)
theorem shN2 (s:Asg) {n k r:Int}:ToP Tryz.prog 122 (c1 (c2 (bodyF Tryz.prog 3))) (filS2 s (shP (qL .nilsl) [] n)) .normal (Fil2 (shP (qL .nilsl) [] n)):=by
 exact ToP.run2 (z:=zF) (n:=20000) (dec:=[]) (mask:=[]) (os:=([])) (es:=[.oi n n]) soundGA (fun dead=>by kernel_rfl) ae_nil (ob_cons rfl ob_nil) (fun s=>(canB_ok (by kernel_rfl))) (by kernel_rfl)
theorem shN3 (s:Asg) {n k r:Int} (h0:0≤n) (h1:n≤60):ToP Tryz.prog 122 (c1 (c2 (c2 (bodyF Tryz.prog 3)))) (filS2 s (shP (qL .nilsl) [] n)) .normal (Fil2 (shP (qL .nilsl) [] n)):=by
 exact ToP.run2 (z:=zF) (n:=20000) (dec:=(ff 4 [])) (mask:=[true,true,true,true]) (os:=((decide (n>60),false)::ra 3 (decide (n<0),false) [])) (es:=[.oi n n]) soundGA (fun dead=>by kernel_rfl) (ae_cons (decide_eq_false (by omega)) (ra_ok (decide_eq_false (by omega)) ae_nil _)) (ob_cons rfl ob_nil) (fun s=>(canB_ok (by kernel_rfl))) (by kernel_rfl)
theorem shN3a (s:Asg) {n k r:Int} (h0:n<0):ToP Tryz.prog 122 (c1 (c2 (c2 (bodyF Tryz.prog 3)))) (filS2 s (shP (qL .nilsl) [] n)) .ret (Fil2 (shR [] 1)):=by
 exact ToP.run2 (z:=zF) (n:=20000) (dec:=(tt 3 (nn 1 []))) (mask:=[true,true,true]) (os:=(ra 3 (decide (n<0),true) [])) (es:=[]) soundGA (fun dead=>by kernel_rfl) (ra_ok (decide_eq_true (by omega)) ae_nil _) ob_nil (fun s=>(canB_ok (by kernel_rfl))) (by kernel_rfl)
theorem shN3b (s:Asg) {n k r:Int} (h0:n>60):ToP Tryz.prog 122 (c1 (c2 (c2 (bodyF Tryz.prog 3)))) (filS2 s (shP (qL .nilsl) [] n)) .ret (Fil2 (shR [] 1)):=by
 exact ToP.run2 (z:=zF) (n:=20000) (dec:=(ff 3 (tt 1 []))) (mask:=[true,true,true,true]) (os:=((decide (n>60),true)::ra 3 (decide (n<0),false) [])) (es:=[]) soundGA (fun dead=>by kernel_rfl) (ae_cons (decide_eq_true (by omega)) (ra_ok (decide_eq_false (by omega)) ae_nil _)) ob_nil (fun s=>(canB_ok (by kernel_rfl))) (by kernel_rfl)
theorem shN4 (s:Asg) {n k r:Int}:ToP Tryz.prog 122 (c1 (c2 (c2 (c2 (bodyF Tryz.prog 3))))) (filS2 s (shP (qL .nilsl) [] n)) .normal (Fil2 (shQ (qL .nilsl) [] n)):=by
 exact ToP.run2 (z:=zF) (n:=20000) (dec:=[]) (mask:=[]) (os:=([])) (es:=[.oi n n]) soundG3 (fun dead=>by kernel_rfl) ae_nil (ob_cons rfl ob_nil) (fun s=>(canB_ok (by kernel_rfl))) (by kernel_rfl)
theorem shN5 (s:Asg) {n k r:Int}:ToP Tryz.prog 122 (c1 (c2 (c2 (c2 (c2 (bodyF Tryz.prog 3)))))) (filS2 s (shQ (qL .nilsl) [] n)) .normal (Fil2 (shQ (qL .nilsl) [] n)):=by
 exact ToP.run2 (z:=zF) (n:=20000) (dec:=[]) (mask:=[]) (os:=([])) (es:=[.oi n n]) soundG3 (fun dead=>by kernel_rfl) ae_nil (ob_cons rfl ob_nil) (fun s=>(canB_ok (by kernel_rfl))) (by kernel_rfl)
theorem shN6 (s:Asg) {n k r:Int}:ToP Tryz.prog 122 (c1 (c2 (c2 (c2 (c2 (c2 (bodyF Tryz.prog 3))))))) (filS2 s (shQ (qL .nilsl) [] n)) .normal (Fil2 (shQ6 (qL .nilsl) [] n)):=by
 exact ToP.run2 (z:=zF) (n:=20000) (dec:=[]) (mask:=[]) (os:=([])) (es:=[.oi n n]) soundG3 (fun dead=>by kernel_rfl) ae_nil (ob_cons rfl ob_nil) (fun s=>(canB_ok (by kernel_rfl))) (by kernel_rfl)
theorem shN7 (s:Asg) {n k r:Int}:ToP Tryz.prog 122 (c1 (c1 (c2 (c2 (c2 (c2 (c2 (c2 (bodyF Tryz.prog 3))))))))) (filS2 s (shQ6 (qL .nilsl) [] n)) .normal (Fil2 (shB (qL .nilsl) [] n)):=by
 exact ToP.run2 (z:=zF) (n:=20000) (dec:=[]) (mask:=[]) (os:=([])) (es:=[.oi n n]) soundG3 (fun dead=>by kernel_rfl) ae_nil (ob_cons rfl ob_nil) (fun s=>(canB_ok (by kernel_rfl))) (by kernel_rfl)
theorem shNz (s:Asg) {n k r:Int}:ToP Tryz.prog 122 (c2 (c2 (c2 (c2 (c2 (c2 (c2 (bodyF Tryz.prog 3)))))))) (filS2 s (shX [] k r)) .ret (Fil2 (shR [] 61)):=by
 exact ToP.run2 (z:=zF) (n:=20000) (dec:=[]) (mask:=[]) (os:=([])) (es:=[]) soundG3 (fun dead=>by kernel_rfl) ae_nil ob_nil (fun s=>(canB_ok (by kernel_rfl))) (by kernel_rfl)
theorem shNz0 (s:Asg) {n k r:Int}:ToP Tryz.prog 122 (c2 (c2 (c2 (c2 (c2 (c2 (c2 (bodyF Tryz.prog 3)))))))) (filS2 s (shX0 [])) .ret (Fil2 (shR [] 61)):=by
 exact ToP.run2 (z:=zF) (n:=20000) (dec:=[]) (mask:=[]) (os:=([])) (es:=[]) soundG3 (fun dead=>by kernel_rfl) ae_nil ob_nil (fun s=>(canB_ok (by kernel_rfl))) (by kernel_rfl)
theorem shNr83 (s:Asg) {n k r:Int} (hr:0≤r∧r≤8):∃nb,KstOK (rnK 83 (filS2 s (shS (qL .nilsl) [] 83 91 n k r)) nb)∧∃s' r',(0≤r'∧r'≤8)∧rnK 83 (filS2 s (shS (qL .nilsl) [] 83 91 n k r)) nb=filS2 s' (shS (qL .nilsl) [] 53 61 n k r'):=by
 have e:rnK 83 (filS2 s (shS (qL .nilsl) [] 83 91 n k r)) 61=filS2 (rnS 83 s) (shS (qL .nilsl) [] 53 61 n k r):=by kernel_rfl
 refine ⟨61, ?_,_,r,hr,e⟩
 rw [e]
 exact (canB_ok (by kernel_rfl))
theorem shNr65 (s:Asg) {n k r:Int} (hr:0≤r∧r≤8):∃nb,KstOK (rnK 65 (filS2 s (shS (qL .nilsl) [] 65 73 n k r)) nb)∧∃s' r',(0≤r'∧r'≤8)∧rnK 65 (filS2 s (shS (qL .nilsl) [] 65 73 n k r)) nb=filS2 s' (shS (qL .nilsl) [] 53 61 n k r'):=by
 have e:rnK 65 (filS2 s (shS (qL .nilsl) [] 65 73 n k r)) 61=filS2 (rnS 65 s) (shS (qL .nilsl) [] 53 61 n k r):=by kernel_rfl
 refine ⟨61, ?_,_,r,hr,e⟩
 rw [e]
 exact (canB_ok (by kernel_rfl))
theorem shNStep (s:Asg) {n k r:Int} (hk:1≤k) (hn:n≤60) (hlt:k<n) (hr:0≤r∧r≤8):ToR Tryz.prog 122 1 shLB (filS2 s (shS (qL .nilsl) [] 53 61 n k r)) .normal (fun x=>∃s r',(0≤r'∧r'≤8)∧x=filS2 s (shS (qL .nilsl) [] 53 61 n (k+1) r')):=by
 by_cases h8:r=8
 ·exact (ToR.of_ToP (shNa s hk hn hlt hr h8) (by kernel_rfl)).ren [(53,65)] (by kernel_rfl) (by rintro x ⟨s,rfl⟩;exact shNr65 s (by omega))
 ·exact (ToR.of_ToP (shNd s hk hn hlt hr h8) (by kernel_rfl)).ren [(53,83)] (by kernel_rfl) (by rintro x ⟨s,rfl⟩;exact shNr83 s (by omega))
theorem shNFirst (s:Asg) {n:Int} (hlt:0<n):ToR Tryz.prog 122 1 shLB (filS2 s (shB (qL .nilsl) [] n)) .normal (fun x=>∃s r',(0≤r'∧r'≤8)∧x=filS2 s (shS (qL .nilsl) [] 53 61 n 1 r')):=by
 exact (ToR.of_ToP (shNd0 s (k:=0) (r:=0) hlt) (by kernel_rfl)).mono (by rintro x ⟨s,rfl⟩;exact ⟨s,1,by omega,rfl⟩)
theorem shNLoop {n:Int} (hn:n≤60):∀(m:Nat) (k r:Int) (s:Asg),1≤k→k+m=n→0≤r∧r≤8→RdR Tryz.prog 122 1 shLB (m+1) (filS2 s (shS (qL .nilsl) [] 53 61 n k r)) (.exit 0) (fun x=>(∃s k r,x=filS2 s (shX [] k r))∨∃s,x=filS2 s (shX0 []))
 | 0,k,r,s,h1,h2,h3=>RdR.last (by simp) ((ToR.of_ToP (shNx s (by omega)) (by kernel_rfl)).mono (by rintro x ⟨s,rfl⟩;exact .inl ⟨s,k,r,rfl⟩))
 | m+1,k,r,s,h1,h2,h3=>RdR.next (shNStep s h1 hn (by omega) h3) (by rintro x ⟨s,r',h,rfl⟩;exact shNLoop hn m (k+1) r' s (by omega) (by omega) h)
theorem shNAll (s:Asg) {n:Int}:ToR Tryz.prog 122 1 (bodyF Tryz.prog 3) (filS2 s (shP (qL .nilsl) [] n)) .ret (fun x=>∃s j,x=filS2 s (shR [] j)):=by
 refine ToR.seq (by kernel_rfl) (ToR.of_ToP (shN1 s (k:=0) (r:=0)) (by kernel_rfl)) ?_
 rintro x ⟨s,rfl⟩
 refine ToR.seq (by kernel_rfl) (ToR.of_ToP (shN2 s (k:=0) (r:=0)) (by kernel_rfl)) ?_
 rintro x ⟨s,rfl⟩
 by_cases h0:n<0
 ·exact ToR.seq_out (by kernel_rfl) (by simp) ((ToR.of_ToP (shN3a s (k:=0) (r:=0) h0) (by kernel_rfl)).mono (by rintro x ⟨s,rfl⟩;exact ⟨s,1,rfl⟩))
 by_cases h1:n>60
 ·exact ToR.seq_out (by kernel_rfl) (by simp) ((ToR.of_ToP (shN3b s (k:=0) (r:=0) h1) (by kernel_rfl)).mono (by rintro x ⟨s,rfl⟩;exact ⟨s,1,rfl⟩))
 refine ToR.seq (by kernel_rfl) (ToR.of_ToP (shN3 s (k:=0) (r:=0) (by omega) (by omega)) (by kernel_rfl)) ?_
 rintro x ⟨s,rfl⟩
 refine ToR.seq (by kernel_rfl) (ToR.of_ToP (shN4 s (k:=0) (r:=0)) (by kernel_rfl)) ?_
 rintro x ⟨s,rfl⟩
 refine ToR.seq (by kernel_rfl) (ToR.of_ToP (shN5 s (k:=0) (r:=0)) (by kernel_rfl)) ?_
 rintro x ⟨s,rfl⟩
 refine ToR.seq (by kernel_rfl) (ToR.of_ToP (shN6 s (k:=0) (r:=0)) (by kernel_rfl)) ?_
 rintro x ⟨s,rfl⟩
 refine ToR.seq (by kernel_rfl) (B:=(fun x=>(∃s k r,x=filS2 s (shX [] k r))∨∃s,x=filS2 s (shX0 []))) (ToR.seq (by kernel_rfl) (ToR.of_ToP (shN7 s (k:=0) (r:=0)) (by kernel_rfl)) ?_) ?_
 ·rintro x ⟨s,rfl⟩
  refine ToR.block (id:=0) (e:= .exit 0) (by kernel_rfl) ?_ (.inl rfl)
  by_cases h2:0<n
  ·refine ToR.loop (m:=(n - 1).toNat+1+1) (by kernel_rfl) (RdR.next (shNFirst s h2) ?_)
   rintro x ⟨s,r',h,rfl⟩
   exact shNLoop (by omega) _ 1 r' s (by omega) (by omega) h
  ·exact ToR.loop (m:=1) (by kernel_rfl) (RdR.last (by simp) ((ToR.of_ToP (shNx0 s (k:=0) (r:=0) (by omega)) (by kernel_rfl)).mono (by rintro x ⟨s,rfl⟩;exact .inr ⟨s,rfl⟩)))
 ·rintro x (⟨s,k,r,rfl⟩ | ⟨s,rfl⟩)
  ·exact (ToR.of_ToP (shNz s (n:=0)) (by kernel_rfl)).mono (by rintro x ⟨s,rfl⟩;exact ⟨s,61,rfl⟩)
  ·exact (ToR.of_ToP (shNz0 s (n:=0) (k:=0) (r:=0)) (by kernel_rfl)).mono (by rintro x ⟨s,rfl⟩;exact ⟨s,61,rfl⟩)
theorem shB1 (s:Asg) {n k r:Int} {o len cap:Nat} {L:List At} {ty:Go.TypeId} {fr:Nat×Nat} (hL:okL noP L=true):ToP Tryz.prog 122 (c1 (bodyF Tryz.prog 3)) (filS2 s (shP (qR (.slx 0 o len cap)) [(0,⟨ty,fr,0,[],some L⟩)] n)) .normal (Fil2 (shP (qR (.slx 0 o len cap)) [(0,⟨ty,fr,0,[],some L⟩)] n)):=by
 exact ToP.run2 (z:=zF) (n:=20000) (dec:=[]) (mask:=[]) (os:=([])) (es:=[.oa (.slx 0 o len cap) (.slx 0 o len cap),.oi n n,.ob ⟨ty,fr,0,L⟩ ⟨ty,fr,0,L⟩]) soundGA (fun dead=>by kernel_rfl) ae_nil (ob_cons rfl (ob_cons rfl (ob_cons rfl ob_nil))) (fun s=>(kstOK_of (by kernel_rfl) (memOKc (Nat.lt_of_lt_of_le Nat.zero_lt_one (Nat.le_of_ble_eq_true (by kernel_rfl))) (okL_mono noP_below hL) (by kernel_rfl) (by kernel_rfl)))) (by kernel_rfl)
theorem shB2 (s:Asg) {n k r:Int} {o len cap:Nat} {L:List At} {ty:Go.TypeId} {fr:Nat×Nat} (hL:okL noP L=true):ToP Tryz.prog 122 (c1 (c2 (bodyF Tryz.prog 3))) (filS2 s (shP (qR (.slx 0 o len cap)) [(0,⟨ty,fr,0,[],some L⟩)] n)) .normal (Fil2 (shP (qR (.slx 0 o len cap)) [(0,⟨ty,fr,0,[],some L⟩)] n)):=by
 exact ToP.run2 (z:=zF) (n:=20000) (dec:=[]) (mask:=[]) (os:=([])) (es:=[.oa (.slx 0 o len cap) (.slx 0 o len cap),.oi n n,.ob ⟨ty,fr,0,L⟩ ⟨ty,fr,0,L⟩]) soundGA (fun dead=>by kernel_rfl) ae_nil (ob_cons rfl (ob_cons rfl (ob_cons rfl ob_nil))) (fun s=>(kstOK_of (by kernel_rfl) (memOKc (Nat.lt_of_lt_of_le Nat.zero_lt_one (Nat.le_of_ble_eq_true (by kernel_rfl))) (okL_mono noP_below hL) (by kernel_rfl) (by kernel_rfl)))) (by kernel_rfl)
theorem shB3 (s:Asg) {n k r:Int} {o len cap:Nat} {L:List At} {ty:Go.TypeId} {fr:Nat×Nat} (hL:okL noP L=true) (h0:0≤n) (h1:n≤60):ToP Tryz.prog 122 (c1 (c2 (c2 (bodyF Tryz.prog 3)))) (filS2 s (shP (qR (.slx 0 o len cap)) [(0,⟨ty,fr,0,[],some L⟩)] n)) .normal (Fil2 (shP (qR (.slx 0 o len cap)) [(0,⟨ty,fr,0,[],some L⟩)] n)):=by
 exact ToP.run2 (z:=zF) (n:=20000) (dec:=(ff 4 [])) (mask:=[true,true,true,true]) (os:=((decide (n>60),false)::ra 3 (decide (n<0),false) [])) (es:=[.oa (.slx 0 o len cap) (.slx 0 o len cap),.oi n n,.ob ⟨ty,fr,0,L⟩ ⟨ty,fr,0,L⟩]) soundGA (fun dead=>by kernel_rfl) (ae_cons (decide_eq_false (by omega)) (ra_ok (decide_eq_false (by omega)) ae_nil _)) (ob_cons rfl (ob_cons rfl (ob_cons rfl ob_nil))) (fun s=>(kstOK_of (by kernel_rfl) (memOKc (Nat.lt_of_lt_of_le Nat.zero_lt_one (Nat.le_of_ble_eq_true (by kernel_rfl))) (okL_mono noP_below hL) (by kernel_rfl) (by kernel_rfl)))) (by kernel_rfl)
theorem shB3a (s:Asg) {n k r:Int} {o len cap:Nat} {L:List At} {ty:Go.TypeId} {fr:Nat×Nat} (hL:okL noP L=true) (h0:n<0):ToP Tryz.prog 122 (c1 (c2 (c2 (bodyF Tryz.prog 3)))) (filS2 s (shP (qR (.slx 0 o len cap)) [(0,⟨ty,fr,0,[],some L⟩)] n)) .ret (Fil2 (shR [(0,⟨ty,fr,0,[],some L⟩)] 1)):=by
 exact ToP.run2 (z:=zF) (n:=20000) (dec:=(tt 3 (nn 1 []))) (mask:=[true,true,true]) (os:=(ra 3 (decide (n<0),true) [])) (es:=[.ob ⟨ty,fr,0,L⟩ ⟨ty,fr,0,L⟩]) soundGA (fun dead=>by kernel_rfl) (ra_ok (decide_eq_true (by omega)) ae_nil _) (ob_cons rfl ob_nil) (fun s=>(kstOK_of (by kernel_rfl) (memOKc (Nat.lt_of_lt_of_le Nat.zero_lt_one (Nat.le_of_ble_eq_true (by kernel_rfl))) (okL_mono noP_below hL) (by kernel_rfl) (by kernel_rfl)))) (by kernel_rfl)
theorem shB3b (s:Asg) {n k r:Int} {o len cap:Nat} {L:List At} {ty:Go.TypeId} {fr:Nat×Nat} (hL:okL noP L=true) (h0:n>60):ToP Tryz.prog 122 (c1 (c2 (c2 (bodyF Tryz.prog 3)))) (filS2 s (shP (qR (.slx 0 o len cap)) [(0,⟨ty,fr,0,[],some L⟩)] n)) .ret (Fil2 (shR [(0,⟨ty,fr,0,[],some L⟩)] 1)):=by
 exact ToP.run2 (z:=zF) (n:=20000) (dec:=(ff 3 (tt 1 []))) (mask:=[true,true,true,true]) (os:=((decide (n>60),true)::ra 3 (decide (n<0),false) [])) (es:=[.ob ⟨ty,fr,0,L⟩ ⟨ty,fr,0,L⟩]) soundGA (fun dead=>by kernel_rfl) (ae_cons (decide_eq_true (by omega)) (ra_ok (decide_eq_false (by omega)) ae_nil _)) (ob_cons rfl ob_nil) (fun s=>(kstOK_of (by kernel_rfl) (memOKc (Nat.lt_of_lt_of_le Nat.zero_lt_one (Nat.le_of_ble_eq_true (by kernel_rfl))) (okL_mono noP_below hL) (by kernel_rfl) (by kernel_rfl)))) (by kernel_rfl)
theorem shB4 (s:Asg) {n k r:Int} {o len cap:Nat} {L:List At} {ty:Go.TypeId} {fr:Nat×Nat} (hL:okL noP L=true):ToP Tryz.prog 122 (c1 (c2 (c2 (c2 (bodyF Tryz.prog 3))))) (filS2 s (shP (qR (.slx 0 o len cap)) [(0,⟨ty,fr,0,[],some L⟩)] n)) .normal (Fil2 (shQ (qR (.slx 0 o len cap)) [(0,⟨ty,fr,0,[],some L⟩)] n)):=by
 exact ToP.run2 (z:=zF) (n:=20000) (dec:=[]) (mask:=[]) (os:=([])) (es:=[.oa (.slx 0 o len cap) (.slx 0 o len cap),.oi n n,.ob ⟨ty,fr,0,L⟩ ⟨ty,fr,0,L⟩]) soundG3 (fun dead=>by kernel_rfl) ae_nil (ob_cons rfl (ob_cons rfl (ob_cons rfl ob_nil))) (fun s=>(kstOK_of (by kernel_rfl) (memOKc (Nat.lt_of_lt_of_le Nat.zero_lt_one (Nat.le_of_ble_eq_true (by kernel_rfl))) (okL_mono noP_below hL) (by kernel_rfl) (by kernel_rfl)))) (by kernel_rfl)
theorem shB5 (s:Asg) {n k r:Int} {o len cap:Nat} {L:List At} {ty:Go.TypeId} {fr:Nat×Nat} (hL:okL noP L=true):ToP Tryz.prog 122 (c1 (c2 (c2 (c2 (c2 (bodyF Tryz.prog 3)))))) (filS2 s (shQ (qR (.slx 0 o len cap)) [(0,⟨ty,fr,0,[],some L⟩)] n)) .normal (Fil2 (shQ (qR (.slx 0 o len cap)) [(0,⟨ty,fr,0,[],some L⟩)] n)):=by
 exact ToP.run2 (z:=zF) (n:=20000) (dec:=[]) (mask:=[]) (os:=([])) (es:=[.oa (.slx 0 o len cap) (.slx 0 o len cap),.oi n n,.ob ⟨ty,fr,0,L⟩ ⟨ty,fr,0,L⟩]) soundG3 (fun dead=>by kernel_rfl) ae_nil (ob_cons rfl (ob_cons rfl (ob_cons rfl ob_nil))) (fun s=>(kstOK_of (by kernel_rfl) (memOKc (Nat.lt_of_lt_of_le Nat.zero_lt_one (Nat.le_of_ble_eq_true (by kernel_rfl))) (okL_mono noP_below hL) (by kernel_rfl) (by kernel_rfl)))) (by kernel_rfl)
theorem shB6 (s:Asg) {n k r:Int} {o len cap:Nat} {L:List At} {ty:Go.TypeId} {fr:Nat×Nat} (hL:okL noP L=true):ToP Tryz.prog 122 (c1 (c2 (c2 (c2 (c2 (c2 (bodyF Tryz.prog 3))))))) (filS2 s (shQ (qR (.slx 0 o len cap)) [(0,⟨ty,fr,0,[],some L⟩)] n)) .normal (Fil2 (shQ6 (qR (.slx 0 o len cap)) [(0,⟨ty,fr,0,[],some L⟩)] n)):=by
 exact ToP.run2 (z:=zF) (n:=20000) (dec:=[]) (mask:=[]) (os:=([])) (es:=[.oa (.slx 0 o len cap) (.slx 0 o len cap),.oi n n,.ob ⟨ty,fr,0,L⟩ ⟨ty,fr,0,L⟩]) soundG3 (fun dead=>by kernel_rfl) ae_nil (ob_cons rfl (ob_cons rfl (ob_cons rfl ob_nil))) (fun s=>(kstOK_of (by kernel_rfl) (memOKc (Nat.lt_of_lt_of_le Nat.zero_lt_one (Nat.le_of_ble_eq_true (by kernel_rfl))) (okL_mono noP_below hL) (by kernel_rfl) (by kernel_rfl)))) (by kernel_rfl)
theorem shB7 (s:Asg) {n k r:Int} {o len cap:Nat} {L:List At} {ty:Go.TypeId} {fr:Nat×Nat} (hL:okL noP L=true):ToP Tryz.prog 122 (c1 (c1 (c2 (c2 (c2 (c2 (c2 (c2 (bodyF Tryz.prog 3))))))))) (filS2 s (shQ6 (qR (.slx 0 o len cap)) [(0,⟨ty,fr,0,[],some L⟩)] n)) .normal (Fil2 (shB (qR (.slx 0 o len cap)) [(0,⟨ty,fr,0,[],some L⟩)] n)):=by
 exact ToP.run2 (z:=zF) (n:=20000) (dec:=[]) (mask:=[]) (os:=([])) (es:=[.oa (.slx 0 o len cap) (.slx 0 o len cap),.oi n n,.ob ⟨ty,fr,0,L⟩ ⟨ty,fr,0,L⟩]) soundG3 (fun dead=>by kernel_rfl) ae_nil (ob_cons rfl (ob_cons rfl (ob_cons rfl ob_nil))) (fun s=>(kstOK_of (by kernel_rfl) (memOKc (Nat.lt_of_lt_of_le Nat.zero_lt_one (Nat.le_of_ble_eq_true (by kernel_rfl))) (okL_mono noP_below hL) (by kernel_rfl) (by kernel_rfl)))) (by kernel_rfl)
theorem shBz (s:Asg) {n k r:Int} {o len cap:Nat} {L:List At} {ty:Go.TypeId} {fr:Nat×Nat} (hL:okL noP L=true):ToP Tryz.prog 122 (c2 (c2 (c2 (c2 (c2 (c2 (c2 (bodyF Tryz.prog 3)))))))) (filS2 s (shX [(0,⟨ty,fr,0,[],some L⟩)] k r)) .ret (Fil2 (shR [(0,⟨ty,fr,0,[],some L⟩)] 61)):=by
 exact ToP.run2 (z:=zF) (n:=20000) (dec:=[]) (mask:=[]) (os:=([])) (es:=[.ob ⟨ty,fr,0,L⟩ ⟨ty,fr,0,L⟩]) soundG3 (fun dead=>by kernel_rfl) ae_nil (ob_cons rfl ob_nil) (fun s=>(kstOK_of (by kernel_rfl) (memOKc (Nat.lt_of_lt_of_le Nat.zero_lt_one (Nat.le_of_ble_eq_true (by kernel_rfl))) (okL_mono noP_below hL) (by kernel_rfl) (by kernel_rfl)))) (by kernel_rfl)
theorem shBz0 (s:Asg) {n k r:Int} {o len cap:Nat} {L:List At} {ty:Go.TypeId} {fr:Nat×Nat} (hL:okL noP L=true):ToP Tryz.prog 122 (c2 (c2 (c2 (c2 (c2 (c2 (c2 (bodyF Tryz.prog 3)))))))) (filS2 s (shX0 [(0,⟨ty,fr,0,[],some L⟩)])) .ret (Fil2 (shR [(0,⟨ty,fr,0,[],some L⟩)] 61)):=by
 exact ToP.run2 (z:=zF) (n:=20000) (dec:=[]) (mask:=[]) (os:=([])) (es:=[.ob ⟨ty,fr,0,L⟩ ⟨ty,fr,0,L⟩]) soundG3 (fun dead=>by kernel_rfl) ae_nil (ob_cons rfl ob_nil) (fun s=>(kstOK_of (by kernel_rfl) (memOKc (Nat.lt_of_lt_of_le Nat.zero_lt_one (Nat.le_of_ble_eq_true (by kernel_rfl))) (okL_mono noP_below hL) (by kernel_rfl) (by kernel_rfl)))) (by kernel_rfl)
theorem shBr83 (s:Asg) {n k r:Int} {o len cap:Nat} {L:List At} {ty:Go.TypeId} {fr:Nat×Nat} (hL:okL noP L=true) (hr:0≤r∧r≤8):∃nb,KstOK (rnK 83 (filS2 s (shS (qR (.slx 0 o len cap)) [(0,⟨ty,fr,0,[],some L⟩)] 83 91 n k r)) nb)∧∃s' r',(0≤r'∧r'≤8)∧rnK 83 (filS2 s (shS (qR (.slx 0 o len cap)) [(0,⟨ty,fr,0,[],some L⟩)] 83 91 n k r)) nb=filS2 s' (shS (qR (.slx 0 o len cap)) [(0,⟨ty,fr,0,[],some L⟩)] 53 61 n k r'):=by
 have e:rnK 83 (filS2 s (shS (qR (.slx 0 o len cap)) [(0,⟨ty,fr,0,[],some L⟩)] 83 91 n k r)) 61=filS2 (rnS 83 s) (shS (qR (.slx 0 o len cap)) [(0,⟨ty,fr,0,[],some L⟩)] 53 61 n k r):=by
  have e1:renM (swp [(53,83)]) (filM2 s ([(0,⟨ty,fr,0,[],some L⟩)]++shM 83 k r))=(0,⟨ty,fr,0,renL (swp [(53,83)]) L⟩)::filM2 (rnS 83 s) (shM 53 k r):=by kernel_rfl
  rw [renL_noP hL] at e1
  have e2:rnK 83 (filS2 s (shS (qR (.slx 0 o len cap)) [(0,⟨ty,fr,0,[],some L⟩)] 83 91 n k r)) 61=⟨filVs2 (rnS 83 s) [(0,.one (qR (.slx 0 o len cap))),(1,.one (qS n)),(5,.one (qL (.ptr 30 0))),(6,.one (qS r)),(7,.one (qS k))],renM (swp [(53,83)]) (filM2 s ([(0,⟨ty,fr,0,[],some L⟩)]++shM 83 k r)),61⟩:=by kernel_rfl
  rw [e2,e1]
  rfl
 refine ⟨61, ?_,_,r,hr,e⟩
 rw [e]
 exact (kstOK_of (by kernel_rfl) (memOKc (Nat.lt_of_lt_of_le Nat.zero_lt_one (Nat.le_of_ble_eq_true (by kernel_rfl))) (okL_mono noP_below hL) (by kernel_rfl) (by kernel_rfl)))
theorem shBr65 (s:Asg) {n k r:Int} {o len cap:Nat} {L:List At} {ty:Go.TypeId} {fr:Nat×Nat} (hL:okL noP L=true) (hr:0≤r∧r≤8):∃nb,KstOK (rnK 65 (filS2 s (shS (qR (.slx 0 o len cap)) [(0,⟨ty,fr,0,[],some L⟩)] 65 73 n k r)) nb)∧∃s' r',(0≤r'∧r'≤8)∧rnK 65 (filS2 s (shS (qR (.slx 0 o len cap)) [(0,⟨ty,fr,0,[],some L⟩)] 65 73 n k r)) nb=filS2 s' (shS (qR (.slx 0 o len cap)) [(0,⟨ty,fr,0,[],some L⟩)] 53 61 n k r'):=by
 have e:rnK 65 (filS2 s (shS (qR (.slx 0 o len cap)) [(0,⟨ty,fr,0,[],some L⟩)] 65 73 n k r)) 61=filS2 (rnS 65 s) (shS (qR (.slx 0 o len cap)) [(0,⟨ty,fr,0,[],some L⟩)] 53 61 n k r):=by
  have e1:renM (swp [(53,65)]) (filM2 s ([(0,⟨ty,fr,0,[],some L⟩)]++shM 65 k r))=(0,⟨ty,fr,0,renL (swp [(53,65)]) L⟩)::filM2 (rnS 65 s) (shM 53 k r):=by kernel_rfl
  rw [renL_noP hL] at e1
  have e2:rnK 65 (filS2 s (shS (qR (.slx 0 o len cap)) [(0,⟨ty,fr,0,[],some L⟩)] 65 73 n k r)) 61=⟨filVs2 (rnS 65 s) [(0,.one (qR (.slx 0 o len cap))),(1,.one (qS n)),(5,.one (qL (.ptr 30 0))),(6,.one (qS r)),(7,.one (qS k))],renM (swp [(53,65)]) (filM2 s ([(0,⟨ty,fr,0,[],some L⟩)]++shM 65 k r)),61⟩:=by kernel_rfl
  rw [e2,e1]
  rfl
 refine ⟨61, ?_,_,r,hr,e⟩
 rw [e]
 exact (kstOK_of (by kernel_rfl) (memOKc (Nat.lt_of_lt_of_le Nat.zero_lt_one (Nat.le_of_ble_eq_true (by kernel_rfl))) (okL_mono noP_below hL) (by kernel_rfl) (by kernel_rfl)))
theorem shBr35 (s:Asg) {n k r:Int} {o len cap:Nat} {L:List At} {ty:Go.TypeId} {fr:Nat×Nat} (hL:okL noP L=true) (hr:0≤r∧r≤8):∃nb,KstOK (rnK 35 (filS2 s (shS (qR (.slx 0 o len cap)) [(0,⟨ty,fr,0,[],some L⟩)] 35 43 n k r)) nb)∧∃s' r',(0≤r'∧r'≤8)∧rnK 35 (filS2 s (shS (qR (.slx 0 o len cap)) [(0,⟨ty,fr,0,[],some L⟩)] 35 43 n k r)) nb=filS2 s' (shS (qR (.slx 0 o len cap)) [(0,⟨ty,fr,0,[],some L⟩)] 53 61 n k r'):=by
 have e:rnK 35 (filS2 s (shS (qR (.slx 0 o len cap)) [(0,⟨ty,fr,0,[],some L⟩)] 35 43 n k r)) 61=filS2 (rnS 35 s) (shS (qR (.slx 0 o len cap)) [(0,⟨ty,fr,0,[],some L⟩)] 53 61 n k r):=by
  have e1:renM (swp [(53,35)]) (filM2 s ([(0,⟨ty,fr,0,[],some L⟩)]++shM 35 k r))=(0,⟨ty,fr,0,renL (swp [(53,35)]) L⟩)::filM2 (rnS 35 s) (shM 53 k r):=by kernel_rfl
  rw [renL_noP hL] at e1
  have e2:rnK 35 (filS2 s (shS (qR (.slx 0 o len cap)) [(0,⟨ty,fr,0,[],some L⟩)] 35 43 n k r)) 61=⟨filVs2 (rnS 35 s) [(0,.one (qR (.slx 0 o len cap))),(1,.one (qS n)),(5,.one (qL (.ptr 30 0))),(6,.one (qS r)),(7,.one (qS k))],renM (swp [(53,35)]) (filM2 s ([(0,⟨ty,fr,0,[],some L⟩)]++shM 35 k r)),61⟩:=by kernel_rfl
  rw [e2,e1]
  rfl
 refine ⟨61, ?_,_,r,hr,e⟩
 rw [e]
 exact (kstOK_of (by kernel_rfl) (memOKc (Nat.lt_of_lt_of_le Nat.zero_lt_one (Nat.le_of_ble_eq_true (by kernel_rfl))) (okL_mono noP_below hL) (by kernel_rfl) (by kernel_rfl)))
theorem shBStep (s:Asg) {n k r:Int} {o len cap:Nat} {L:List At} {ty:Go.TypeId} {fr:Nat×Nat} (hL:okL noP L=true) (hI:∀k:Int,0≤k→k<(len:Int)→isIntAt .i64 L (o+k.toNat*1)=true) (hk:1≤k) (hn:n≤60) (hlt:k<n) (hr:0≤r∧r≤8):ToR Tryz.prog 122 1 shLB (filS2 s (shS (qR (.slx 0 o len cap)) [(0,⟨ty,fr,0,[],some L⟩)] 53 61 n k r)) .normal (fun x=>∃s r',(0≤r'∧r'≤8)∧x=filS2 s (shS (qR (.slx 0 o len cap)) [(0,⟨ty,fr,0,[],some L⟩)] 53 61 n (k+1) r')):=by
 by_cases h8:r=8
 ·exact (ToR.of_ToP (shBa s hL hk hn hlt hr h8) (by kernel_rfl)).ren [(53,65)] (by kernel_rfl) (by rintro x ⟨s,rfl⟩;exact shBr65 s hL (by omega))
 ·by_cases hl:k<(len:Int)
  ·rcases bool_cases (bitB L o k) with hB | hB
   ·exact (ToR.of_ToP (shBb s hL hk hn hlt hr h8 hl (hI k (by omega) hl) hB) (by kernel_rfl)).ren [(53,65)] (by kernel_rfl) (by rintro x ⟨s,rfl⟩;exact shBr65 s hL (by omega))
   ·exact (ToR.of_ToP (shBc s hL hk hn hlt hr h8 hl (hI k (by omega) hl) hB) (by kernel_rfl)).ren [(53,83)] (by kernel_rfl) (by rintro x ⟨s,rfl⟩;exact shBr83 s hL (by omega))
  ·exact (ToR.of_ToP (shBd s hL hk hn hlt hr h8 (by omega)) (by kernel_rfl)).ren [(53,83)] (by kernel_rfl) (by rintro x ⟨s,rfl⟩;exact shBr83 s hL (by omega))
theorem shBFirst (s:Asg) {n:Int} {o len cap:Nat} {L:List At} {ty:Go.TypeId} {fr:Nat×Nat} (hL:okL noP L=true) (hI:∀k:Int,0≤k→k<(len:Int)→isIntAt .i64 L (o+k.toNat*1)=true) (hlt:0<n):ToR Tryz.prog 122 1 shLB (filS2 s (shB (qR (.slx 0 o len cap)) [(0,⟨ty,fr,0,[],some L⟩)] n)) .normal (fun x=>∃s r',(0≤r'∧r'≤8)∧x=filS2 s (shS (qR (.slx 0 o len cap)) [(0,⟨ty,fr,0,[],some L⟩)] 53 61 n 1 r')):=by
 by_cases hl:0<(len:Int)
 ·rcases bool_cases (bitB L o 0) with hB | hB
  ·exact (ToR.of_ToP (shBb0 s (k:=0) (r:=0) hL hlt hl (hI 0 (by omega) hl) hB) (by kernel_rfl)).ren [(53,35)] (by kernel_rfl) (by rintro x ⟨s,rfl⟩;exact shBr35 s hL (by omega))
  ·exact (ToR.of_ToP (shBc0 s (k:=0) (r:=0) hL hlt hl (hI 0 (by omega) hl) hB) (by kernel_rfl)).mono (by rintro x ⟨s,rfl⟩;exact ⟨s,1,by omega,rfl⟩)
 ·exact (ToR.of_ToP (shBd0 s (k:=0) (r:=0) hL hlt (by omega)) (by kernel_rfl)).mono (by rintro x ⟨s,rfl⟩;exact ⟨s,1,by omega,rfl⟩)
theorem shBLoop {n:Int} {o len cap:Nat} {L:List At} {ty:Go.TypeId} {fr:Nat×Nat} (hL:okL noP L=true) (hI:∀k:Int,0≤k→k<(len:Int)→isIntAt .i64 L (o+k.toNat*1)=true) (hn:n≤60):∀(m:Nat) (k r:Int) (s:Asg),1≤k→k+m=n→0≤r∧r≤8→RdR Tryz.prog 122 1 shLB (m+1) (filS2 s (shS (qR (.slx 0 o len cap)) [(0,⟨ty,fr,0,[],some L⟩)] 53 61 n k r)) (.exit 0) (fun x=>(∃s k r,x=filS2 s (shX [(0,⟨ty,fr,0,[],some L⟩)] k r))∨∃s,x=filS2 s (shX0 [(0,⟨ty,fr,0,[],some L⟩)]))
 | 0,k,r,s,h1,h2,h3=>RdR.last (by simp) ((ToR.of_ToP (shBx s hL (by omega)) (by kernel_rfl)).mono (by rintro x ⟨s,rfl⟩;exact .inl ⟨s,k,r,rfl⟩))
 | m+1,k,r,s,h1,h2,h3=>RdR.next (shBStep s hL hI h1 hn (by omega) h3) (by rintro x ⟨s,r',h,rfl⟩;exact shBLoop hL hI hn m (k+1) r' s (by omega) (by omega) h)
theorem shBAll (s:Asg) {n:Int} {o len cap:Nat} {L:List At} {ty:Go.TypeId} {fr:Nat×Nat} (hL:okL noP L=true) (hI:∀k:Int,0≤k→k<(len:Int)→isIntAt .i64 L (o+k.toNat*1)=true):ToR Tryz.prog 122 1 (bodyF Tryz.prog 3) (filS2 s (shP (qR (.slx 0 o len cap)) [(0,⟨ty,fr,0,[],some L⟩)] n)) .ret (fun x=>∃s j,x=filS2 s (shR [(0,⟨ty,fr,0,[],some L⟩)] j)):=by
 refine ToR.seq (by kernel_rfl) (ToR.of_ToP (shB1 s (k:=0) (r:=0) hL) (by kernel_rfl)) ?_
 rintro x ⟨s,rfl⟩
 refine ToR.seq (by kernel_rfl) (ToR.of_ToP (shB2 s (k:=0) (r:=0) hL) (by kernel_rfl)) ?_
 rintro x ⟨s,rfl⟩
 by_cases h0:n<0
 ·exact ToR.seq_out (by kernel_rfl) (by simp) ((ToR.of_ToP (shB3a s (k:=0) (r:=0) hL h0) (by kernel_rfl)).mono (by rintro x ⟨s,rfl⟩;exact ⟨s,1,rfl⟩))
 by_cases h1:n>60
 ·exact ToR.seq_out (by kernel_rfl) (by simp) ((ToR.of_ToP (shB3b s (k:=0) (r:=0) hL h1) (by kernel_rfl)).mono (by rintro x ⟨s,rfl⟩;exact ⟨s,1,rfl⟩))
 refine ToR.seq (by kernel_rfl) (ToR.of_ToP (shB3 s (k:=0) (r:=0) hL (by omega) (by omega)) (by kernel_rfl)) ?_
 rintro x ⟨s,rfl⟩
 refine ToR.seq (by kernel_rfl) (ToR.of_ToP (shB4 s (k:=0) (r:=0) hL) (by kernel_rfl)) ?_
 rintro x ⟨s,rfl⟩
 refine ToR.seq (by kernel_rfl) (ToR.of_ToP (shB5 s (k:=0) (r:=0) hL) (by kernel_rfl)) ?_
 rintro x ⟨s,rfl⟩
 refine ToR.seq (by kernel_rfl) (ToR.of_ToP (shB6 s (k:=0) (r:=0) hL) (by kernel_rfl)) ?_
 rintro x ⟨s,rfl⟩
 refine ToR.seq (by kernel_rfl) (B:=(fun x=>(∃s k r,x=filS2 s (shX [(0,⟨ty,fr,0,[],some L⟩)] k r))∨∃s,x=filS2 s (shX0 [(0,⟨ty,fr,0,[],some L⟩)]))) (ToR.seq (by kernel_rfl) (ToR.of_ToP (shB7 s (k:=0) (r:=0) hL) (by kernel_rfl)) ?_) ?_
 ·rintro x ⟨s,rfl⟩
  refine ToR.block (id:=0) (e:= .exit 0) (by kernel_rfl) ?_ (.inl rfl)
  by_cases h2:0<n
  ·refine ToR.loop (m:=(n - 1).toNat+1+1) (by kernel_rfl) (RdR.next (shBFirst s hL hI h2) ?_)
   rintro x ⟨s,r',h,rfl⟩
   exact shBLoop hL hI (by omega) _ 1 r' s (by omega) (by omega) h
  ·exact ToR.loop (m:=1) (by kernel_rfl) (RdR.last (by simp) ((ToR.of_ToP (shBx0 s (k:=0) (r:=0) hL (by omega)) (by kernel_rfl)).mono (by rintro x ⟨s,rfl⟩;exact .inr ⟨s,rfl⟩)))
 ·rintro x (⟨s,k,r,rfl⟩ | ⟨s,rfl⟩)
  ·exact (ToR.of_ToP (shBz s (n:=0) (o:=0) (len:=0) (cap:=0) hL) (by kernel_rfl)).mono (by rintro x ⟨s,rfl⟩;exact ⟨s,61,rfl⟩)
  ·exact (ToR.of_ToP (shBz0 s (n:=0) (k:=0) (r:=0) (o:=0) (len:=0) (cap:=0) hL) (by kernel_rfl)).mono (by rintro x ⟨s,rfl⟩;exact ⟨s,61,rfl⟩)
def s00:Asg:=⟨fun _ _=>0,fun _ _=>false,fun _ _=>0,fun _ _=>false⟩
theorem get1S {b c:Blk} {i:Nat} (h:getM [(0,b)] i=some c):i=0∧c=b:=by
 rw [getM_cons] at h
 by_cases hi:i=0
 ·rw [if_pos hi] at h;cases h;exact ⟨hi,rfl⟩
 ·rw [if_neg hi] at h;simp [getM] at h
def envS (b:Nat):Env:=fun _=>Loc.at b 0
theorem relS {b:Nat} {arr:Array Go.Value} {ty:Go.TypeId} {fr:Nat×Nat} {w:Go.World} (h:w.heap[b]? = some (.cells arr ty fr)):Rel (envS b) (getM [(0,blkOf arr ty fr)]) w:=by
 refine ⟨fun i k hk=> ?_,fun i j hi hj _=> ?_⟩
 ·obtain ⟨rfl,rfl⟩:=get1S hk
  exact blkOf_at rfl h
 ·obtain ⟨x,hx⟩:=Option.isSome_iff_exists.1 hi
  obtain ⟨y,hy⟩:=Option.isSome_iff_exists.1 hj
  rw [(get1S hx).1,(get1S hy).1]
theorem shNil (n:Int) (E:Env) (w:Go.World) (hrel:Rel E (getM ([]:Mem)) w):ShGoal ([.v (.one .nilsl),I n].map (LV.den E)).toArray w:=by
 have h:ToR Tryz.prog 122 1 (bodyF Tryz.prog 3) ⟨argsL 0 [.v (.one .nilsl),I n],[],1⟩ .ret (fun x=>∃s j,x=filS2 s (shR [] j)):=shNAll (n:=n) s00
 refine law_ToR (args:=[.v (.one .nilsl),I n]) (m:=[]) (nb:=1) (N:=1) (v:= .v (.one (.bool true))) Tryz.func3 (by kernel_rfl) (Nat.le_of_ble_eq_true (by kernel_rfl)) (Nat.le_of_ble_eq_true (by kernel_rfl)) ?_ rfl ?_ ?_ ?_ h ?_ rfl E w hrel
 ·intro u hu;simp at hu;rcases hu with rfl | rfl <;> rfl
 ·exact fun i b h=>by simp [getM] at h
 ·exact fun i b h=>by simp [getM] at h
 ·exact fun i b h=>by simp [getM] at h
 ·rintro x ⟨s,j,rfl⟩
  exact ⟨fun dead=>by kernel_rfl,fun i b h=>by simp [getM] at h⟩
theorem shRow {o la ca:Nat} {L:List At} {ty:Go.TypeId} {fr:Nat×Nat} {n:Int} (hL:okL noP L=true) (hI:∀k:Int,0≤k→k<(la:Int)→isIntAt .i64 L (o+k.toNat*1)=true) (E:Env) (w:Go.World) (hrel:Rel E (getM [(0,⟨ty,fr,0,L⟩)]) w):
  ShGoal ([.v (.one (.slx 0 o la ca)),I n].map (LV.den E)).toArray w:=by
 have h:ToR Tryz.prog 122 1 (bodyF Tryz.prog 3) ⟨argsL 0 [.v (.one (.slx 0 o la ca)),I n],[(0,⟨ty,fr,0,L⟩)],1⟩ .ret (fun x=>∃s j,x=filS2 s (shR [(0,⟨ty,fr,0,[],some L⟩)] j)):=shBAll (n:=n) (cap:=ca) (ty:=ty) (fr:=fr) s00 hL hI
 refine law_ToR (args:=[.v (.one (.slx 0 o la ca)),I n]) (m:=[(0,⟨ty,fr,0,L⟩)]) (nb:=1) (N:=1) (v:= .v (.one (.bool true))) Tryz.func3 (by kernel_rfl) (Nat.le_of_ble_eq_true (by kernel_rfl)) (Nat.le_of_ble_eq_true (by kernel_rfl)) ?_ ?_ ?_ ?_ ?_ h ?_ rfl E w hrel
 ·intro u hu;simp at hu;rcases hu with rfl | rfl <;> rfl
 ·exact memOKc (by decide) (okL_mono noP_below hL) rfl memOK0
 ·exact fun i b h=>by obtain ⟨rfl,rfl⟩:=get1S h;rfl
 ·exact fun i b h=>by obtain ⟨rfl,rfl⟩:=get1S h;decide
 ·exact fun i b h=>by obtain ⟨rfl,rfl⟩:=get1S h;exact hL
 ·rintro x ⟨s,j,rfl⟩
  exact ⟨fun dead=>by kernel_rfl,fun i b h=>by obtain ⟨rfl,rfl⟩:=get1S h;rfl⟩
theorem lawTopShaken (a:Option Go.Addr) (la ca:Nat) (z:List Int) (n:Int) (w:Go.World) (B1:IsBlk w a)
  (w1:(a=none∧la=0∧ca=0∧z=[])∨∃x,a=some x∧la≤ca∧ca≤Go.maxLen∧z.length=ca∧(∀i,i<z.length→w.cell? (x.add i)=some (.int .i64 (z.getD i 0)))∧∀n∈z,(Go.Lit.int .i64 n).wf=true)
  (hm:(Go.Lit.int .i64 n).wf=true):ShGoal #[.slice a la ca,.int .i64 n] w:=by
 rcases row_in B1 w1 with ⟨rfl,rfl,rfl,-⟩ | ⟨b1,o1,arr1,ty1,fr1,rfl,hh1,hl1,-,r1,hw⟩
 ·exact shNil n E0 w ⟨fun i b h=>by simp [getM] at h,fun i j h=>by simp [getM] at h⟩
 ·exact shRow (o:=o1) (la:=la) (ca:=ca) (n:=n) (convL_ok _ _) (fun k h1 h2=>by
   rw [isIntAt_iff,Nat.mul_one]
   exact ⟨_,r1.atL (i:=k.toNat) (by omega)⟩) (envS b1) w (relS hh1)
end Go.Proofs.YtfepmlklbapfiaaGreat
