/- Joined texts. What each part proves stands ahead of it; no condition. -/
import Derived.Test.YtnlhpaidmiogbaaGreatLrM5
import Derived.Test.YtnlhpaidmiogbaaGreatLrM4
import Derived.Test.YtnlhpaidmiogbaaGreatLrM2
import Derived.WalkKit
import Derived.ProofKit
import Derived.OpenShut
import Derived.WideShapes

/- Summaries by formula, of functions that are handed one block and plain values; summaries by all blocks, the one or else the other. -/
set_option linter.unusedVariables false
namespace Go.Lr
open Go.RowKit
def fM (F:Blk→List LV→Option (LV×Blk×List (Bool×Bool))):Sum:=fun args=>
 match args with
 | .v (.one (.ptr b 0))::rest=>match plainVs rest with
  | true=>some ⟨[],[b],fun _ wB _=>match wB with
   | [k]=>match F k rest with
    | some (v,k',cs)=>some ⟨v,[k'],[],cs⟩
    | none=>none
   | _=>none⟩
  | false=>none
 | _=>none
section
variable {P:Program} {S:FuncId→Option SumK} {z:Md}
theorem fM_ok (hs:Sound P S) {f:FuncId} (ho:Own P f) {F:Blk→List LV→Option (LV×Blk×List (Bool×Bool))}
  (hF:∀k rest v k' cs,F k rest=some (v,k',cs)→(∀c∈cs,c.1=c.2)→plainVs rest=true→okL noP k.cells=true∧okL noP k'.cells=true∧v.ok noP=true∧k'.es=k.es∧
   ∃n dec m' nb' cs',runF P S z n f (A0::rest) [(0,k)] 1 dec=some (v,m',nb',cs')∧getM m' 0=some k'∧∀c∈cs',c.1=c.2):SumOK P f (fM F):=by
 intro args t g nb p rdB wrB ans ws E w hs' hr hw _ hgo hz hc hrel hg hargs hn
 unfold fM at hs'
 split at hs'
 ·rename_i b rest
  split at hs'
  ·rename_i hp
   cases hs'
   simp only at hgo hw
   split at hgo
   ·rename_i k
    split at hgo
    ·rename_i v k' cs hFk
     cases hgo
     obtain ⟨hk,hok',hv,hes',n,dec,m',nb',cs',hrun,hk',hc'⟩:=hF k rest v k' cs hFk hc hp
     simp only [liveAll] at hw
     split at hw
     ·rename_i q r hq hr'
      cases hr'
      cases hw
      simp only [zipW] at hz
      cases hz
      have hp':=plainVs_iff.1 hp
      obtain ⟨s',h1,h2,h3,h4⟩:=runF_body hrun
      have hget:∀i c,getM [(0,k)] i=some c→i=0∧c=k:=by
       intro i c hc
       rw [getM_cons] at hc
       by_cases hi:i=0
       ·rw [if_pos hi] at hc;cases hc;exact ⟨hi,rfl⟩
       ·rw [if_neg hi] at hc;simp [getM] at hc
      obtain ⟨v',b1,b2,b3,b4,b5,b6,b7,b8⟩:=(exec_sound (binOK P) hs.sums hs.mix hs.ng n).2.2.2 f (A0::rest) _ _ s' h1 (fun i c hc=>by
       obtain ⟨rfl,rfl⟩:=hget i c hc
       exact ⟨Nat.zero_lt_one,okL_mono noP_below hk⟩) ⟨rfl,trivial⟩ (fun u hu=>by
       rcases List.mem_cons.1 hu with rfl | hu
       ·rfl
       ·exact LV.ok_mono noP_below (hp' u hu))
      cases b1
      obtain ⟨r0,g1,g2,g3⟩:=hrel.blk b k hq
      have hmr:MRel (fun _=>E b) ⟨.nil,0,[(0,k)],1,dec,[],[]⟩ w:=by
       refine ⟨⟨fun i c hc=> ?_,fun i j hi hj _=> ?_⟩,fun i c hc=> ?_,⟨rfl,trivial⟩⟩
       ·obtain ⟨rfl,rfl⟩:=hget i c hc
        exact ⟨r0,by rw [denA_noP hk] at g1 ⊢;exact g1,g2,g3⟩
       ·obtain ⟨c,hc⟩:=Option.isSome_iff_exists.1 hi
        obtain ⟨d,hd⟩:=Option.isSome_iff_exists.1 hj
        rw [(hget i c hc).1,(hget j d hd).1]
       ·obtain ⟨rfl,rfl⟩:=hget i c hc
        exact ⟨Nat.zero_lt_one,okL_mono noP_below hk⟩
      have hcall:=b8 (by rw [Good,h4];exact hc') (fun _=>E b) w hmr
      have hargs':((A0::rest).map (LV.den fun _=>E b))=((LV.v (V1.one (At.ptr b 0)))::rest).map (LV.den E):=by
       rw [List.map_cons,List.map_cons,denL_noP hp',denL_noP (E:=E) hp']
       rfl
      rw [hargs'] at hcall
      obtain ⟨fn,f1,f2,f3⟩:=ho
      refine .inl ⟨fn,f1,f2,f3,hcall.mono ?_⟩
      rintro e w' ⟨E',rfl,hmr',hx⟩
      refine ⟨_,rfl,E,by rw [den_noP hv,den_noP (E:=E) hv], ?_⟩
      obtain ⟨r',q1,q2,q3⟩:=hmr'.rel.blk 0 k' (by rw [h2];exact hk')
      rw [hx.agree 0 (by show 0<1;omega)] at q1 q3
      have hframe:∀j,j<w.heap.size→j≠(E b).1→w'.heap[j]? = w.heap[j]? :=fun j hj hne=>hx.frame j hj fun i hi he=>hne he.symm
      refine ⟨fun _ _=>rfl,⟨fun i c hic=> ?_,fun i j hi hj he=> ?_⟩,hx.os,hx.tape,hx.output,hx.size,fun j hj hne=>hframe j hj fun e=>hne b (by simp [hq]) e.symm,fun i h1 h2=>by simp at h2;omega⟩
      ·simp only [nwG,wrG] at hic
       by_cases hi:i=b
       ·subst hi
        rw [if_pos rfl] at hic
        cases hic
        exact ⟨r',by rw [denA_noP hok'] at q1 ⊢;exact q1,q2,q3⟩
       ·rw [if_neg hi] at hic
        obtain ⟨r,u1,u2,u3⟩:=hrel.blk i c hic
        refine ⟨r, ?_,u2,u3⟩
        rw [hframe _ (Array.getElem?_eq_some_iff.1 u1).1 (fun e=>hi (hrel.inj i b (by simp [hic]) (by simp [hq]) e))]
        exact u1
      ·simp only [nwG,wrG] at hi hj
       refine hrel.inj i j ?_ ?_ he
       ·by_cases h1:i=b
        ·rw [h1];simp [hq]
        ·simpa [if_neg h1] using hi
       ·by_cases h1:j=b
        ·rw [h1];simp [hq]
        ·simpa [if_neg h1] using hj
     ·cases hw
    ·cases hgo
   ·cases hgo
  ·cases hs'
 ·cases hs'
end
def genOf (s:Sum):List LV→List Nat→List Blk→Nat→Option Dl:=fun args seen ks nb=>
 match s args with
 | some t=>match liveAll (lookB seen ks) t.rd,liveAll (lookB seen ks) t.wr,nodupB t.wr with
  | some rB,some wB,true=>match t.go rB wB nb with
   | some ans=>match zipW t.wr ans.wr with
    | some ws=>some ⟨ans.val,ws,ans.nw,[],ans.cs⟩
    | none=>none
   | none=>none
  | _,_,_=>none
 | none=>none
theorem genOf_ok {P:Program} {f:FuncId} {s:Sum} (hS:SumOK P f s):GenOK P f (genOf s):=by
 intro args seen ks g nb p d E w hl hd hnd hcs hrel hg hargs hn
 unfold genOf at hd
 split at hd
 ·rename_i t ht
  split at hd
  ·rename_i rB wB hr hw hnd2
   split at hd
   ·rename_i ans hgo
    split at hd
    ·rename_i ws hz
     cases hd
     have up:∀(l:List Nat) (r:List Blk),liveAll (lookB seen ks) l=some r→liveAll g l=some r:=fun l r h=>liveAll_congr h fun i b _ _ hi=>lookB_live hl hi
     exact hS args t g nb p rB wB ans ws E w ht (up _ _ hr) (up _ _ hw) hnd2 hgo hz hcs hrel hg hargs hn
    ·cases hd
   ·cases hd
  ·cases hd
 ·cases hd
def orGen (s1 s2:List LV→List Nat→List Blk→Nat→Option Dl):List LV→List Nat→List Blk→Nat→Option Dl:=fun args seen ks nb=>
 match s1 args seen ks nb with
 | some d=>some d
 | none=>s2 args seen ks nb
theorem orGen_ok {P:Program} {f:FuncId} {s1 s2:List LV→List Nat→List Blk→Nat→Option Dl} (h1:GenOK P f s1) (h2:GenOK P f s2):GenOK P f (orGen s1 s2):=by
 intro args seen ks g nb p d E w hl hd hnd hcs hrel hg hargs hn
 unfold orGen at hd
 split at hd
 ·rename_i d' hd'
  cases hd
  exact h1 args seen ks g nb p _ E w hl hd' hnd hcs hrel hg hargs hn
 ·exact h2 args seen ks g nb p d E w hl hd hnd hcs hrel hg hargs hn
end Go.Lr

/- Summaries for the whole filter: the flag may lie anywhere; what the evaluator makes by running. -/
namespace Go.Proofs.YtnlhpaidmiogbaaGreat
open Go.Lr
set_option linter.unusedVariables false
noncomputable def K0:FuncId→Option SumK:=more (more (more S47 181 (liftF 61 (acSum 61 1 faddS'))) 81 (liftF 61 (acSum 61 1 fdotS))) 135 (liftF 61 (acSum 61 1 fhypS))
theorem soundK0:Sound Tryz.prog K0:=((sound47.more (liftF_ok sumFadd')).more (liftF_ok sumDot)).more (liftF_ok sumHyp)
noncomputable def K1:FuncId→Option SumK:=more K0 196 (accSum 61 (autoF Tryz.prog K0 Zl 2000 196 61))
theorem soundK1:Sound Tryz.prog K1:=soundK0.more (autoF_ok soundK0 (own_of soundK0 Tryz.func196 (by kernel_rfl)))
noncomputable def K2:FuncId→Option SumK:=more K1 177 (accSum 61 (autoF Tryz.prog K1 Zl 2000 177 61))
theorem soundK2:Sound Tryz.prog K2:=soundK1.more (autoF_ok soundK1 (own_of soundK1 Tryz.func177 (by kernel_rfl)))
noncomputable def K3:FuncId→Option SumK:=more K2 151 (accSum 61 (autoF Tryz.prog K2 Zl 2000 151 61))
theorem soundK3:Sound Tryz.prog K3:=soundK2.more (autoF_ok soundK2 (own_of soundK2 Tryz.func151 (by kernel_rfl)))
noncomputable def K4:FuncId→Option SumK:=more K3 153 (accSum 61 (autoF Tryz.prog K3 Zl 2000 153 61))
theorem soundK4:Sound Tryz.prog K4:=soundK3.more (autoF_ok soundK3 (own_of soundK3 Tryz.func153 (by kernel_rfl)))
noncomputable def K5:FuncId→Option SumK:=moreG K4 147 (orGen (narG 0 61 (autoA Tryz.prog K4 Zl 4000 147)) (autoA Tryz.prog K4 Zl 4000 147))
theorem soundK5:Sound Tryz.prog K5:=soundK4.moreG (orGen_ok (narG_ok (autoA_ok soundK4 (own_of soundK4 Tryz.func147 (by kernel_rfl)))) (autoA_ok soundK4 (own_of soundK4 Tryz.func147 (by kernel_rfl))))
noncomputable def K6:FuncId→Option SumK:=moreG K5 152 (autoA Tryz.prog K5 Zl 4000 152)
theorem soundK6:Sound Tryz.prog K6:=soundK5.moreG (autoA_ok soundK5 (own_of soundK5 Tryz.func152 (by kernel_rfl)))
noncomputable def K7:FuncId→Option SumK:=more K6 118 (autoP Tryz.prog K6 Zl 2000 118)
theorem soundK7:Sound Tryz.prog K7:=soundK6.more (autoP_ok soundK6 (own_of soundK6 Tryz.func118 (by kernel_rfl)))
end Go.Proofs.YtnlhpaidmiogbaaGreat

/- state.unit: its summary. Plain sums of four squares. -/
namespace Go.Proofs.YtnlhpaidmiogbaaGreat
open Go.Lr
set_option linter.unusedVariables false
def unA (q0 q1 q2 q3:Int):Int:=wVal 0 0+wVal (wHi (q0*q0)) (wLo (q0*q0))
def unB (q0 q1 q2 q3:Int):Int:=wVal (w64 (wHi (wVal 0 0+wVal (wHi (q0*q0)) (wLo (q0*q0))))) (wLo (wVal 0 0+wVal (wHi (q0*q0)) (wLo (q0*q0))))+wVal (wHi (q1*q1)) (wLo (q1*q1))
def unC (q0 q1 q2 q3:Int):Int:=wVal (w64 (wHi (wVal (w64 (wHi (wVal 0 0+wVal (wHi (q0*q0)) (wLo (q0*q0))))) (wLo (wVal 0 0+wVal (wHi (q0*q0)) (wLo (q0*q0))))+wVal (wHi (q1*q1)) (wLo (q1*q1))))) (wLo (wVal (w64 (wHi (wVal 0 0+wVal (wHi (q0*q0)) (wLo (q0*q0))))) (wLo (wVal 0 0+wVal (wHi (q0*q0)) (wLo (q0*q0))))+wVal (wHi (q1*q1)) (wLo (q1*q1))))+wVal (wHi (q2*q2)) (wLo (q2*q2))
def unD (q0 q1 q2 q3:Int):Int:=wVal (w64 (wHi (wVal (w64 (wHi (wVal (w64 (wHi (wVal 0 0+wVal (wHi (q0*q0)) (wLo (q0*q0))))) (wLo (wVal 0 0+wVal (wHi (q0*q0)) (wLo (q0*q0))))+wVal (wHi (q1*q1)) (wLo (q1*q1))))) (wLo (wVal (w64 (wHi (wVal 0 0+wVal (wHi (q0*q0)) (wLo (q0*q0))))) (wLo (wVal 0 0+wVal (wHi (q0*q0)) (wLo (q0*q0))))+wVal (wHi (q1*q1)) (wLo (q1*q1))))+wVal (wHi (q2*q2)) (wLo (q2*q2))))) (wLo (wVal (w64 (wHi (wVal (w64 (wHi (wVal 0 0+wVal (wHi (q0*q0)) (wLo (q0*q0))))) (wLo (wVal 0 0+wVal (wHi (q0*q0)) (wLo (q0*q0))))+wVal (wHi (q1*q1)) (wLo (q1*q1))))) (wLo (wVal (w64 (wHi (wVal 0 0+wVal (wHi (q0*q0)) (wLo (q0*q0))))) (wLo (wVal 0 0+wVal (wHi (q0*q0)) (wLo (q0*q0))))+wVal (wHi (q1*q1)) (wLo (q1*q1))))+wVal (wHi (q2*q2)) (wLo (q2*q2))))+wVal (wHi (q3*q3)) (wLo (q3*q3))
def unE (q0 q1 q2 q3:Int):Int:=wVal (w64 (wHi (wVal (w64 (wHi (wVal (w64 (wHi (wVal (w64 (wHi (wVal 0 0+wVal (wHi (q0*q0)) (wLo (q0*q0))))) (wLo (wVal 0 0+wVal (wHi (q0*q0)) (wLo (q0*q0))))+wVal (wHi (q1*q1)) (wLo (q1*q1))))) (wLo (wVal (w64 (wHi (wVal 0 0+wVal (wHi (q0*q0)) (wLo (q0*q0))))) (wLo (wVal 0 0+wVal (wHi (q0*q0)) (wLo (q0*q0))))+wVal (wHi (q1*q1)) (wLo (q1*q1))))+wVal (wHi (q2*q2)) (wLo (q2*q2))))) (wLo (wVal (w64 (wHi (wVal (w64 (wHi (wVal 0 0+wVal (wHi (q0*q0)) (wLo (q0*q0))))) (wLo (wVal 0 0+wVal (wHi (q0*q0)) (wLo (q0*q0))))+wVal (wHi (q1*q1)) (wLo (q1*q1))))) (wLo (wVal (w64 (wHi (wVal 0 0+wVal (wHi (q0*q0)) (wLo (q0*q0))))) (wLo (wVal 0 0+wVal (wHi (q0*q0)) (wLo (q0*q0))))+wVal (wHi (q1*q1)) (wLo (q1*q1))))+wVal (wHi (q2*q2)) (wLo (q2*q2))))+wVal (wHi (q3*q3)) (wLo (q3*q3))))) (wLo (wVal (w64 (wHi (wVal (w64 (wHi (wVal (w64 (wHi (wVal 0 0+wVal (wHi (q0*q0)) (wLo (q0*q0))))) (wLo (wVal 0 0+wVal (wHi (q0*q0)) (wLo (q0*q0))))+wVal (wHi (q1*q1)) (wLo (q1*q1))))) (wLo (wVal (w64 (wHi (wVal 0 0+wVal (wHi (q0*q0)) (wLo (q0*q0))))) (wLo (wVal 0 0+wVal (wHi (q0*q0)) (wLo (q0*q0))))+wVal (wHi (q1*q1)) (wLo (q1*q1))))+wVal (wHi (q2*q2)) (wLo (q2*q2))))) (wLo (wVal (w64 (wHi (wVal (w64 (wHi (wVal 0 0+wVal (wHi (q0*q0)) (wLo (q0*q0))))) (wLo (wVal 0 0+wVal (wHi (q0*q0)) (wLo (q0*q0))))+wVal (wHi (q1*q1)) (wLo (q1*q1))))) (wLo (wVal (w64 (wHi (wVal 0 0+wVal (wHi (q0*q0)) (wLo (q0*q0))))) (wLo (wVal 0 0+wVal (wHi (q0*q0)) (wLo (q0*q0))))+wVal (wHi (q1*q1)) (wLo (q1*q1))))+wVal (wHi (q2*q2)) (wLo (q2*q2))))+wVal (wHi (q3*q3)) (wLo (q3*q3))))
theorem kunR1 (q0 q1 q2 q3:Int):(runF Tryz.prog (dropS K7 133) Zl 4000 116 [.v (.agg [.int .i64 q0,.int .i64 q1,.int .i64 q2,.int .i64 q3])] [] 0 (nn 1 (tt 1 []))).map (fun r=>(r.1,r.2.2.2))=some (LV.v (V1.one (At.bool false)),[(decide (fabsV q0>1073741840),true)]):=by kernel_rfl
theorem kunR2 (q0 q1 q2 q3:Int):(runF Tryz.prog (dropS K7 133) Zl 4000 116 [.v (.agg [.int .i64 q0,.int .i64 q1,.int .i64 q2,.int .i64 q3])] [] 0 (nn 1 (ff 1 (nn 1 (tt 1 []))))).map (fun r=>(r.1,r.2.2.2))=some (LV.v (V1.one (At.bool false)),[(decide (fabsV q1>1073741840),true),(true&&true,true),(isI q0,true),(isI q0,true),(decide (fabsV q0>1073741840),false)]):=by kernel_rfl
theorem kunR3 (q0 q1 q2 q3:Int):(runF Tryz.prog (dropS K7 133) Zl 4000 116 [.v (.agg [.int .i64 q0,.int .i64 q1,.int .i64 q2,.int .i64 q3])] [] 0 (nn 1 (ff 1 (nn 1 (ff 1 (nn 1 (tt 1 []))))))).map (fun r=>(r.1,r.2.2.2))=some (LV.v (V1.one (At.bool false)),[(decide (fabsV q2>1073741840),true),(true&&true,true),(isI q1,true),(isI q1,true),(decide (fabsV q1>1073741840),false),(true&&true,true),(isI q0,true),(isI q0,true),(decide (fabsV q0>1073741840),false)]):=by kernel_rfl
theorem kunR4 (q0 q1 q2 q3:Int):(runF Tryz.prog (dropS K7 133) Zl 4000 116 [.v (.agg [.int .i64 q0,.int .i64 q1,.int .i64 q2,.int .i64 q3])] [] 0 (nn 1 (ff 1 (nn 1 (ff 1 (nn 1 (ff 1 (nn 1 (tt 1 []))))))))).map (fun r=>(r.1,r.2.2.2))=some (LV.v (V1.one (At.bool false)),[(decide (fabsV q3>1073741840),true),(true&&true,true),(isI q2,true),(isI q2,true),(decide (fabsV q2>1073741840),false),(true&&true,true),(isI q1,true),(isI q1,true),(decide (fabsV q1>1073741840),false),(true&&true,true),(isI q0,true),(isI q0,true),(decide (fabsV q0>1073741840),false)]):=by kernel_rfl
theorem kunR5 (q0 q1 q2 q3:Int):(runF Tryz.prog (dropS K7 133) Zl 4000 116 [.v (.agg [.int .i64 q0,.int .i64 q1,.int .i64 q2,.int .i64 q3])] [] 0 (nn 1 (ff 1 (nn 1 (ff 1 (nn 1 (ff 1 (nn 1 (ff 1 (nn 2 (ff 1 (nn 1 (ff 1 (nn 1 (ff 1 (nn 1 (ff 1 (nn 1 (tt 8 []))))))))))))))))))).map (fun r=>(r.1,r.2.2.2))=some (LV.v (V1.one (At.bool (decide (wr IntKind.i64 ((if isI (rndV (unE q0 q1 q2 q3) (Int.toNat 0))=true then rndV (unE q0 q1 q2 q3) (Int.toNat 0) else 0) - 1152921504606846976)≤4294967296)))),[(decide (wr IntKind.i64 ((if isI (rndV (unE q0 q1 q2 q3) (Int.toNat 0))=true then rndV (unE q0 q1 q2 q3) (Int.toNat 0) else 0) - 1152921504606846976)≥ -4294967296),true),(decide (wr IntKind.i64 ((if isI (rndV (unE q0 q1 q2 q3) (Int.toNat 0))=true then rndV (unE q0 q1 q2 q3) (Int.toNat 0) else 0) - 1152921504606846976)≥ -4294967296),true),(decide (wr IntKind.i64 ((if isI (rndV (unE q0 q1 q2 q3) (Int.toNat 0))=true then rndV (unE q0 q1 q2 q3) (Int.toNat 0) else 0) - 1152921504606846976)≥ -4294967296),true),(decide (wr IntKind.i64 ((if isI (rndV (unE q0 q1 q2 q3) (Int.toNat 0))=true then rndV (unE q0 q1 q2 q3) (Int.toNat 0) else 0) - 1152921504606846976)≥ -4294967296),true),(isI (rndV (unE q0 q1 q2 q3) 0),true),(isI (rndV (unE q0 q1 q2 q3) 0),true),(isI (rndV (unE q0 q1 q2 q3) 0),true),(isI (rndV (unE q0 q1 q2 q3) 0),true),(isI (w64 (wHi (unD q0 q1 q2 q3))),true),(isU (wLo (unD q0 q1 q2 q3)),true),(decide (0≤0)&&decide (0≤126),true),(!isW (unD q0 q1 q2 q3),false),(isI (w64 (wHi (unC q0 q1 q2 q3))),true),(isU (wLo (unC q0 q1 q2 q3)),true),(isI (wHi (q3*q3)),true),(isU (wLo (q3*q3)),true),(!isW (unC q0 q1 q2 q3),false),(isI (w64 (wHi (unB q0 q1 q2 q3))),true),(isU (wLo (unB q0 q1 q2 q3)),true),(isI (wHi (q2*q2)),true),(isU (wLo (q2*q2)),true),(!isW (unB q0 q1 q2 q3),false),(isI (w64 (wHi (unA q0 q1 q2 q3))),true),(isU (wLo (unA q0 q1 q2 q3)),true),(isI (wHi (q1*q1)),true),(isU (wLo (q1*q1)),true),(!isW (unA q0 q1 q2 q3),false),(isI 0,true),(isU 0,true),(isI (wHi (q0*q0)),true),(isU (wLo (q0*q0)),true),(true&&true,true),(isI q3,true),(isI q3,true),(decide (fabsV q3>1073741840),false),(true&&true,true),(isI q2,true),(isI q2,true),(decide (fabsV q2>1073741840),false),(true&&true,true),(isI q1,true),(isI q1,true),(decide (fabsV q1>1073741840),false),(true&&true,true),(isI q0,true),(isI q0,true),(decide (fabsV q0>1073741840),false)]):=by kernel_rfl
theorem kunR6 (q0 q1 q2 q3:Int):(runF Tryz.prog (dropS K7 133) Zl 4000 116 [.v (.agg [.int .i64 q0,.int .i64 q1,.int .i64 q2,.int .i64 q3])] [] 0 (nn 1 (ff 1 (nn 1 (ff 1 (nn 1 (ff 1 (nn 1 (ff 1 (nn 2 (ff 1 (nn 1 (ff 1 (nn 1 (ff 1 (nn 1 (ff 1 (nn 1 (tt 4 (ff 4 [])))))))))))))))))))).map (fun r=>(r.1,r.2.2.2))=some (LV.v (V1.one (At.bool false)),[(decide (wr IntKind.i64 ((if isI (rndV (unE q0 q1 q2 q3) (Int.toNat 0))=true then rndV (unE q0 q1 q2 q3) (Int.toNat 0) else 0) - 1152921504606846976)≥ -4294967296),false),(decide (wr IntKind.i64 ((if isI (rndV (unE q0 q1 q2 q3) (Int.toNat 0))=true then rndV (unE q0 q1 q2 q3) (Int.toNat 0) else 0) - 1152921504606846976)≥ -4294967296),false),(decide (wr IntKind.i64 ((if isI (rndV (unE q0 q1 q2 q3) (Int.toNat 0))=true then rndV (unE q0 q1 q2 q3) (Int.toNat 0) else 0) - 1152921504606846976)≥ -4294967296),false),(decide (wr IntKind.i64 ((if isI (rndV (unE q0 q1 q2 q3) (Int.toNat 0))=true then rndV (unE q0 q1 q2 q3) (Int.toNat 0) else 0) - 1152921504606846976)≥ -4294967296),false),(isI (rndV (unE q0 q1 q2 q3) 0),true),(isI (rndV (unE q0 q1 q2 q3) 0),true),(isI (rndV (unE q0 q1 q2 q3) 0),true),(isI (rndV (unE q0 q1 q2 q3) 0),true),(isI (w64 (wHi (unD q0 q1 q2 q3))),true),(isU (wLo (unD q0 q1 q2 q3)),true),(decide (0≤0)&&decide (0≤126),true),(!isW (unD q0 q1 q2 q3),false),(isI (w64 (wHi (unC q0 q1 q2 q3))),true),(isU (wLo (unC q0 q1 q2 q3)),true),(isI (wHi (q3*q3)),true),(isU (wLo (q3*q3)),true),(!isW (unC q0 q1 q2 q3),false),(isI (w64 (wHi (unB q0 q1 q2 q3))),true),(isU (wLo (unB q0 q1 q2 q3)),true),(isI (wHi (q2*q2)),true),(isU (wLo (q2*q2)),true),(!isW (unB q0 q1 q2 q3),false),(isI (w64 (wHi (unA q0 q1 q2 q3))),true),(isU (wLo (unA q0 q1 q2 q3)),true),(isI (wHi (q1*q1)),true),(isU (wLo (q1*q1)),true),(!isW (unA q0 q1 q2 q3),false),(isI 0,true),(isU 0,true),(isI (wHi (q0*q0)),true),(isU (wLo (q0*q0)),true),(true&&true,true),(isI q3,true),(isI q3,true),(decide (fabsV q3>1073741840),false),(true&&true,true),(isI q2,true),(isI q2,true),(decide (fabsV q2>1073741840),false),(true&&true,true),(isI q1,true),(isI q1,true),(decide (fabsV q1>1073741840),false),(true&&true,true),(isI q0,true),(isI q0,true),(decide (fabsV q0>1073741840),false)]):=by kernel_rfl
theorem fabsk_le {x:Int} (h:decide (fabsV x>1073741840)=false): -1073741840≤x∧x≤1073741840:=by
 have:=of_decide_eq_false h
 unfold fabsV at this
 split at this <;> rename_i h1
 ·omega
 ·split at this <;> rename_i h2
  ·omega
  ·split at this <;> omega
theorem sqk_bd {x:Int} (h: -1073741840≤x∧x≤1073741840):0≤x*x∧x*x≤1152921538966585600:=by
 constructor
 ·by_cases h0:0≤x
  ·exact Int.mul_nonneg h0 h0
  ·have:=Int.mul_nonneg (show 0≤ -x by omega) (show 0≤ -x by omega);rwa [Int.neg_mul_neg] at this
 ·by_cases h0:0≤x
  ·have:=Int.mul_le_mul h.2 h.2 h0 (by omega);omega
  ·have:=Int.mul_le_mul (show -x≤1073741840 by omega) (show -x≤1073741840 by omega) (by omega) (by omega);rw [Int.neg_mul_neg] at this;omega
theorem isIk_bd {x:Int} (h: -1073741840≤x∧x≤1073741840):isI x=true:=isI_iff.2 (by omega)
theorem w00:wVal 0 0=0:=rfl
theorem wre {v:Int} (h0:0≤v) (h1:v<9223372036854775808*18446744073709551616):w64 (wHi v)=wHi v:=w64_in (by unfold wHi;omega) (by unfold wHi;omega)
theorem isW_sm {v:Int} (h0:0≤v) (h1:v<9223372036854775808):isW v=true:=by
 unfold isW;simp only [Bool.and_eq_true,decide_eq_true_eq];omega
theorem isIk_hi {v:Int} (h0:0≤v) (h1:v<9223372036854775808):isI (wHi v)=true:=isI_iff.2 (by unfold wHi;omega)
theorem uAll {q0 q1 q2 q3:Int} (h0: -1073741840≤q0∧q0≤1073741840) (h1: -1073741840≤q1∧q1≤1073741840) (h2: -1073741840≤q2∧q2≤1073741840) (h3: -1073741840≤q3∧q3≤1073741840):
  unA q0 q1 q2 q3=q0*q0∧unB q0 q1 q2 q3=q0*q0+q1*q1∧unC q0 q1 q2 q3=q0*q0+q1*q1+q2*q2∧unD q0 q1 q2 q3=q0*q0+q1*q1+q2*q2+q3*q3∧unE q0 q1 q2 q3=q0*q0+q1*q1+q2*q2+q3*q3:=by
 have s0:=sqk_bd h0
 have s1:=sqk_bd h1
 have s2:=sqk_bd h2
 have s3:=sqk_bd h3
 have a:unA q0 q1 q2 q3=q0*q0:=by unfold unA;rw [wVal_mk,w00];omega
 have b:unB q0 q1 q2 q3=q0*q0+q1*q1:=by
  have e:unB q0 q1 q2 q3=wVal (w64 (wHi (unA q0 q1 q2 q3))) (wLo (unA q0 q1 q2 q3))+wVal (wHi (q1*q1)) (wLo (q1*q1)):=rfl
  rw [e,a,wre (by omega) (by omega),wVal_mk,wVal_mk]
 have c:unC q0 q1 q2 q3=q0*q0+q1*q1+q2*q2:=by
  have e:unC q0 q1 q2 q3=wVal (w64 (wHi (unB q0 q1 q2 q3))) (wLo (unB q0 q1 q2 q3))+wVal (wHi (q2*q2)) (wLo (q2*q2)):=rfl
  rw [e,b,wre (by omega) (by omega),wVal_mk,wVal_mk]
 have d:unD q0 q1 q2 q3=q0*q0+q1*q1+q2*q2+q3*q3:=by
  have e:unD q0 q1 q2 q3=wVal (w64 (wHi (unC q0 q1 q2 q3))) (wLo (unC q0 q1 q2 q3))+wVal (wHi (q3*q3)) (wLo (q3*q3)):=rfl
  rw [e,c,wre (by omega) (by omega),wVal_mk,wVal_mk]
 refine ⟨a,b,c,d, ?_⟩
 have e:unE q0 q1 q2 q3=wVal (w64 (wHi (unD q0 q1 q2 q3))) (wLo (unD q0 q1 q2 q3)):=rfl
 rw [e,d,wre (by omega) (by omega),wVal_mk]
def kunB (q0 q1 q2 q3:Int):Bool:=bif decide (fabsV q0>1073741840) then false else bif decide (fabsV q1>1073741840) then false else bif decide (fabsV q2>1073741840) then false else bif decide (fabsV q3>1073741840) then false else
 decide (q0*q0+q1*q1+q2*q2+q3*q3 - 1152921504606846976≥ -4294967296)&&decide (q0*q0+q1*q1+q2*q2+q3*q3 - 1152921504606846976≤4294967296)
def kunS:List LV→Option (LV×List (Bool×Bool))
 | [.v (.agg [.int .i64 q0,.int .i64 q1,.int .i64 q2,.int .i64 q3])]=>some (.v (.one (.bool (kunB q0 q1 q2 q3))),[])
 | _=>none
theorem sumKun:SumOK Tryz.prog 116 (pureSum kunS):=by
 refine pureSum_run (z:=Zl) (soundK7.drop 133) (own_of soundK7 Tryz.func116 (by kernel_rfl)) fun args v cs hF hc=> ?_
 unfold kunS at hF
 split at hF
 ·rename_i q0 q1 q2 q3
  cases hF
  cases c0:decide (fabsV q0>1073741840)
  ·have h0:=fabsk_le c0
   have b0:=isIk_bd h0
   cases c1:decide (fabsV q1>1073741840)
   ·have h1:=fabsk_le c1
    have b1:=isIk_bd h1
    cases c2:decide (fabsV q2>1073741840)
    ·have h2:=fabsk_le c2
     have b2:=isIk_bd h2
     cases c3:decide (fabsV q3>1073741840)
     ·have h3:=fabsk_le c3
      obtain ⟨eA,eB,eC,eD,eE⟩:=uAll h0 h1 h2 h3
      have s0:=sqk_bd h0
      have s1:=sqk_bd h1
      have s2:=sqk_bd h2
      have s3:=sqk_bd h3
      have r0:isI (rndV (unE q0 q1 q2 q3) 0)=true:=by rw [eE];have:=rnd0 (q0*q0+q1*q1+q2*q2+q3*q3);simp only [Int.toNat_zero] at this;rw [this];exact isI_iff.2 (by omega)
      have r1:rndV (unE q0 q1 q2 q3) (Int.toNat 0)=q0*q0+q1*q1+q2*q2+q3*q3:=by rw [eE,rnd0]
      have r2:wr IntKind.i64 ((if isI (rndV (unE q0 q1 q2 q3) (Int.toNat 0))=true then rndV (unE q0 q1 q2 q3) (Int.toNat 0) else 0) - 1152921504606846976)=q0*q0+q1*q1+q2*q2+q3*q3 - 1152921504606846976:=by
       rw [if_pos (show isI (rndV (unE q0 q1 q2 q3) (Int.toNat 0))=true from r0),r1,wr_i,w64_in (by omega) (by omega)]
      have wA:(!isW (unA q0 q1 q2 q3))=false:=by rw [eA,isW_sm (by omega) (by omega)];rfl
      have wB:(!isW (unB q0 q1 q2 q3))=false:=by rw [eB,isW_sm (by omega) (by omega)];rfl
      have wC:(!isW (unC q0 q1 q2 q3))=false:=by rw [eC,isW_sm (by omega) (by omega)];rfl
      have wD:(!isW (unD q0 q1 q2 q3))=false:=by rw [eD,isW_sm (by omega) (by omega)];rfl
      have iA:isI (w64 (wHi (unA q0 q1 q2 q3)))=true:=by rw [eA,wre (by omega) (by omega)];exact isIk_hi (by omega) (by omega)
      have iB:isI (w64 (wHi (unB q0 q1 q2 q3)))=true:=by rw [eB,wre (by omega) (by omega)];exact isIk_hi (by omega) (by omega)
      have iC:isI (w64 (wHi (unC q0 q1 q2 q3)))=true:=by rw [eC,wre (by omega) (by omega)];exact isIk_hi (by omega) (by omega)
      have iD:isI (w64 (wHi (unD q0 q1 q2 q3)))=true:=by rw [eD,wre (by omega) (by omega)];exact isIk_hi (by omega) (by omega)
      have i0:isI (wHi (q0*q0))=true:=isIk_hi (by omega) (by omega)
      have i1:isI (wHi (q1*q1))=true:=isIk_hi (by omega) (by omega)
      have i2:isI (wHi (q2*q2))=true:=isIk_hi (by omega) (by omega)
      have i3:isI (wHi (q3*q3))=true:=isIk_hi (by omega) (by omega)
      have b3:=isIk_bd h3
      cases c4:decide (q0*q0+q1*q1+q2*q2+q3*q3 - 1152921504606846976≥ -4294967296)
      ·have e:kunB q0 q1 q2 q3=false:=by unfold kunB;rw [c0,c1,c2,c3,c4];rfl
       rw [e]
       refine ⟨4000,_,_,kunR6 q0 q1 q2 q3, ?_⟩
       rw [r2]
       repeat' first | exact ae_nil | apply ae_cons
       all_goals first | with_reducible assumption | with_reducible rfl | with_reducible exact isU_lo _ | rfl
      ·have e:kunB q0 q1 q2 q3=decide (q0*q0+q1*q1+q2*q2+q3*q3 - 1152921504606846976≤4294967296):=by unfold kunB;rw [c0,c1,c2,c3,c4];rfl
       rw [e,←r2]
       refine ⟨4000,_,_,kunR5 q0 q1 q2 q3, ?_⟩
       rw [r2]
       repeat' first | exact ae_nil | apply ae_cons
       all_goals first | with_reducible assumption | with_reducible rfl | with_reducible exact isU_lo _ | rfl
     ·have e:kunB q0 q1 q2 q3=false:=by unfold kunB;rw [c0,c1,c2,c3];rfl
      rw [e]
      refine ⟨4000,_,_,kunR4 q0 q1 q2 q3, ?_⟩
      repeat' first | exact ae_nil | apply ae_cons
      all_goals first | with_reducible assumption | with_reducible rfl | rfl
    ·have e:kunB q0 q1 q2 q3=false:=by unfold kunB;rw [c0,c1,c2];rfl
     rw [e]
     refine ⟨4000,_,_,kunR3 q0 q1 q2 q3, ?_⟩
     repeat' first | exact ae_nil | apply ae_cons
     all_goals first | with_reducible assumption | with_reducible rfl | rfl
   ·have e:kunB q0 q1 q2 q3=false:=by unfold kunB;rw [c0,c1];rfl
    rw [e]
    refine ⟨4000,_,_,kunR2 q0 q1 q2 q3, ?_⟩
    repeat' first | exact ae_nil | apply ae_cons
    all_goals first | with_reducible assumption | with_reducible rfl | rfl
  ·have e:kunB q0 q1 q2 q3=false:=by unfold kunB;rw [c0];rfl
   rw [e]
   exact ⟨4000,_,_,kunR1 q0 q1 q2 q3,ae_cons c0 ae_nil⟩
 ·cases hF
noncomputable def K8u:FuncId→Option SumK:=more K7 116 (pureSum kunS)
theorem soundK8u:Sound Tryz.prog K8u:=soundK7.more sumKun
end Go.Proofs.YtnlhpaidmiogbaaGreat

/- state.clamp: its summary. -/
namespace Go.Proofs.YtnlhpaidmiogbaaGreat
open Go.Lr
noncomputable def K9u:FuncId→Option SumK:=more K8u 119 (accSum 61 (autoF Tryz.prog K8u Zl 2000 119 61))
theorem soundK9u:Sound Tryz.prog K9u:=soundK8u.more (autoF_ok soundK8u (own_of soundK8u Tryz.func119 (by kernel_rfl)))
end Go.Proofs.YtnlhpaidmiogbaaGreat

/- state.Keep: its summary, number by number: it always ends. -/
namespace Go.Proofs.YtnlhpaidmiogbaaGreat
open Go.Lr
set_option linter.unusedVariables false
def keepH (hb:Bool) (s0 s1 s2 s3 s4 s5 s6 s7 s8 s9 s10 s11 s12 s13 s14 s15 s16 s17 s18 s19 s20 s21 s22 s23:Int):Bool:=(bif kunB s0 s1 s2 s3 then hb else uFl hb s0 s1 s2 s3)||clampH s4 (wr IntKind.i64 (0 - 549755813888)) 549755813888||clampH s5 (wr IntKind.i64 (0 - 549755813888)) 549755813888||clampH s6 (wr IntKind.i64 (0 - 549755813888)) 549755813888||clampH s7 (wr IntKind.i64 (0 - 9007199254740992)) 9007199254740992||clampH s8 (wr IntKind.i64 (0 - 9007199254740992)) 9007199254740992||clampH s9 (wr IntKind.i64 (0 - 9007199254740992)) 9007199254740992||clampH s10 (wr IntKind.i64 (0 - 134217728)) 134217728||clampH s11 (wr IntKind.i64 (0 - 134217728)) 134217728||clampH s12 (wr IntKind.i64 (0 - 134217728)) 134217728||clampH s13 (wr IntKind.i64 (0 - 1073741824)) 1073741824||clampH s14 (wr IntKind.i64 (0 - 1073741824)) 1073741824||clampH s15 (wr IntKind.i64 (0 - 1073741824)) 1073741824||clampH s16 (wr IntKind.i64 (0 - 2147483648)) 2147483648||clampH s17 (wr IntKind.i64 (0 - 2147483648)) 2147483648||clampH s18 (wr IntKind.i64 (0 - 2147483648)) 2147483648||clampH s19 (wr IntKind.i64 (0 - 2147483648)) 2147483648||clampH s20 (wr IntKind.i64 (0 - 2147483648)) 2147483648||clampH s21 (wr IntKind.i64 (0 - 2147483648)) 2147483648||clampH s22 (wr IntKind.i64 (0 - 137438953472)) 137438953472||clampH s23 (wr IntKind.i64 (0 - 137438953472)) 137438953472
def keepL (s0 s1 s2 s3 s4 s5 s6 s7 s8 s9 s10 s11 s12 s13 s14 s15 s16 s17 s18 s19 s20 s21 s22 s23:Int):LV:= .v (.agg [.int .i64 (bif kunB s0 s1 s2 s3 then s0 else uV0 s0 s1 s2 s3),.int .i64 (bif kunB s0 s1 s2 s3 then s1 else uV1 s0 s1 s2 s3),.int .i64 (bif kunB s0 s1 s2 s3 then s2 else uV2 s0 s1 s2 s3),.int .i64 (bif kunB s0 s1 s2 s3 then s3 else uV3 s0 s1 s2 s3),.int .i64 (clampV s4 (wr IntKind.i64 (0 - 549755813888)) 549755813888),.int .i64 (clampV s5 (wr IntKind.i64 (0 - 549755813888)) 549755813888),.int .i64 (clampV s6 (wr IntKind.i64 (0 - 549755813888)) 549755813888),.int .i64 (clampV s7 (wr IntKind.i64 (0 - 9007199254740992)) 9007199254740992),.int .i64 (clampV s8 (wr IntKind.i64 (0 - 9007199254740992)) 9007199254740992),.int .i64 (clampV s9 (wr IntKind.i64 (0 - 9007199254740992)) 9007199254740992),.int .i64 (clampV s10 (wr IntKind.i64 (0 - 134217728)) 134217728),.int .i64 (clampV s11 (wr IntKind.i64 (0 - 134217728)) 134217728),.int .i64 (clampV s12 (wr IntKind.i64 (0 - 134217728)) 134217728),.int .i64 (clampV s13 (wr IntKind.i64 (0 - 1073741824)) 1073741824),.int .i64 (clampV s14 (wr IntKind.i64 (0 - 1073741824)) 1073741824),.int .i64 (clampV s15 (wr IntKind.i64 (0 - 1073741824)) 1073741824),.int .i64 (clampV s16 (wr IntKind.i64 (0 - 2147483648)) 2147483648),.int .i64 (clampV s17 (wr IntKind.i64 (0 - 2147483648)) 2147483648),.int .i64 (clampV s18 (wr IntKind.i64 (0 - 2147483648)) 2147483648),.int .i64 (clampV s19 (wr IntKind.i64 (0 - 2147483648)) 2147483648),.int .i64 (clampV s20 (wr IntKind.i64 (0 - 2147483648)) 2147483648),.int .i64 (clampV s21 (wr IntKind.i64 (0 - 2147483648)) 2147483648),.int .i64 (clampV s22 (wr IntKind.i64 (0 - 137438953472)) 137438953472),.int .i64 (clampV s23 (wr IntKind.i64 (0 - 137438953472)) 137438953472)])
def keepF:List LV→Bool→Option (LV×Bool×List (Bool×Bool))
 | [.v (.agg [.int .i64 s0,.int .i64 s1,.int .i64 s2,.int .i64 s3,.int .i64 s4,.int .i64 s5,.int .i64 s6,.int .i64 s7,.int .i64 s8,.int .i64 s9,.int .i64 s10,.int .i64 s11,.int .i64 s12,.int .i64 s13,.int .i64 s14,.int .i64 s15,.int .i64 s16,.int .i64 s17,.int .i64 s18,.int .i64 s19,.int .i64 s20,.int .i64 s21,.int .i64 s22,.int .i64 s23])],hb=>some (keepL s0 s1 s2 s3 s4 s5 s6 s7 s8 s9 s10 s11 s12 s13 s14 s15 s16 s17 s18 s19 s20 s21 s22 s23,keepH hb s0 s1 s2 s3 s4 s5 s6 s7 s8 s9 s10 s11 s12 s13 s14 s15 s16 s17 s18 s19 s20 s21 s22 s23,[])
 | _,_=>none
theorem keepR1 (s0 s1 s2 s3 s4 s5 s6 s7 s8 s9 s10 s11 s12 s13 s14 s15 s16 s17 s18 s19 s20 s21 s22 s23:Int) (hb:Bool):(runF Tryz.prog K9u Zl 4000 61 [A0,.v (.agg [.int .i64 s0,.int .i64 s1,.int .i64 s2,.int .i64 s3,.int .i64 s4,.int .i64 s5,.int .i64 s6,.int .i64 s7,.int .i64 s8,.int .i64 s9,.int .i64 s10,.int .i64 s11,.int .i64 s12,.int .i64 s13,.int .i64 s14,.int .i64 s15,.int .i64 s16,.int .i64 s17,.int .i64 s18,.int .i64 s19,.int .i64 s20,.int .i64 s21,.int .i64 s22,.int .i64 s23])] [(0,flag 61 hb)] 1 (tt 1 [])).map (fun r=>(r.1,getM r.2.1 0,r.2.2.2))=some (.v (.agg [.int .i64 (uV0 s0 s1 s2 s3),.int .i64 (uV1 s0 s1 s2 s3),.int .i64 (uV2 s0 s1 s2 s3),.int .i64 (uV3 s0 s1 s2 s3),.int .i64 ((clampV s4 (wr IntKind.i64 (0 - 549755813888)) 549755813888)),.int .i64 ((clampV s5 (wr IntKind.i64 (0 - 549755813888)) 549755813888)),.int .i64 ((clampV s6 (wr IntKind.i64 (0 - 549755813888)) 549755813888)),.int .i64 ((clampV s7 (wr IntKind.i64 (0 - 9007199254740992)) 9007199254740992)),.int .i64 ((clampV s8 (wr IntKind.i64 (0 - 9007199254740992)) 9007199254740992)),.int .i64 ((clampV s9 (wr IntKind.i64 (0 - 9007199254740992)) 9007199254740992)),.int .i64 ((clampV s10 (wr IntKind.i64 (0 - 134217728)) 134217728)),.int .i64 ((clampV s11 (wr IntKind.i64 (0 - 134217728)) 134217728)),.int .i64 ((clampV s12 (wr IntKind.i64 (0 - 134217728)) 134217728)),.int .i64 ((clampV s13 (wr IntKind.i64 (0 - 1073741824)) 1073741824)),.int .i64 ((clampV s14 (wr IntKind.i64 (0 - 1073741824)) 1073741824)),.int .i64 ((clampV s15 (wr IntKind.i64 (0 - 1073741824)) 1073741824)),.int .i64 ((clampV s16 (wr IntKind.i64 (0 - 2147483648)) 2147483648)),.int .i64 ((clampV s17 (wr IntKind.i64 (0 - 2147483648)) 2147483648)),.int .i64 ((clampV s18 (wr IntKind.i64 (0 - 2147483648)) 2147483648)),.int .i64 ((clampV s19 (wr IntKind.i64 (0 - 2147483648)) 2147483648)),.int .i64 ((clampV s20 (wr IntKind.i64 (0 - 2147483648)) 2147483648)),.int .i64 ((clampV s21 (wr IntKind.i64 (0 - 2147483648)) 2147483648)),.int .i64 ((clampV s22 (wr IntKind.i64 (0 - 137438953472)) 137438953472)),.int .i64 ((clampV s23 (wr IntKind.i64 (0 - 137438953472)) 137438953472))]),some (flag 61 (uFl hb s0 s1 s2 s3||clampH s4 (wr IntKind.i64 (0 - 549755813888)) 549755813888||clampH s5 (wr IntKind.i64 (0 - 549755813888)) 549755813888||clampH s6 (wr IntKind.i64 (0 - 549755813888)) 549755813888||clampH s7 (wr IntKind.i64 (0 - 9007199254740992)) 9007199254740992||clampH s8 (wr IntKind.i64 (0 - 9007199254740992)) 9007199254740992||clampH s9 (wr IntKind.i64 (0 - 9007199254740992)) 9007199254740992||clampH s10 (wr IntKind.i64 (0 - 134217728)) 134217728||clampH s11 (wr IntKind.i64 (0 - 134217728)) 134217728||clampH s12 (wr IntKind.i64 (0 - 134217728)) 134217728||clampH s13 (wr IntKind.i64 (0 - 1073741824)) 1073741824||clampH s14 (wr IntKind.i64 (0 - 1073741824)) 1073741824||clampH s15 (wr IntKind.i64 (0 - 1073741824)) 1073741824||clampH s16 (wr IntKind.i64 (0 - 2147483648)) 2147483648||clampH s17 (wr IntKind.i64 (0 - 2147483648)) 2147483648||clampH s18 (wr IntKind.i64 (0 - 2147483648)) 2147483648||clampH s19 (wr IntKind.i64 (0 - 2147483648)) 2147483648||clampH s20 (wr IntKind.i64 (0 - 2147483648)) 2147483648||clampH s21 (wr IntKind.i64 (0 - 2147483648)) 2147483648||clampH s22 (wr IntKind.i64 (0 - 137438953472)) 137438953472||clampH s23 (wr IntKind.i64 (0 - 137438953472)) 137438953472)),[(!kunB s0 s1 s2 s3,true)]):=by kernel_rfl
theorem keepR2 (s0 s1 s2 s3 s4 s5 s6 s7 s8 s9 s10 s11 s12 s13 s14 s15 s16 s17 s18 s19 s20 s21 s22 s23:Int) (hb:Bool):(runF Tryz.prog K9u Zl 4000 61 [A0,.v (.agg [.int .i64 s0,.int .i64 s1,.int .i64 s2,.int .i64 s3,.int .i64 s4,.int .i64 s5,.int .i64 s6,.int .i64 s7,.int .i64 s8,.int .i64 s9,.int .i64 s10,.int .i64 s11,.int .i64 s12,.int .i64 s13,.int .i64 s14,.int .i64 s15,.int .i64 s16,.int .i64 s17,.int .i64 s18,.int .i64 s19,.int .i64 s20,.int .i64 s21,.int .i64 s22,.int .i64 s23])] [(0,flag 61 hb)] 1 (ff 1 [])).map (fun r=>(r.1,getM r.2.1 0,r.2.2.2))=some (.v (.agg [.int .i64 (s0),.int .i64 (s1),.int .i64 (s2),.int .i64 (s3),.int .i64 ((clampV s4 (wr IntKind.i64 (0 - 549755813888)) 549755813888)),.int .i64 ((clampV s5 (wr IntKind.i64 (0 - 549755813888)) 549755813888)),.int .i64 ((clampV s6 (wr IntKind.i64 (0 - 549755813888)) 549755813888)),.int .i64 ((clampV s7 (wr IntKind.i64 (0 - 9007199254740992)) 9007199254740992)),.int .i64 ((clampV s8 (wr IntKind.i64 (0 - 9007199254740992)) 9007199254740992)),.int .i64 ((clampV s9 (wr IntKind.i64 (0 - 9007199254740992)) 9007199254740992)),.int .i64 ((clampV s10 (wr IntKind.i64 (0 - 134217728)) 134217728)),.int .i64 ((clampV s11 (wr IntKind.i64 (0 - 134217728)) 134217728)),.int .i64 ((clampV s12 (wr IntKind.i64 (0 - 134217728)) 134217728)),.int .i64 ((clampV s13 (wr IntKind.i64 (0 - 1073741824)) 1073741824)),.int .i64 ((clampV s14 (wr IntKind.i64 (0 - 1073741824)) 1073741824)),.int .i64 ((clampV s15 (wr IntKind.i64 (0 - 1073741824)) 1073741824)),.int .i64 ((clampV s16 (wr IntKind.i64 (0 - 2147483648)) 2147483648)),.int .i64 ((clampV s17 (wr IntKind.i64 (0 - 2147483648)) 2147483648)),.int .i64 ((clampV s18 (wr IntKind.i64 (0 - 2147483648)) 2147483648)),.int .i64 ((clampV s19 (wr IntKind.i64 (0 - 2147483648)) 2147483648)),.int .i64 ((clampV s20 (wr IntKind.i64 (0 - 2147483648)) 2147483648)),.int .i64 ((clampV s21 (wr IntKind.i64 (0 - 2147483648)) 2147483648)),.int .i64 ((clampV s22 (wr IntKind.i64 (0 - 137438953472)) 137438953472)),.int .i64 ((clampV s23 (wr IntKind.i64 (0 - 137438953472)) 137438953472))]),some (flag 61 (hb||clampH s4 (wr IntKind.i64 (0 - 549755813888)) 549755813888||clampH s5 (wr IntKind.i64 (0 - 549755813888)) 549755813888||clampH s6 (wr IntKind.i64 (0 - 549755813888)) 549755813888||clampH s7 (wr IntKind.i64 (0 - 9007199254740992)) 9007199254740992||clampH s8 (wr IntKind.i64 (0 - 9007199254740992)) 9007199254740992||clampH s9 (wr IntKind.i64 (0 - 9007199254740992)) 9007199254740992||clampH s10 (wr IntKind.i64 (0 - 134217728)) 134217728||clampH s11 (wr IntKind.i64 (0 - 134217728)) 134217728||clampH s12 (wr IntKind.i64 (0 - 134217728)) 134217728||clampH s13 (wr IntKind.i64 (0 - 1073741824)) 1073741824||clampH s14 (wr IntKind.i64 (0 - 1073741824)) 1073741824||clampH s15 (wr IntKind.i64 (0 - 1073741824)) 1073741824||clampH s16 (wr IntKind.i64 (0 - 2147483648)) 2147483648||clampH s17 (wr IntKind.i64 (0 - 2147483648)) 2147483648||clampH s18 (wr IntKind.i64 (0 - 2147483648)) 2147483648||clampH s19 (wr IntKind.i64 (0 - 2147483648)) 2147483648||clampH s20 (wr IntKind.i64 (0 - 2147483648)) 2147483648||clampH s21 (wr IntKind.i64 (0 - 2147483648)) 2147483648||clampH s22 (wr IntKind.i64 (0 - 137438953472)) 137438953472||clampH s23 (wr IntKind.i64 (0 - 137438953472)) 137438953472)),[(!kunB s0 s1 s2 s3,false)]):=by kernel_rfl
theorem sumKeep:SumOK Tryz.prog 61 (accSum 61 keepF):=by
 refine accSum_run (z:=Zl) soundK9u (own_of soundK9u Tryz.func61 (by kernel_rfl)) fun args hb v h' cs hF hc=> ?_
 unfold keepF at hF
 split at hF
 ·rename_i s0 s1 s2 s3 s4 s5 s6 s7 s8 s9 s10 s11 s12 s13 s14 s15 s16 s17 s18 s19 s20 s21 s22 s23
  cases hF
  cases c:kunB s0 s1 s2 s3
  ·refine ⟨rfl,4000,tt 1 [],_, ?_,ae_cons (show (!kunB s0 s1 s2 s3)=true by rw [c];rfl) ae_nil⟩
   rw [keepR1]
   simp only [keepL,keepH,c,cond_false]
  ·refine ⟨rfl,4000,ff 1 [],_, ?_,ae_cons (show (!kunB s0 s1 s2 s3)=false by rw [c];rfl) ae_nil⟩
   rw [keepR2]
   simp only [keepL,keepH,c,cond_true]
 ·cases hF
noncomputable def K10u:FuncId→Option SumK:=more K9u 61 (accSum 61 keepF)
theorem soundK10u:Sound Tryz.prog K10u:=soundK9u.more sumKeep
noncomputable def K11u:FuncId→Option SumK:=more K10u 154 (accSum 61 (autoF Tryz.prog K10u Zl 2000 154 61))
theorem soundK11u:Sound Tryz.prog K11u:=soundK10u.more (autoF_ok soundK10u (own_of soundK10u Tryz.func154 (by kernel_rfl)))
noncomputable def K12u:FuncId→Option SumK:=more K11u 149 (accSum 61 (autoF Tryz.prog K11u Zl 2000 149 61))
theorem soundK12u:Sound Tryz.prog K12u:=soundK11u.more (autoF_ok soundK11u (own_of soundK11u Tryz.func149 (by kernel_rfl)))
end Go.Proofs.YtnlhpaidmiogbaaGreat

/- States with holes: what a stage comes to, but for numbers that do not matter. -/
set_option linter.unusedVariables false
namespace Go.Lr
open Go.RowKit
inductive P1 where
 | lit (a:At)
 | hi
 | hb
def pairsB:List (Nat×Nat)→List (Nat×Nat)→Bool
 | [],[]=>true
 | (a,b)::l,(c,d)::m=>match Nat.beq a c with
  | true=>match Nat.beq b d with
   | true=>pairsB l m
   | false=>false
  | false=>false
 | _,_=>false
theorem pairsB_ok:∀{l m:List (Nat×Nat)},pairsB l m=true→l=m
 | [],[],_=>rfl
 | [],_::_,h=>by simp [pairsB] at h
 | _::_,[],h=>by simp [pairsB] at h
 | (a,b)::l,(c,d)::m,h=>by
  unfold pairsB at h
  split at h
  ·rename_i h1
   split at h
   ·rename_i h2
    rw [Nat.eq_of_beq_eq_true h1,Nat.eq_of_beq_eq_true h2,pairsB_ok h]
   ·cases h
  ·cases h
def nat3 (a b c d e f:Nat):Bool:=match Nat.beq a b with
 | true=>match Nat.beq c d with
  | true=>Nat.beq e f
  | false=>false
 | false=>false
theorem nat3_ok {a b c d e f:Nat} (h:nat3 a b c d e f=true):a=b∧c=d∧e=f:=by
 unfold nat3 at h
 split at h
 ·rename_i h1
  split at h
  ·rename_i h2
   exact ⟨Nat.eq_of_beq_eq_true h1,Nat.eq_of_beq_eq_true h2,Nat.eq_of_beq_eq_true h⟩
  ·cases h
 ·cases h
def eqA:At→At→Bool
 | .int k n,.int l m=>match kindEq k l with
  | true=>decide (n=m)
  | false=>false
 | .bool a,.bool b=>match a,b with
  | true,true=>true
  | false,false=>true
  | _,_=>false
 | .ptr b o,.ptr c p=>nat3 b c o p 0 0
 | .nilp,.nilp=>true
 | .sl b o l c,.sl b' o' l' c'=>match Nat.beq b b' with
  | true=>nat3 o o' l l' c c'
  | false=>false
 | .slu b l,.slu b' l'=>nat3 b b' l l' 0 0
 | .slx b o l c,.slx b' o' l' c'=>match Nat.beq b b' with
  | true=>nat3 o o' l l' c c'
  | false=>false
 | .ptx b o,.ptx c p=>nat3 b c o p 0 0
 | .nilsl,.nilsl=>true
 | .slt b o n,.slt b' o' n'=>nat3 b b' o o' n n'
 | .fn f l,.fn g m=>match Nat.beq f g with
  | true=>pairsB l m
  | false=>false
 | _,_=>false
theorem eqA_ok {a b:At} (h:eqA a b=true):a=b:=by
 unfold eqA at h
 split at h
 ·split at h
  ·rename_i h1
   rw [kindEq_spec h1,of_decide_eq_true h]
  ·cases h
 ·split at h <;> first | rfl | cases h
 ·obtain ⟨rfl,rfl,_⟩:=nat3_ok h;rfl
 ·rfl
 ·split at h
  ·rename_i h1
   obtain ⟨rfl,rfl,rfl⟩:=nat3_ok h
   rw [Nat.eq_of_beq_eq_true h1]
  ·cases h
 ·obtain ⟨rfl,rfl,_⟩:=nat3_ok h;rfl
 ·split at h
  ·rename_i h1
   obtain ⟨rfl,rfl,rfl⟩:=nat3_ok h
   rw [Nat.eq_of_beq_eq_true h1]
  ·cases h
 ·obtain ⟨rfl,rfl,_⟩:=nat3_ok h;rfl
 ·rfl
 ·obtain ⟨rfl,rfl,rfl⟩:=nat3_ok h;rfl
 ·split at h
  ·rename_i h1
   have e:_=_:=Nat.eq_of_beq_eq_true h1
   rw [e,pairsB_ok h]
  ·cases h
 ·cases h
def mat1:P1→At→Bool
 | .lit a,b=>eqA b a
 | .hi,.int .i64 _=>true
 | .hb,.bool _=>true
 | _,_=>false
def fil1 (x:Int) (y:Bool):P1→At
 | .lit a=>a
 | .hi=> .int .i64 x
 | .hb=> .bool y
def iA:At→Int
 | .int _ n=>n
 | _=>0
def bA:At→Bool
 | .bool b=>b
 | _=>false
theorem mat1_ok {p:P1} {a:At} (h:mat1 p a=true):a=fil1 (iA a) (bA a) p:=by
 unfold mat1 at h
 split at h
 ·exact eqA_ok h
 ·rfl
 ·rfl
 ·cases h
def matL:List P1→List At→Bool
 | [],[]=>true
 | p::ps,a::l=>match mat1 p a with
  | true=>matL ps l
  | false=>false
 | _,_=>false
def filL (f:Nat→Int) (g:Nat→Bool):Nat→List P1→List At
 | _,[]=>[]
 | o,p::ps=>fil1 (f o) (g o) p::filL f g (o+1) ps
def nthA (l:List At) (o:Nat):At:=(l[o]?).getD .nilp
theorem matL_ok:∀{ps:List P1} {l:List At} {o:Nat} {f:Nat→Int} {g:Nat→Bool},matL ps l=true→(∀k a,l[k]? = some a→f (o+k)=iA a∧g (o+k)=bA a)→l=filL f g o ps
 | [],[],_,_,_,_,_=>rfl
 | [],_::_,_,_,_,h,_=>by simp [matL] at h
 | _::_,[],_,_,_,h,_=>by simp [matL] at h
 | p::ps,a::l,o,f,g,h,hf=>by
  unfold matL at h
  split at h
  ·rename_i h1
   have h0:=hf 0 a rfl
   have e:=mat1_ok h1
   simp only [filL]
   rw [show f o=iA a from h0.1,show g o=bA a from h0.2,←e,←matL_ok h fun k b hk=>by
    have:=hf (k+1) b (by simpa using hk)
    rwa [show o+(k+1)=o+1+k by omega] at this]
  ·cases h
theorem matL_ok0 {ps:List P1} {l:List At} (h:matL ps l=true):l=filL (fun o=>iA (nthA l o)) (fun o=>bA (nthA l o)) 0 ps:=
 matL_ok h fun k a hk=>by simp [nthA,hk]
inductive PV where
 | one (p:P1)
 | agg (l:List P1)
structure PB where
 ty:TypeId
 fr:Nat×Nat
 es:Nat
 cells:List P1
structure Asg where
 F:Nat→Nat→Int
 G:Nat→Nat→Bool
 fs:Nat→Nat→Int
 gs:Nat→Nat→Bool
structure PS where
 live:List (Nat×PV)
 mem:List (Nat×PB)
 nb:Nat
def filV (f:Nat→Int) (g:Nat→Bool):PV→LV
 | .one p=> .v (.one (fil1 (f 0) (g 0) p))
 | .agg l=> .v (.agg (filL f g 0 l))
def filB (f:Nat→Int) (g:Nat→Bool) (b:PB):Blk:=⟨b.ty,b.fr,b.es,filL f g 0 b.cells⟩
def filVs (s:Asg):List (Nat×PV)→List (Nat×LV)
 | []=>[]
 | (i,p)::l=>(i,filV (s.fs i) (s.gs i) p)::filVs s l
def filM (s:Asg):List (Nat×PB)→Mem
 | []=>[]
 | (i,p)::l=>(i,filB (s.F i) (s.G i) p)::filM s l
def filS (s:Asg) (p:PS):Kst:=⟨filVs s p.live,filM s p.mem,p.nb⟩
def matV:PV→LV→Bool
 | .one p,.v (.one a)=>mat1 p a
 | .agg l,.v (.agg m)=>matL l m
 | _,_=>false
def vCells:LV→List At
 | .v (.one a)=>[a]
 | .v (.agg l)=>l
 | _=>[]
theorem matV_ok {p:PV} {v:LV} (h:matV p v=true):v=filV (fun o=>iA (nthA (vCells v) o)) (fun o=>bA (nthA (vCells v) o)) p:=by
 unfold matV at h
 split at h
 ·rename_i p a
  have e:=mat1_ok h
  show _=LV.v (.one (fil1 (iA a) (bA a) p))
  rw [←e]
 ·rename_i l m
  have e:=matL_ok0 h
  show _=LV.v (.agg (filL (fun o=>iA (nthA m o)) (fun o=>bA (nthA m o)) 0 l))
  rw [←e]
 ·cases h
def fr2 (a b:Nat×Nat):Bool:=match a,b with
 | (x,y),(z,w)=>nat3 x z y w 0 0
def matB (p:PB) (b:Blk):Bool:=match Nat.beq b.ty p.ty with
 | true=>match fr2 b.fr p.fr with
  | true=>match Nat.beq b.es p.es with
   | true=>matL p.cells b.cells
   | false=>false
  | false=>false
 | false=>false
theorem matB_ok {p:PB} {b:Blk} (h:matB p b=true):b=filB (fun o=>iA (nthA b.cells o)) (fun o=>bA (nthA b.cells o)) p:=by
 unfold matB at h
 split at h
 ·rename_i h1
  split at h
  ·rename_i h2
   split at h
   ·rename_i h3
    have e:=matL_ok0 h
    obtain ⟨ty,⟨x,y⟩,es,cells⟩:=b
    obtain ⟨ty',⟨x',y'⟩,es',ps⟩:=p
    simp only [fr2] at h2
    obtain ⟨rfl,rfl,_⟩:=nat3_ok h2
    have e1:ty=ty':=Nat.eq_of_beq_eq_true h1
    have e2:es=es':=Nat.eq_of_beq_eq_true h3
    subst e1
    subst e2
    show _=Blk.mk ty (x,y) es (filL (fun o=>iA (nthA cells o)) (fun o=>bA (nthA cells o)) 0 ps)
    rw [←e]
   ·cases h
  ·cases h
 ·cases h
def matVs:List (Nat×PV)→List LV→Bool
 | [],[]=>true
 | (_,p)::l,v::m=>match matV p v with
  | true=>matVs l m
  | false=>false
 | _,_=>false
def matBs:List (Nat×PB)→List (Option Blk)→Bool
 | [],[]=>true
 | (_,p)::l,some b::m=>match matB p b with
  | true=>matBs l m
  | false=>false
 | _,_=>false
def getV:List (Nat×PV)→List LV→Nat→LV
 | (i,_)::l,v::m,k=>if k=i then v else getV l m k
 | _,_,_=> .v (.one .nilp)
def getB:List (Nat×PB)→List (Option Blk)→Nat→List At
 | (i,_)::l,some b::m,k=>if k=i then b.cells else getB l m k
 | _,_,_=>[]
theorem matVs_ok {s:Asg}:∀{l:List (Nat×PV)} {m:List LV} {h:Nat→LV},matVs l m=true→(l.map (·.1)).map h=m→(∀k,s.fs k=(fun o=>iA (nthA (vCells (h k)) o))∧s.gs k=(fun o=>bA (nthA (vCells (h k)) o)))→(l.map (·.1)).zip m=filVs s l
 | [],_,_,_,_,_=>rfl
 | (i,p)::l,[],_,h,_,_=>by simp [matVs] at h
 | (i,p)::l,v::m,hh,h,he,hs=>by
  unfold matVs at h
  split at h
  ·rename_i h1
   simp only [List.map_cons,List.cons.injEq] at he
   have e:=matV_ok h1
   simp only [List.map_cons,List.zip_cons_cons,filVs]
   rw [matVs_ok h he.2 hs,(hs i).1,(hs i).2,he.1,←e]
  ·cases h
theorem matBs_ok {s:Asg}:∀{l:List (Nat×PB)} {m:List (Option Blk)} {h:Nat→Option Blk},matBs l m=true→(l.map (·.1)).map h=m→
  (∀k b,h k=some b→s.F k=(fun o=>iA (nthA b.cells o))∧s.G k=(fun o=>bA (nthA b.cells o)))→∃bs,m=bs.map some∧(l.map (·.1)).zip bs=filM s l
 | [],[],_,_,_,_=>⟨[],rfl,rfl⟩
 | [],_::_,_,h,_,_=>by simp [matBs] at h
 | (i,p)::l,[],_,h,_,_=>by simp [matBs] at h
 | (i,p)::l,none::m,_,h,_,_=>by simp [matBs] at h
 | (i,p)::l,some b::m,hh,h,he,hs=>by
  unfold matBs at h
  split at h
  ·rename_i h1
   simp only [List.map_cons,List.cons.injEq] at he
   have e:=matB_ok h1
   obtain ⟨bs,g1,g2⟩:=matBs_ok h he.2 hs
   have h2:=hs i b he.1
   refine ⟨b::bs,by simp [g1], ?_⟩
   simp only [List.map_cons,List.zip_cons_cons,filM]
   rw [g2,h2.1,h2.2,←e]
  ·cases h
def exB:Ex→Ex→Bool
 | .normal,.normal=>true
 | .ret,.ret=>true
 | .exit a,.exit b=>Nat.beq a b
 | _,_=>false
theorem exB_ok {a b:Ex} (h:exB a b=true):a=b:=by
 unfold exB at h
 split at h
 ·rfl
 ·rfl
 ·rw [Nat.eq_of_beq_eq_true h]
 ·cases h
def stageB (p:PS) (e:Ex) (r:Option (Ex×List LV×List (Option Blk)×List (Bool×Bool))):Bool:=
 match r with
 | some (e0,vs,bs,cs)=>match exB e0 e with
  | true=>match matVs p.live vs with
   | true=>match matBs p.mem bs with
    | true=>allEqB cs
    | false=>false
   | false=>false
  | false=>false
 | none=>false
def ToP (P:Program) (sz:Nat) (c:Code) (A:Kst) (e:Ex) (B:Kst→Prop):Prop:=
 ∀E a w,KR E sz A a w→∀Q:Exit→Act→World→Prop,(∀B0,B B0→∀E' a' w',KR E' sz B0 a' w'→Ext w E A.ms w' E' B0.ms→Q e.to a' w')→c.wp P Q a w
def Fil (p:PS) (B:Kst):Prop:=∃s,B=filS s p
section
variable {P:Program} {S:FuncId→Option SumK} {z:Md} {sz:Nat}
theorem ToP.run (hs:Sound P S) {c:Code} {A:Kst} {e:Ex} {p:PS} {n:Nat} {dec:List (Option Bool)}
  (hrun:∀dead,stageB p e (projS (p.live.map (·.1)) (p.mem.map (·.1)) (Go.Lr.exec P S z n (.code c) (A.st sz dead dec)))=true)
  (hB:∀s,canB (filS s p)=true) (hnb:Nat.ble A.nb p.nb=true):ToP P sz c A e (Fil p):=by
 intro E a w hk Q hQ
 have hr:=hk.toR dec
 have h:=hrun fun t=>a.tmps.getD t undef
 cases hp:projS (p.live.map (·.1)) (p.mem.map (·.1)) (Go.Lr.exec P S z n (.code c) (A.st sz (fun t=>a.tmps.getD t undef) dec)) with
 | none=>rw [hp] at h;cases h
 | some q=>
  obtain ⟨e0,vs,bs,cs⟩:=q
  rw [hp] at h
  simp only [stageB] at h
  split at h
  ·rename_i he
   split at h
   ·rename_i hv
    split at h
    ·rename_i hb
     have hcs:=allEqB_ok h
     have:=exB_ok he
     subst this
     unfold projS at hp
     split at hp
     ·rename_i e' s' hex
      simp only [Option.some.injEq,Prod.mk.injEq] at hp
      obtain ⟨rfl,gv,gb,rfl⟩:=hp
      obtain ⟨e2,q1,q2,q3,q4,q5,q6⟩:=(exec_sound (binOK P) hs.sums hs.mix hs.ng n).1 c _ _ s' hex hk.le hr.st
      cases q1
      let s:Asg:=⟨fun k o=>iA (nthA ((getM s'.mem k).elim [] (·.cells)) o),fun k o=>bA (nthA ((getM s'.mem k).elim [] (·.cells)) o),fun k o=>iA (nthA (vCells (getT s'.tm k)) o),fun k o=>bA (nthA (vCells (getT s'.tm k)) o)⟩
      have e1:(p.live.map (·.1)).zip vs=filVs s p.live:=matVs_ok (h:=getT s'.tm) hv gv fun k=>⟨rfl,rfl⟩
      obtain ⟨bs',rfl,e3⟩:=matBs_ok (s:=s) (h:=getM s'.mem) hb gb fun k b hb=>⟨by show (fun o=>iA (nthA ((getM s'.mem k).elim [] (·.cells)) o))=_;rw [hb];rfl,by show (fun o=>bA (nthA ((getM s'.mem k).elim [] (·.cells)) o))=_;rw [hb];rfl⟩
      have hB':KstOK ⟨(p.live.map (·.1)).zip vs,(p.mem.map (·.1)).zip bs',p.nb⟩:=by rw [e1,e3];exact canB_ok (hB s)
      have hnb':=Nat.le_of_ble_eq_true hnb
      refine q6 hcs E a w hr Q fun E' a' w' hr' hx=> ?_
      have hsub:=zip_getM (p.mem.map (·.1)) bs' (getM s'.mem) gb
      refine hQ (filS s p) ⟨s,rfl⟩ E' a' w' ?_ ?_
      ·have:filS s p=⟨(p.live.map (·.1)).zip vs,(p.mem.map (·.1)).zip bs',p.nb⟩:=by rw [e1,e3];rfl
       rw [this]
       refine ⟨hB',hr'.size.trans q4,hk.le,hr'.defers,fun q hq=> ?_,⟨fun i b hib=>hr'.m.rel.blk i b (hsub i b hib),fun i j hi hj he=>hr'.m.rel.inj i j ?_ ?_ he⟩⟩
       ·rw [hr'.tm q.1,zip_getT (p.live.map (·.1)) vs (getT s'.tm) gv q hq]
       ·obtain ⟨b,hib⟩:=Option.isSome_iff_exists.1 hi;simp [hsub i b hib]
       ·obtain ⟨b,hjb⟩:=Option.isSome_iff_exists.1 hj;simp [hsub j b hjb]
      ·have:(filS s p).ms=(Kst.mk ((p.live.map (·.1)).zip vs) ((p.mem.map (·.1)).zip bs') p.nb).ms:=by rw [e1,e3];rfl
       rw [this]
       refine ⟨hnb',hx.agree,hx.os,hx.tape,hx.output,hx.size,hx.frame,fun i hi=>hx.src i ?_⟩
       obtain ⟨b,hib⟩:=Option.isSome_iff_exists.1 hi
       simp [hsub i b hib]
     ·cases hp
    ·cases h
   ·cases h
  ·cases h
theorem ToP.mono {c:Code} {A:Kst} {e:Ex} {B C:Kst→Prop} (h:ToP P sz c A e B) (k:∀x,B x→C x):ToP P sz c A e C:=
 fun E a w hr Q hQ=>h E a w hr Q fun B0 hB0=>hQ B0 (k B0 hB0)
theorem ToP.of_To {c:Code} {A B:Kst} {e:Ex} (h:To P sz c A e B):ToP P sz c A e (fun x=>x=B):=
 fun E a w hr Q hQ=>h E a w hr Q (hQ B rfl)
theorem ToP.seq {c:Code} {A:Kst} {e:Ex} {B C:Kst→Prop} (hc:isSeq c=true) (h:ToP P sz (c1 c) A .normal B) (k:∀x,B x→ToP P sz (c2 c) x e C):ToP P sz c A e C:=by
 cases c <;> simp only [isSeq,Bool.false_eq_true] at hc
 intro E a w hr Q hQ
 refine wp_seq (h E a w hr _ fun B0 hB E' a' w' hr' hx'=> ?_)
 exact k B0 hB E' a' w' hr' Q fun C0 hC E'' a'' w'' hr'' hx''=>hQ C0 hC E'' a'' w'' hr'' (hx'.trans hx'')
theorem ToP.seq_out {c:Code} {A:Kst} {e:Ex} {B:Kst→Prop} (hc:isSeq c=true) (he:e≠ .normal) (h:ToP P sz (c1 c) A e B):ToP P sz c A e B:=by
 cases c <;> simp only [isSeq,Bool.false_eq_true] at hc
 intro E a w hr Q hQ
 refine wp_seq (h E a w hr _ fun B0 hB E' a' w' hr' hx'=> ?_)
 have:=hQ B0 hB E' a' w' hr' hx'
 cases e <;> first | exact absurd rfl he | exact this
theorem ToP.block {c:Code} {id:Nat} {A:Kst} {e:Ex} {B:Kst→Prop} (hc:blkId c=some id) (h:ToP P sz (c1 c) A e B) (he:e = .exit id∨e = .normal):ToP P sz c A .normal B:=by
 cases c <;> simp only [blkId,reduceCtorEq] at hc
 cases hc
 intro E a w hr Q hQ
 refine wp_block (h E a w hr _ fun B0 hB E' a' w' hr' hx'=> ?_)
 have:=hQ B0 hB E' a' w' hr' hx'
 rcases he with rfl | rfl
 ·simpa only [Ex.to,Exit.inBlock,if_true] using this
 ·exact this
theorem ToP.block_out {c:Code} {id:Nat} {A:Kst} {e:Ex} {B:Kst→Prop} (hc:blkId c=some id) (h:ToP P sz (c1 c) A e B) (he:e≠ .exit id):ToP P sz c A e B:=by
 cases c <;> simp only [blkId,reduceCtorEq] at hc
 cases hc
 intro E a w hr Q hQ
 refine wp_block (h E a w hr _ fun B0 hB E' a' w' hr' hx'=> ?_)
 have:=hQ B0 hB E' a' w' hr' hx'
 cases e with
 | exit i=>
  have hne:i≠id:=fun h=>he (by rw [h])
  simpa only [Ex.to,Exit.inBlock,hne,if_false] using this
 | normal=>exact this
 | ret=>exact this
def RdP (P:Program) (sz:Nat) (c:Code) (m:Nat) (A:Kst) (e:Ex) (B:Kst→Prop):Prop:=
 ∀E a w,KR E sz A a w→∀Q:Exit→Act→World→Prop,(∀B0,B B0→∀E' a' w',KR E' sz B0 a' w'→Ext w E A.ms w' E' B0.ms→Q e.to a' w')→Code.rounds P c Q m a w
theorem RdP.last {c:Code} {A:Kst} {e:Ex} {B:Kst→Prop} (he:e≠ .normal) (h:ToP P sz c A e B):RdP P sz c 1 A e B:=by
 intro E a w hr Q hQ
 rw [rounds_succ]
 refine h E a w hr _ fun B0 hB E' a' w' hr' hx'=> ?_
 have:=hQ B0 hB E' a' w' hr' hx'
 cases e <;> first | exact absurd rfl he | exact this
theorem RdP.next {c:Code} {A:Kst} {e:Ex} {B C:Kst→Prop} {m:Nat} (h:ToP P sz c A .normal B) (k:∀x,B x→RdP P sz c m x e C):RdP P sz c (m+1) A e C:=by
 intro E a w hr Q hQ
 rw [rounds_succ]
 refine h E a w hr _ fun B0 hB E' a' w' hr' hx'=> ?_
 exact k B0 hB E' a' w' hr' Q fun C0 hC E'' a'' w'' hr'' hx''=>hQ C0 hC E'' a'' w'' hr'' (hx'.trans hx'')
theorem ToP.loop {c:Code} {A:Kst} {e:Ex} {B:Kst→Prop} {m:Nat} (hc:isLoop c=true) (h:RdP P sz (c1 c) m A e B):ToP P sz c A e B:=by
 cases c <;> simp only [isLoop,Bool.false_eq_true] at hc
 exact fun E a w hr Q hQ=>wp_loop_rounds m (h E a w hr Q hQ)
theorem pure_of_ToP {f:FuncId} {fn:Func} {c:Code} {args:List LV} {B:Kst→Prop} {e:Ex} {v:LV} (ho:Own P f) (hf:P.funcs[f]? = some fn) (hb:fn.body=some c)
  (hle:fn.ntmps≤60000) (hargs:args.length≤fn.ntmps) (ha:plainVs args=true) (h:ToP P fn.ntmps c ⟨argsL 0 args,[],0⟩ e B) (he:e = .normal∨e = .ret)
  (hres:∀x,B x→∀dead,resultsD P fn.results.toList (getT (x.tm dead)) x.mem=some v) (hv:v.ok noP=true) (w:World):CallOK P f (args.map (LV.den E0)).toArray w fun u w'=>u=v.den E0∧Below w.heap.size w w':=by
 have ha':=plainVs_iff.1 ha
 refine callOK_of ho (calls_of_wp hf hb (h E0 _ w ⟨⟨fun q hq=> ?_,(argsL_fst args 0).1,fun q hq=> ?_,fun i b h=>by simp [getM] at h,trivial⟩,by simp;omega,hle,rfl,fun q hq=> ?_,⟨fun i b h=>by simp [getM] at h,fun i j h=>by simp [getM] at h⟩⟩ _ fun B0 hB E' a' w' hr' hx'=> ?_))
 ·have:=(argsL_mem args 0 q).1 hq
  have:=(List.getElem?_eq_some_iff.1 this.2).1
  omega
 ·exact LV.ok_mono noP_below (ha' q.2 (List.mem_of_getElem? ((argsL_mem args 0 q).1 hq).2))
 ·have:=((argsL_mem args 0 q).1 hq).2
  simp only [Nat.sub_zero] at this
  have hlt:=(List.getElem?_eq_some_iff.1 this).1
  simp only [Array.getD_eq_getD_getElem?,Array.getElem?_append,List.size_toArray,List.length_map]
  rw [if_pos hlt]
  simp [this]
 ·have hR:=hr'.toR []
  have hpost:bodyPost P fn (fun e w'=>e = .returned (v.den E0)∧Below w.heap.size w w') .ret a' w':=by
   refine ⟨hr'.defers,v.den E',resultsD_spec hR.m.rel hR.tm (hres B0 hB _), ?_, ?_⟩
   ·rw [den_noP hv]
   ·exact ⟨hx'.os,hx'.tape,hx'.output,hx'.size,fun k hk=>hx'.frame k hk fun i hi=>by simp [getM,Kst.ms] at hi⟩
  rcases he with rfl | rfl
  ·exact hpost
  ·exact hpost
end
end Go.Lr
namespace Go.Lr
abbrev pI (n:Int):P1:= .lit (.int .i64 n)
abbrev pL (a:At):P1:= .lit a
abbrev pB (x:Bool):P1:= .lit (.bool x)
def rp:Nat→P1→List P1
 | 0,_=>[]
 | n+1,p=>p::rp n p
end Go.Lr

/- Opaque summaries, off one run that asks nothing. -/
set_option linter.unusedVariables false
namespace Go.Lr
open Go.RowKit
def okX (ty:TypeId) (n:Nat) (r:Option (LV×Option Blk×List (Bool×Bool))):Bool:=
 match r with
 | some (.v (.agg l),some b,cs)=>match allIB l n with
  | true=>match matB ⟨ty,(0,0),0,[.hb]⟩ b with
   | true=>allEqB cs
   | false=>false
  | false=>false
 | _=>false
theorem okX_ok {ty:TypeId} {n:Nat} {r:Option (LV×Option Blk×List (Bool×Bool))} (h:okX ty n r=true):∃l h' cs,r=some (.v (.agg l),some (flag ty h'),cs)∧AllI l n∧∀c∈cs,c.1=c.2:=by
 unfold okX at h
 split at h
 ·rename_i l b cs
  split at h
  ·rename_i h1
   split at h
   ·rename_i h2
    refine ⟨l,bA (nthA b.cells 0),cs, ?_,allIB_ok h1,allEqB_ok h⟩
    have e:b=flag ty (bA (nthA b.cells 0)):=matB_ok h2
    rw [←e]
   ·cases h
  ·cases h
 ·cases h
section
variable {P:Program} {S:FuncId→Option SumK} {z:Md}
theorem AllI.okn {l:List At} {n:Nat} (h:AllI l n):(LV.v (.agg l)).ok noP=true:=h.ok
theorem exF_run (hs:Sound P S) {f:FuncId} {ty:TypeId} {okA:List LV→Bool} {n:Nat} (ho:Own P f)
  (h:∀args hb,okA args=true→∃(k:Nat) (dec:List (Option Bool)),okX ty n ((runF P S z k f (A0::args) [(0,flag ty hb)] 1 dec).map (fun r=>(r.1,getM r.2.1 0,r.2.2.2)))=true):SumOK P f (accSum ty (exF P f ty okA n)):=by
 refine exF_ok ho fun args hb hok hp=> ?_
 obtain ⟨k,dec,hr⟩:=h args hb hok
 obtain ⟨l,h',cs,hrun,hl,hc⟩:=okX_ok hr
 exact ⟨l,h',hl,fun w L hL=>acc_run hs hrun hc hp hl.okn w L hL⟩
end
end Go.Lr

/- strap.Step: opaque; output.Of: by formula; and the rest of the filter over them. -/
namespace Go.Proofs.YtnlhpaidmiogbaaGreat
open Go.Lr
set_option linter.unusedVariables false
def okSI:List LV→Bool
 | [.v (.agg [.int .i64 s0,.int .i64 s1,.int .i64 s2,.int .i64 s3,.int .i64 s4,.int .i64 s5,.int .i64 s6,.int .i64 s7,.int .i64 s8,.int .i64 s9,.int .i64 s10,.int .i64 s11,.int .i64 s12,.int .i64 s13,.int .i64 s14,.int .i64 s15,.int .i64 s16,.int .i64 s17,.int .i64 s18,.int .i64 s19,.int .i64 s20,.int .i64 s21,.int .i64 s22,.int .i64 s23]),.v (.agg [.int .i64 i0,.int .i64 i1,.int .i64 i2,.int .i64 i3,.int .i64 i4,.int .i64 i5,.int .i64 i6,.int .i64 i7])]=>true
 | _=>false
theorem stepX (s0 s1 s2 s3 s4 s5 s6 s7 s8 s9 s10 s11 s12 s13 s14 s15 s16 s17 s18 s19 s20 s21 s22 s23 i0 i1 i2 i3 i4 i5 i6 i7:Int) (hb:Bool):okX 61 24 ((runF Tryz.prog K12u Zl 4000 98 [A0,.v (.agg [.int .i64 s0,.int .i64 s1,.int .i64 s2,.int .i64 s3,.int .i64 s4,.int .i64 s5,.int .i64 s6,.int .i64 s7,.int .i64 s8,.int .i64 s9,.int .i64 s10,.int .i64 s11,.int .i64 s12,.int .i64 s13,.int .i64 s14,.int .i64 s15,.int .i64 s16,.int .i64 s17,.int .i64 s18,.int .i64 s19,.int .i64 s20,.int .i64 s21,.int .i64 s22,.int .i64 s23]),.v (.agg [.int .i64 i0,.int .i64 i1,.int .i64 i2,.int .i64 i3,.int .i64 i4,.int .i64 i5,.int .i64 i6,.int .i64 i7])] [(0,flag 61 hb)] 1 []).map (fun r=>(r.1,getM r.2.1 0,r.2.2.2)))=true:=by kernel_rfl
theorem sumStepX:SumOK Tryz.prog 98 (accSum 61 (exF Tryz.prog 98 61 okSI 24)):=by
 refine exF_run (z:=Zl) soundK12u (own_of soundK12u Tryz.func98 (by kernel_rfl)) fun args hb hok=> ?_
 unfold okSI at hok
 split at hok
 ·exact ⟨4000,[],stepX _ _ _ _ _ _ _ _ _ _ _ _ _ _ _ _ _ _ _ _ _ _ _ _ _ _ _ _ _ _ _ _ hb⟩
 ·cases hok
noncomputable def K13u:FuncId→Option SumK:=more K12u 98 (accSum 61 (exF Tryz.prog 98 61 okSI 24))
theorem soundK13u:Sound Tryz.prog K13u:=soundK12u.more sumStepX
def outV (t:Int) (s0 s1 s2 s3 s4 s5 s6 s7 s8 s9 s10 s11 s12 s13 s14 s15 s16 s17 s18 s19 s20 s21 s22 s23:Int):LV:=match keepL s0 s1 s2 s3 s4 s5 s6 s7 s8 s9 s10 s11 s12 s13 s14 s15 s16 s17 s18 s19 s20 s21 s22 s23 with
 | .v (.agg (k0::k1::k2::k3::k4::k5::k6::k7::k8::k9::_))=> .v (.agg [.int .i64 t,k0,k1,k2,k3,k4,k5,k6,k7,k8,k9])
 | v=>v
def outOfF:List LV→Bool→Option (LV×Bool×List (Bool×Bool))
 | [.v (.agg [.int .i64 s0,.int .i64 s1,.int .i64 s2,.int .i64 s3,.int .i64 s4,.int .i64 s5,.int .i64 s6,.int .i64 s7,.int .i64 s8,.int .i64 s9,.int .i64 s10,.int .i64 s11,.int .i64 s12,.int .i64 s13,.int .i64 s14,.int .i64 s15,.int .i64 s16,.int .i64 s17,.int .i64 s18,.int .i64 s19,.int .i64 s20,.int .i64 s21,.int .i64 s22,.int .i64 s23]),.v (.one (.int .i64 t))],hb=>some (outV t s0 s1 s2 s3 s4 s5 s6 s7 s8 s9 s10 s11 s12 s13 s14 s15 s16 s17 s18 s19 s20 s21 s22 s23,keepH hb s0 s1 s2 s3 s4 s5 s6 s7 s8 s9 s10 s11 s12 s13 s14 s15 s16 s17 s18 s19 s20 s21 s22 s23,[])
 | _,_=>none
theorem outOfR (t s0 s1 s2 s3 s4 s5 s6 s7 s8 s9 s10 s11 s12 s13 s14 s15 s16 s17 s18 s19 s20 s21 s22 s23:Int) (hb:Bool):(runF Tryz.prog K13u Zl 4000 97 [A0,.v (.agg [.int .i64 s0,.int .i64 s1,.int .i64 s2,.int .i64 s3,.int .i64 s4,.int .i64 s5,.int .i64 s6,.int .i64 s7,.int .i64 s8,.int .i64 s9,.int .i64 s10,.int .i64 s11,.int .i64 s12,.int .i64 s13,.int .i64 s14,.int .i64 s15,.int .i64 s16,.int .i64 s17,.int .i64 s18,.int .i64 s19,.int .i64 s20,.int .i64 s21,.int .i64 s22,.int .i64 s23]),I t] [(0,flag 61 hb)] 1 []).map (fun r=>(r.1,getM r.2.1 0,r.2.2.2))=some (outV t s0 s1 s2 s3 s4 s5 s6 s7 s8 s9 s10 s11 s12 s13 s14 s15 s16 s17 s18 s19 s20 s21 s22 s23,some (flag 61 (keepH hb s0 s1 s2 s3 s4 s5 s6 s7 s8 s9 s10 s11 s12 s13 s14 s15 s16 s17 s18 s19 s20 s21 s22 s23)),[]):=by kernel_rfl
theorem sumOutOf:SumOK Tryz.prog 97 (accSum 61 outOfF):=by
 refine accSum_run (z:=Zl) soundK13u (own_of soundK13u Tryz.func97 (by kernel_rfl)) fun args hb v h' cs hF hc=> ?_
 unfold outOfF at hF
 split at hF
 ·cases hF
  exact ⟨rfl,4000,[],_,outOfR _ _ _ _ _ _ _ _ _ _ _ _ _ _ _ _ _ _ _ _ _ _ _ _ _ hb,ae_nil⟩
 ·cases hF
noncomputable def K14u:FuncId→Option SumK:=more K13u 97 (accSum 61 outOfF)
theorem soundK14u:Sound Tryz.prog K14u:=soundK13u.more sumOutOf
def outPutS:List LV→Option (LV×List (Bool×Bool))
 | [.v (.agg [.int .i64 s0,.int .i64 s1,.int .i64 s2,.int .i64 s3,.int .i64 s4,.int .i64 s5,.int .i64 s6,.int .i64 s7,.int .i64 s8,.int .i64 s9,.int .i64 s10,.int .i64 s11,.int .i64 s12,.int .i64 s13,.int .i64 s14,.int .i64 s15,.int .i64 s16,.int .i64 s17,.int .i64 s18,.int .i64 s19,.int .i64 s20,.int .i64 s21,.int .i64 s22,.int .i64 s23]),.v (.agg [.int .i64 o0,.int .i64 o1,.int .i64 o2,.int .i64 o3,.int .i64 o4,.int .i64 o5,.int .i64 o6,.int .i64 o7,.int .i64 o8,.int .i64 o9,.int .i64 o10])]=>some (.v (.agg [.int .i64 o1,.int .i64 o2,.int .i64 o3,.int .i64 o4,.int .i64 o5,.int .i64 o6,.int .i64 o7,.int .i64 o8,.int .i64 o9,.int .i64 o10,.int .i64 s10,.int .i64 s11,.int .i64 s12,.int .i64 s13,.int .i64 s14,.int .i64 s15,.int .i64 s16,.int .i64 s17,.int .i64 s18,.int .i64 s19,.int .i64 s20,.int .i64 s21,.int .i64 s22,.int .i64 s23]),[])
 | _=>none
theorem outPutR (s0 s1 s2 s3 s4 s5 s6 s7 s8 s9 s10 s11 s12 s13 s14 s15 s16 s17 s18 s19 s20 s21 s22 s23 o0 o1 o2 o3 o4 o5 o6 o7 o8 o9 o10:Int):(runF Tryz.prog K14u Zl 4000 99 [.v (.agg [.int .i64 s0,.int .i64 s1,.int .i64 s2,.int .i64 s3,.int .i64 s4,.int .i64 s5,.int .i64 s6,.int .i64 s7,.int .i64 s8,.int .i64 s9,.int .i64 s10,.int .i64 s11,.int .i64 s12,.int .i64 s13,.int .i64 s14,.int .i64 s15,.int .i64 s16,.int .i64 s17,.int .i64 s18,.int .i64 s19,.int .i64 s20,.int .i64 s21,.int .i64 s22,.int .i64 s23]),.v (.agg [.int .i64 o0,.int .i64 o1,.int .i64 o2,.int .i64 o3,.int .i64 o4,.int .i64 o5,.int .i64 o6,.int .i64 o7,.int .i64 o8,.int .i64 o9,.int .i64 o10])] [] 0 []).map (fun r=>(r.1,r.2.2.2))=some (.v (.agg [.int .i64 o1,.int .i64 o2,.int .i64 o3,.int .i64 o4,.int .i64 o5,.int .i64 o6,.int .i64 o7,.int .i64 o8,.int .i64 o9,.int .i64 o10,.int .i64 s10,.int .i64 s11,.int .i64 s12,.int .i64 s13,.int .i64 s14,.int .i64 s15,.int .i64 s16,.int .i64 s17,.int .i64 s18,.int .i64 s19,.int .i64 s20,.int .i64 s21,.int .i64 s22,.int .i64 s23]),[]):=by kernel_rfl
theorem sumOutPut:SumOK Tryz.prog 99 (pureSum outPutS):=by
 refine pureSum_run (z:=Zl) soundK14u (own_of soundK14u Tryz.func99 (by kernel_rfl)) fun args v cs hF hc=> ?_
 unfold outPutS at hF
 split at hF
 ·cases hF
  exact ⟨4000,[],[],outPutR _ _ _ _ _ _ _ _ _ _ _ _ _ _ _ _ _ _ _ _ _ _ _ _ _ _ _ _ _ _ _ _ _ _ _,by simp⟩
 ·cases hF
noncomputable def K15u:FuncId→Option SumK:=more K14u 99 (pureSum outPutS)
theorem soundK15u:Sound Tryz.prog K15u:=soundK14u.more sumOutPut
noncomputable def K16u:FuncId→Option SumK:=more K15u 96 (accSum 61 (autoF Tryz.prog K15u Zl 2000 96 61))
theorem soundK16u:Sound Tryz.prog K16u:=soundK15u.more (autoF_ok soundK15u (own_of soundK15u Tryz.func96 (by kernel_rfl)))
noncomputable def K17u:FuncId→Option SumK:=more K16u 95 (autoP Tryz.prog K16u Zl 2000 95)
theorem soundK17u:Sound Tryz.prog K17u:=soundK16u.more (autoP_ok soundK16u (own_of soundK16u Tryz.func95 (by kernel_rfl)))
noncomputable def K18u:FuncId→Option SumK:=more K17u 200 (accSum 61 (autoF Tryz.prog K17u Zl 2000 200 61))
theorem soundK18u:Sound Tryz.prog K18u:=soundK17u.more (autoF_ok soundK17u (own_of soundK17u Tryz.func200 (by kernel_rfl)))
noncomputable def K19u:FuncId→Option SumK:=more K18u 158 (accSum 61 thS)
theorem soundK19u:Sound Tryz.prog K19u:=soundK18u.more (sumTh)
noncomputable def K20u:FuncId→Option SumK:=moreG K19u 156 (orGen (narG 0 61 (autoA Tryz.prog K19u Zl 4000 156)) (autoA Tryz.prog K19u Zl 4000 156))
theorem soundK20u:Sound Tryz.prog K20u:=soundK19u.moreG (orGen_ok (narG_ok (autoA_ok soundK19u (own_of soundK19u Tryz.func156 (by kernel_rfl)))) (autoA_ok soundK19u (own_of soundK19u Tryz.func156 (by kernel_rfl))))
noncomputable def K21u:FuncId→Option SumK:=more K20u 105 (autoP Tryz.prog K20u Zl 2000 105)
theorem soundK21u:Sound Tryz.prog K21u:=soundK20u.more (autoP_ok soundK20u (own_of soundK20u Tryz.func105 (by kernel_rfl)))
noncomputable def K22u:FuncId→Option SumK:=more K21u 60 (autoP Tryz.prog K21u Zl 2000 60)
theorem soundK22u:Sound Tryz.prog K22u:=soundK21u.more (autoP_ok soundK21u (own_of soundK21u Tryz.func60 (by kernel_rfl)))
noncomputable def K23u:FuncId→Option SumK:=moreG K22u 62 (orGen (narG 0 61 (autoA Tryz.prog K22u Zl 4000 62)) (autoA Tryz.prog K22u Zl 4000 62))
theorem soundK23u:Sound Tryz.prog K23u:=soundK22u.moreG (orGen_ok (narG_ok (autoA_ok soundK22u (own_of soundK22u Tryz.func62 (by kernel_rfl)))) (autoA_ok soundK22u (own_of soundK22u Tryz.func62 (by kernel_rfl))))
noncomputable def K24u:FuncId→Option SumK:=moreG K23u 64 (autoA Tryz.prog K23u Zl 4000 64)
theorem soundK24u:Sound Tryz.prog K24u:=soundK23u.moreG (autoA_ok soundK23u (own_of soundK23u Tryz.func64 (by kernel_rfl)))
noncomputable def K25u:FuncId→Option SumK:=moreG K24u 66 (autoA Tryz.prog K24u Zl 4000 66)
theorem soundK25u:Sound Tryz.prog K25u:=soundK24u.moreG (autoA_ok soundK24u (own_of soundK24u Tryz.func66 (by kernel_rfl)))
noncomputable def K26u:FuncId→Option SumK:=moreG K25u 46 (orGen (narG 1 61 (autoA Tryz.prog K25u Zl 4000 46)) (autoA Tryz.prog K25u Zl 4000 46))
theorem soundK26u:Sound Tryz.prog K26u:=soundK25u.moreG (orGen_ok (narG_ok (autoA_ok soundK25u (own_of soundK25u Tryz.func46 (by kernel_rfl)))) (autoA_ok soundK25u (own_of soundK25u Tryz.func46 (by kernel_rfl))))
noncomputable def K27u:FuncId→Option SumK:=moreG K26u 51 (autoA Tryz.prog K26u Zl 4000 51)
theorem soundK27u:Sound Tryz.prog K27u:=soundK26u.moreG (autoA_ok soundK26u (own_of soundK26u Tryz.func51 (by kernel_rfl)))
noncomputable def K28u:FuncId→Option SumK:=moreG K27u 47 (orGen (narG 1 61 (autoA Tryz.prog K27u Zl 4000 47)) (autoA Tryz.prog K27u Zl 4000 47))
theorem soundK28u:Sound Tryz.prog K28u:=soundK27u.moreG (orGen_ok (narG_ok (autoA_ok soundK27u (own_of soundK27u Tryz.func47 (by kernel_rfl)))) (autoA_ok soundK27u (own_of soundK27u Tryz.func47 (by kernel_rfl))))
noncomputable def K29u:FuncId→Option SumK:=moreG K28u 157 (orGen (narG 1 61 (autoA Tryz.prog K28u Zl 4000 157)) (autoA Tryz.prog K28u Zl 4000 157))
theorem soundK29u:Sound Tryz.prog K29u:=soundK28u.moreG (orGen_ok (narG_ok (autoA_ok soundK28u (own_of soundK28u Tryz.func157 (by kernel_rfl)))) (autoA_ok soundK28u (own_of soundK28u Tryz.func157 (by kernel_rfl))))
noncomputable def K30u:FuncId→Option SumK:=moreG K29u 102 (autoA Tryz.prog K29u Zl 4000 102)
theorem soundK30u:Sound Tryz.prog K30u:=soundK29u.moreG (autoA_ok soundK29u (own_of soundK29u Tryz.func102 (by kernel_rfl)))
noncomputable def K31u:FuncId→Option SumK:=moreG K30u 132 (autoA Tryz.prog K30u Zl 4000 132)
theorem soundK31u:Sound Tryz.prog K31u:=soundK30u.moreG (autoA_ok soundK30u (own_of soundK30u Tryz.func132 (by kernel_rfl)))
noncomputable def K32u:FuncId→Option SumK:=moreG K31u 104 (autoA Tryz.prog K31u Zl 4000 104)
theorem soundK32u:Sound Tryz.prog K32u:=soundK31u.moreG (autoA_ok soundK31u (own_of soundK31u Tryz.func104 (by kernel_rfl)))
noncomputable def K33u:FuncId→Option SumK:=moreG K32u 179 (autoA Tryz.prog K32u Zl 4000 179)
theorem soundK33u:Sound Tryz.prog K33u:=soundK32u.moreG (autoA_ok soundK32u (own_of soundK32u Tryz.func179 (by kernel_rfl)))
noncomputable def K34u:FuncId→Option SumK:=moreG K33u 108 (orGen (narG 1 61 (autoA Tryz.prog K33u Zl 4000 108)) (autoA Tryz.prog K33u Zl 4000 108))
theorem soundK34u:Sound Tryz.prog K34u:=soundK33u.moreG (orGen_ok (narG_ok (autoA_ok soundK33u (own_of soundK33u Tryz.func108 (by kernel_rfl)))) (autoA_ok soundK33u (own_of soundK33u Tryz.func108 (by kernel_rfl))))
noncomputable def K35u:FuncId→Option SumK:=moreG K34u 34 (autoA Tryz.prog K34u Zl 4000 34)
theorem soundK35u:Sound Tryz.prog K35u:=soundK34u.moreG (autoA_ok soundK34u (own_of soundK34u Tryz.func34 (by kernel_rfl)))
noncomputable def K36u:FuncId→Option SumK:=moreG K35u 35 (autoA Tryz.prog K35u Zl 4000 35)
theorem soundK36u:Sound Tryz.prog K36u:=soundK35u.moreG (autoA_ok soundK35u (own_of soundK35u Tryz.func35 (by kernel_rfl)))
noncomputable def K37u:FuncId→Option SumK:=more K36u 19 (pureSum stillS)
theorem soundK37u:Sound Tryz.prog K37u:=soundK36u.more (sumStill)
end Go.Proofs.YtnlhpaidmiogbaaGreat

/- States with holes and with numbers told by a term; asks that are not closed are left to prove. -/
set_option linter.unusedVariables false
namespace Go.Lr
open Go.RowKit
inductive P2 where
 | old (p:P1)
 | sym (x:Int)
 | raw (a:At)
inductive Ob where
 | oi (x y:Int)
 | oa (x y:At)
 | ol (x y:List At)
 | ob (x y:Blk)
def Ob.ok:Ob→Prop
 | .oi x y=>x=y
 | .oa x y=>x=y
 | .ol x y=>x=y
 | .ob x y=>x=y
def mat2:P2→At→Option (List Ob)
 | .old p,a=>match mat1 p a with
  | true=>some []
  | false=>none
 | .raw x,a=>some [.oa a x]
 | .sym x,.int .i64 n=>some [.oi n x]
 | .sym _,_=>none
def fil2 (x:Int) (y:Bool):P2→At
 | .old p=>fil1 x y p
 | .sym n=> .int .i64 n
 | .raw a=>a
def AllOb (l:List Ob):Prop:=∀q∈l,q.ok
theorem mat2_ok {p:P2} {a:At} {es:List Ob} (h:mat2 p a=some es) (he:AllOb es):a=fil2 (iA a) (bA a) p:=by
 unfold mat2 at h
 split at h
 ·split at h
  ·rename_i h1
   exact mat1_ok h1
  ·cases h
 ·cases h
  exact he _ (List.mem_singleton.2 rfl)
 ·cases h
  rename_i x n
  have h1:n=x:=he (.oi n x) (List.mem_singleton.2 rfl)
  simp only [fil2]
  rw [h1]
 ·cases h
def matL2:List P2→List At→Option (List Ob)
 | [],[]=>some []
 | p::ps,a::l=>match mat2 p a with
  | some es=>match matL2 ps l with
   | some fs=>some (es++fs)
   | none=>none
  | none=>none
 | _,_=>none
def filL2 (f:Nat→Int) (g:Nat→Bool):Nat→List P2→List At
 | _,[]=>[]
 | o,p::ps=>fil2 (f o) (g o) p::filL2 f g (o+1) ps
theorem AllOb.left {l m:List Ob} (h:AllOb (l++m)):AllOb l:=fun q hq=>h q (List.mem_append_left m hq)
theorem AllOb.right {l m:List Ob} (h:AllOb (l++m)):AllOb m:=fun q hq=>h q (List.mem_append_right l hq)
theorem matL2_ok:∀{ps:List P2} {l:List At} {o:Nat} {f:Nat→Int} {g:Nat→Bool} {es:List Ob},matL2 ps l=some es→AllOb es→(∀k a,l[k]? = some a→f (o+k)=iA a∧g (o+k)=bA a)→l=filL2 f g o ps
 | [],[],_,_,_,_,_,_,_=>rfl
 | [],_::_,_,_,_,_,h,_,_=>by simp [matL2] at h
 | _::_,[],_,_,_,_,h,_,_=>by simp [matL2] at h
 | p::ps,a::l,o,f,g,es,h,he,hf=>by
  unfold matL2 at h
  split at h
  ·rename_i es1 h1
   split at h
   ·rename_i es2 h2
    cases h
    have h0:=hf 0 a rfl
    have e:=mat2_ok h1 he.left
    simp only [filL2]
    rw [show f o=iA a from h0.1,show g o=bA a from h0.2,←e,←matL2_ok h2 he.right fun k b hk=>by
     have:=hf (k+1) b (by simpa using hk)
     rwa [show o+(k+1)=o+1+k by omega] at this]
   ·cases h
  ·cases h
theorem matL2_ok0 {ps:List P2} {l:List At} {es:List Ob} (h:matL2 ps l=some es) (he:AllOb es):l=filL2 (fun o=>iA (nthA l o)) (fun o=>bA (nthA l o)) 0 ps:=
 matL2_ok h he fun k a hk=>by simp [nthA,hk]
inductive PV2 where
 | one (p:P2)
 | agg (l:List P2)
structure PB2 where
 ty:TypeId
 fr:Nat×Nat
 es:Nat
 cells:List P2
 raw:Option (List At):=none
structure PS2 where
 live:List (Nat×PV2)
 mem:List (Nat×PB2)
 nb:Nat
def filV2 (f:Nat→Int) (g:Nat→Bool):PV2→LV
 | .one p=> .v (.one (fil2 (f 0) (g 0) p))
 | .agg l=> .v (.agg (filL2 f g 0 l))
def filC2 (f:Nat→Int) (g:Nat→Bool) (ps:List P2):Option (List At)→List At
 | none=>filL2 f g 0 ps
 | some l=>l
def filB2 (f:Nat→Int) (g:Nat→Bool) (b:PB2):Blk:=⟨b.ty,b.fr,b.es,filC2 f g b.cells b.raw⟩
def filVs2 (s:Asg):List (Nat×PV2)→List (Nat×LV)
 | []=>[]
 | (i,p)::l=>(i,filV2 (s.fs i) (s.gs i) p)::filVs2 s l
def filM2 (s:Asg):List (Nat×PB2)→Mem
 | []=>[]
 | (i,p)::l=>(i,filB2 (s.F i) (s.G i) p)::filM2 s l
def filS2 (s:Asg) (p:PS2):Kst:=⟨filVs2 s p.live,filM2 s p.mem,p.nb⟩
def matV2:PV2→LV→Option (List Ob)
 | .one p,.v (.one a)=>mat2 p a
 | .agg l,.v (.agg m)=>matL2 l m
 | _,_=>none
theorem matV2_ok {p:PV2} {v:LV} {es:List Ob} (h:matV2 p v=some es) (he:AllOb es):v=filV2 (fun o=>iA (nthA (vCells v) o)) (fun o=>bA (nthA (vCells v) o)) p:=by
 unfold matV2 at h
 split at h
 ·rename_i p a
  have e:=mat2_ok h he
  show _=LV.v (.one (fil2 (iA a) (bA a) p))
  rw [←e]
 ·rename_i l m
  have e:=matL2_ok0 h he
  show _=LV.v (.agg (filL2 (fun o=>iA (nthA m o)) (fun o=>bA (nthA m o)) 0 l))
  rw [←e]
 ·cases h
def matB2 (p:PB2) (b:Blk):Option (List Ob):=match p.raw with
 | some l=>some [.ob b ⟨p.ty,p.fr,p.es,l⟩]
 | none=>match Nat.beq b.ty p.ty with
  | true=>match fr2 b.fr p.fr with
   | true=>match Nat.beq b.es p.es with
    | true=>matL2 p.cells b.cells
    | false=>none
   | false=>none
  | false=>none
theorem matB2_ok {p:PB2} {b:Blk} {es:List Ob} (h:matB2 p b=some es) (he:AllOb es):b=filB2 (fun o=>iA (nthA b.cells o)) (fun o=>bA (nthA b.cells o)) p:=by
 obtain ⟨ty',⟨x',y'⟩,es',ps,rw⟩:=p
 cases rw with
 | some l=>
  simp only [matB2,Option.some.injEq] at h
  subst h
  exact he _ (List.mem_singleton.2 rfl)
 | none=>
  simp only [matB2] at h
  split at h
  ·rename_i h1
   split at h
   ·rename_i h2
    split at h
    ·rename_i h3
     have e:=matL2_ok0 h he
     obtain ⟨ty,⟨x,y⟩,es,cells⟩:=b
     simp only [fr2] at h2
     obtain ⟨rfl,rfl,_⟩:=nat3_ok h2
     have e1:ty=ty':=Nat.eq_of_beq_eq_true h1
     have e2:es=es':=Nat.eq_of_beq_eq_true h3
     subst e1
     subst e2
     show _=Blk.mk ty (x,y) es (filL2 (fun o=>iA (nthA cells o)) (fun o=>bA (nthA cells o)) 0 ps)
     rw [←e]
    ·cases h
   ·cases h
  ·cases h
def matVs2:List (Nat×PV2)→List LV→Option (List Ob)
 | [],[]=>some []
 | (_,p)::l,v::m=>match matV2 p v with
  | some es=>match matVs2 l m with
   | some fs=>some (es++fs)
   | none=>none
  | none=>none
 | _,_=>none
def matBs2:List (Nat×PB2)→List (Option Blk)→Option (List Ob)
 | [],[]=>some []
 | (_,p)::l,some b::m=>match matB2 p b with
  | some es=>match matBs2 l m with
   | some fs=>some (es++fs)
   | none=>none
  | none=>none
 | _,_=>none
theorem matVs2_ok {s:Asg}:∀{l:List (Nat×PV2)} {m:List LV} {h:Nat→LV} {es:List Ob},matVs2 l m=some es→AllOb es→(l.map (·.1)).map h=m→(∀k,s.fs k=(fun o=>iA (nthA (vCells (h k)) o))∧s.gs k=(fun o=>bA (nthA (vCells (h k)) o)))→(l.map (·.1)).zip m=filVs2 s l
 | [],_,_,_,_,_,_,_=>rfl
 | (i,p)::l,[],_,_,h,_,_,_=>by simp [matVs2] at h
 | (i,p)::l,v::m,hh,es,h,hq,he,hs=>by
  unfold matVs2 at h
  split at h
  ·rename_i es1 h1
   split at h
   ·rename_i es2 h2
    cases h
    simp only [List.map_cons,List.cons.injEq] at he
    have e:=matV2_ok h1 hq.left
    simp only [List.map_cons,List.zip_cons_cons,filVs2]
    rw [matVs2_ok h2 hq.right he.2 hs,(hs i).1,(hs i).2,he.1,←e]
   ·cases h
  ·cases h
theorem matBs2_ok {s:Asg}:∀{l:List (Nat×PB2)} {m:List (Option Blk)} {h:Nat→Option Blk} {es:List Ob},matBs2 l m=some es→AllOb es→(l.map (·.1)).map h=m→
  (∀k b,h k=some b→s.F k=(fun o=>iA (nthA b.cells o))∧s.G k=(fun o=>bA (nthA b.cells o)))→∃bs,m=bs.map some∧(l.map (·.1)).zip bs=filM2 s l
 | [],[],_,_,_,_,_,_=>⟨[],rfl,rfl⟩
 | [],_::_,_,_,h,_,_,_=>by simp [matBs2] at h
 | (i,p)::l,[],_,_,h,_,_,_=>by simp [matBs2] at h
 | (i,p)::l,none::m,_,_,h,_,_,_=>by simp [matBs2] at h
 | (i,p)::l,some b::m,hh,es,h,hq,he,hs=>by
  unfold matBs2 at h
  split at h
  ·rename_i es1 h1
   split at h
   ·rename_i es2 h2
    cases h
    simp only [List.map_cons,List.cons.injEq] at he
    have e:=matB2_ok h1 hq.left
    obtain ⟨bs,g1,g2⟩:=matBs2_ok h2 hq.right he.2 hs
    have h2:=hs i b he.1
    refine ⟨b::bs,by simp [g1], ?_⟩
    simp only [List.map_cons,List.zip_cons_cons,filM2]
    rw [g2,h2.1,h2.2,←e]
   ·cases h
  ·cases h
def openC:List Bool→List (Bool×Bool)→Option (List (Bool×Bool))
 | [],[]=>some []
 | true::m,c::l=>match openC m l with
  | some r=>some (c::r)
  | none=>none
 | false::m,(true,true)::l=>openC m l
 | false::m,(false,false)::l=>openC m l
 | _,_=>none
theorem openC_ok:∀{m:List Bool} {l r:List (Bool×Bool)},openC m l=some r→(∀c∈r,c.1=c.2)→∀c∈l,c.1=c.2
 | [],[],_,_,_,c,hc=>by cases hc
 | [],_::_,_,h,_,_,_=>by simp [openC] at h
 | true::m,[],_,h,_,_,_=>by simp [openC] at h
 | true::m,c::l,r,h,hr,d,hd=>by
  simp only [openC] at h
  split at h
  ·rename_i r' h1
   cases h
   rcases List.mem_cons.1 hd with rfl | hd
   ·exact hr _ (List.mem_cons_self ..)
   ·exact openC_ok h1 (fun c hc=>hr c (List.mem_cons_of_mem _ hc)) d hd
  ·cases h
 | false::m,[],_,h,_,_,_=>by simp [openC] at h
 | false::m,(true,true)::l,r,h,hr,d,hd=>by
  simp only [openC] at h
  rcases List.mem_cons.1 hd with rfl | hd
  ·rfl
  ·exact openC_ok h hr d hd
 | false::m,(false,false)::l,r,h,hr,d,hd=>by
  simp only [openC] at h
  rcases List.mem_cons.1 hd with rfl | hd
  ·rfl
  ·exact openC_ok h hr d hd
 | false::m,(true,false)::l,r,h,_,_,_=>by simp [openC] at h
 | false::m,(false,true)::l,r,h,_,_,_=>by simp [openC] at h
def stageO (p:PS2) (e:Ex) (mask:List Bool) (r:Option (Ex×List LV×List (Option Blk)×List (Bool×Bool))):Option (List (Bool×Bool)×List Ob):=
 match r with
 | some (e0,vs,bs,cs)=>match exB e0 e with
  | true=>match matVs2 p.live vs with
   | some es=>match matBs2 p.mem bs with
    | some fs=>match openC mask cs with
     | some os=>some (os,es++fs)
     | none=>none
    | none=>none
   | none=>none
  | false=>none
 | none=>none
def Fil2 (p:PS2) (B:Kst):Prop:=∃s,B=filS2 s p
section
variable {P:Program} {S:FuncId→Option SumK} {z:Md} {sz:Nat}
theorem ToP.run2 (hs:Sound P S) {c:Code} {A:Kst} {e:Ex} {p:PS2} {n:Nat} {dec:List (Option Bool)} {mask:List Bool} {os:List (Bool×Bool)} {es:List Ob}
  (hrun:∀dead,stageO p e mask (projS (p.live.map (·.1)) (p.mem.map (·.1)) (Go.Lr.exec P S z n (.code c) (A.st sz dead dec)))=some (os,es))
  (hos:∀c∈os,c.1=c.2) (hes:AllOb es) (hB:∀s,KstOK (filS2 s p)) (hnb:Nat.ble A.nb p.nb=true):ToP P sz c A e (Fil2 p):=by
 intro E a w hk Q hQ
 have hr:=hk.toR dec
 have h:=hrun fun t=>a.tmps.getD t undef
 cases hp:projS (p.live.map (·.1)) (p.mem.map (·.1)) (Go.Lr.exec P S z n (.code c) (A.st sz (fun t=>a.tmps.getD t undef) dec)) with
 | none=>rw [hp] at h;cases h
 | some q=>
  obtain ⟨e0,vs,bs,cs⟩:=q
  rw [hp] at h
  simp only [stageO] at h
  split at h
  ·rename_i he
   split at h
   ·rename_i es1 hv
    split at h
    ·rename_i es2 hb
     split at h
     ·rename_i os' ho
      simp only [Option.some.injEq,Prod.mk.injEq] at h
      obtain ⟨rfl,rfl⟩:=h
      have hcs:=openC_ok ho hos
      have:=exB_ok he
      subst this
      unfold projS at hp
      split at hp
      ·rename_i e' s' hex
       simp only [Option.some.injEq,Prod.mk.injEq] at hp
       obtain ⟨rfl,gv,gb,rfl⟩:=hp
       obtain ⟨e2,q1,q2,q3,q4,q5,q6⟩:=(exec_sound (binOK P) hs.sums hs.mix hs.ng n).1 c _ _ s' hex hk.le hr.st
       cases q1
       let s:Asg:=⟨fun k o=>iA (nthA ((getM s'.mem k).elim [] (·.cells)) o),fun k o=>bA (nthA ((getM s'.mem k).elim [] (·.cells)) o),fun k o=>iA (nthA (vCells (getT s'.tm k)) o),fun k o=>bA (nthA (vCells (getT s'.tm k)) o)⟩
       have e1:(p.live.map (·.1)).zip vs=filVs2 s p.live:=matVs2_ok (h:=getT s'.tm) hv hes.left gv fun k=>⟨rfl,rfl⟩
       obtain ⟨bs',rfl,e3⟩:=matBs2_ok (s:=s) (h:=getM s'.mem) hb hes.right gb fun k b hb=>⟨by show (fun o=>iA (nthA ((getM s'.mem k).elim [] (·.cells)) o))=_;rw [hb];rfl,by show (fun o=>bA (nthA ((getM s'.mem k).elim [] (·.cells)) o))=_;rw [hb];rfl⟩
       have hB':KstOK ⟨(p.live.map (·.1)).zip vs,(p.mem.map (·.1)).zip bs',p.nb⟩:=by rw [e1,e3];exact hB s
       have hnb':=Nat.le_of_ble_eq_true hnb
       refine q6 hcs E a w hr Q fun E' a' w' hr' hx=> ?_
       have hsub:=zip_getM (p.mem.map (·.1)) bs' (getM s'.mem) gb
       refine hQ (filS2 s p) ⟨s,rfl⟩ E' a' w' ?_ ?_
       ·have:filS2 s p=⟨(p.live.map (·.1)).zip vs,(p.mem.map (·.1)).zip bs',p.nb⟩:=by rw [e1,e3];rfl
        rw [this]
        refine ⟨hB',hr'.size.trans q4,hk.le,hr'.defers,fun q hq=> ?_,⟨fun i b hib=>hr'.m.rel.blk i b (hsub i b hib),fun i j hi hj he=>hr'.m.rel.inj i j ?_ ?_ he⟩⟩
        ·rw [hr'.tm q.1,zip_getT (p.live.map (·.1)) vs (getT s'.tm) gv q hq]
        ·obtain ⟨b,hib⟩:=Option.isSome_iff_exists.1 hi;simp [hsub i b hib]
        ·obtain ⟨b,hjb⟩:=Option.isSome_iff_exists.1 hj;simp [hsub j b hjb]
       ·have:(filS2 s p).ms=(Kst.mk ((p.live.map (·.1)).zip vs) ((p.mem.map (·.1)).zip bs') p.nb).ms:=by rw [e1,e3];rfl
        rw [this]
        refine ⟨hnb',hx.agree,hx.os,hx.tape,hx.output,hx.size,hx.frame,fun i hi=>hx.src i ?_⟩
        obtain ⟨b,hib⟩:=Option.isSome_iff_exists.1 hi
        simp [hsub i b hib]
      ·cases hp
     ·cases h
    ·cases h
   ·cases h
  ·cases h
end
abbrev qI (n:Int):P2:= .old (.lit (.int .i64 n))
abbrev qL (a:At):P2:= .old (.lit a)
abbrev qB (x:Bool):P2:= .old (.lit (.bool x))
abbrev qH:P2:= .old .hi
abbrev qO:P2:= .old .hb
abbrev qS (x:Int):P2:= .sym x
abbrev qR (a:At):P2:= .raw a
def rq:Nat→P2→List P2
 | 0,_=>[]
 | n+1,p=>p::rq n p
end Go.Lr

/- Summaries of the filter's parts, by formula, where nothing much happens: a good sample, an empty buffer, a sensor that was not heard of. -/
namespace Go.Proofs.YtnlhpaidmiogbaaGreat
open Go.Lr
set_option linter.unusedVariables false
def goodB (T D a0 a1 a2 d0 d1 d2:Int):Bool:= !decide (fabsV a0>34359738368) && !decide (fabsV a1>34359738368) && !decide (fabsV a2>34359738368) && !decide (fabsV d0>34359738368) && !decide (fabsV d1>34359738368) && !decide (fabsV d2>34359738368)&&decide (D≥1)&&decide (D≤100000)&&decide (T≥0)&&decide (T≤1125899906842624)
def goodS:List LV→Option (LV×List (Bool×Bool))
 | [.v (.agg [.int .i64 T,.int .i64 D,.int .i64 a0,.int .i64 a1,.int .i64 a2,.int .i64 d0,.int .i64 d1,.int .i64 d2])]=>some (.v (.one (.bool true)),[(goodB T D a0 a1 a2 d0 d1 d2,true)])
 | _=>none
theorem goodR (T D a0 a1 a2 d0 d1 d2:Int):(runF Tryz.prog K16u Zl 4000 95 [.v (.agg [.int .i64 T,.int .i64 D,.int .i64 a0,.int .i64 a1,.int .i64 a2,.int .i64 d0,.int .i64 d1,.int .i64 d2])] [] 0 (nn 1 (ff 8 (nn 1 (ff 8 (nn 1 (ff 8 (nn 1 (tt 12 []))))))))).map (fun r=>(r.1,r.2.2.2))=some (.v (.one (.bool (decide (T≤1125899906842624)))),(ra 4 (decide (T≥0),true) (ra 4 (decide (D≤100000),true) (ra 4 (decide (D≥1),true) ((decide (fabsV d2>34359738368),false)::ra 7 (decide (fabsV a2>34359738368),false) ((decide (fabsV d1>34359738368),false)::ra 7 (decide (fabsV a1>34359738368),false) ((decide (fabsV d0>34359738368),false)::ra 7 (decide (fabsV a0>34359738368),false) []))))))):=by kernel_rfl
theorem sumGood:SumOK Tryz.prog 95 (pureSum goodS):=by
 refine pureSum_run (z:=Zl) soundK16u (own_of soundK16u Tryz.func95 (by kernel_rfl)) fun args v cs hF hc=> ?_
 unfold goodS at hF
 split at hF
 ·rename_i T D a0 a1 a2 d0 d1 d2
  cases hF
  have h:=hd_of hc
  simp only [goodB,Bool.and_eq_true,Bool.not_eq_true'] at h
  obtain ⟨⟨⟨⟨⟨⟨⟨⟨⟨ha0,ha1⟩,ha2⟩,hd0⟩,hd1⟩,hd2⟩,hD1⟩,hD2⟩,hT1⟩,hT2⟩:=h
  have r:=goodR T D a0 a1 a2 d0 d1 d2
  rw [hT2] at r
  exact ⟨4000,_,_,r,(ra_ok hT1 (ra_ok hD2 (ra_ok hD1 (ae_cons hd2 (ra_ok ha2 (ae_cons hd1 (ra_ok ha1 (ae_cons hd0 (ra_ok ha0 ae_nil _)) _)) _)) _) _) _)⟩
 ·cases hF
noncomputable def G1:FuncId→Option SumK:=more K37u 95 (pureSum goodS)
theorem soundG1:Sound Tryz.prog G1:=soundK37u.more sumGood
def popF (k:Blk) (rest:List LV):Option (LV×Blk×List (Bool×Bool)):=
 match k,rest with
 | ⟨t,(0,0),0,[.int .i64 a,.int .i64 b,.int .i64 c,.int .i64 d,.int .i64 e,.int .i64 f,.nilsl,.int .i64 h]⟩,[.v (.one (.int .i64 u))]=>match Nat.beq t 171 with
  | true=>some (.v (.one .nilsl),⟨171,(0,0),0,[.int .i64 a,.int .i64 b,.int .i64 c,.int .i64 d,.int .i64 (wr .i64 (e+0)),.int .i64 f,.nilsl,.int .i64 (if u>h then u else h)]⟩,[])
  | false=>none
 | _,_=>none
theorem popR (a b c d e f h u:Int):(runF Tryz.prog K29u Zl 4000 102 [A0,I u] [(0,⟨171,(0,0),0,[.int .i64 a,.int .i64 b,.int .i64 c,.int .i64 d,.int .i64 e,.int .i64 f,.nilsl,.int .i64 h]⟩)] 1 []).map (fun r=>(r.1,getM r.2.1 0,r.2.2.2))=some (.v (.one .nilsl),some ⟨171,(0,0),0,[.int .i64 a,.int .i64 b,.int .i64 c,.int .i64 d,.int .i64 (wr .i64 (e+0)),.int .i64 f,.nilsl,.int .i64 (if u>h then u else h)]⟩,[]):=by kernel_rfl
theorem map3 {r:Option (LV×Mem×Nat×List (Bool×Bool))} {v:LV} {k:Option Blk} {cs:List (Bool×Bool)} (h:r.map (fun r=>(r.1,getM r.2.1 0,r.2.2.2))=some (v,k,cs)):∃m nb,r=some (v,m,nb,cs)∧getM m 0=k:=by
 cases r with
 | none=>cases h
 | some q=>
  obtain ⟨a,b,c,d⟩:=q
  simp only [Option.map_some,Option.some.injEq,Prod.mk.injEq] at h
  obtain ⟨rfl,rfl,rfl⟩:=h
  exact ⟨b,c,rfl,rfl⟩
theorem genPop:GenOK Tryz.prog 102 (genOf (fM popF)):=by
 refine genOf_ok (fM_ok (z:=Zl) soundK29u (own_of soundK29u Tryz.func102 (by kernel_rfl)) fun k rest v k' cs hF hc hp=> ?_)
 unfold popF at hF
 split at hF
 ·split at hF
  ·rename_i ht
   cases hF
   have:=Nat.eq_of_beq_eq_true ht
   subst this
   obtain ⟨m,nb,h1,h2⟩:=map3 (popR _ _ _ _ _ _ _ _)
   exact ⟨rfl,rfl,rfl,rfl,4000,[],m,nb,[],h1,h2,by simp⟩
  ·cases hF
 ·cases hF
noncomputable def G2:FuncId→Option SumK:=moreG G1 102 (orGen (genOf (fM popF)) (autoA Tryz.prog K29u Zl 4000 102))
theorem soundG2:Sound Tryz.prog G2:=soundG1.moreG (orGen_ok genPop (autoA_ok soundK29u (own_of soundK29u Tryz.func102 (by kernel_rfl))))
def mon6 (s0 s1 s2 s3 s4 s5:Bool) (x:Nat→Int):List At:= .int .i64 (x 0):: .int .i64 (x 1):: .bool s0:: .int .i64 (x 3):: .int .i64 (x 4):: .int .i64 (x 5):: .int .i64 (x 6):: .int .i64 (x 7):: .bool s1:: .int .i64 (x 9):: .int .i64 (x 10):: .int .i64 (x 11):: .int .i64 (x 12):: .int .i64 (x 13):: .bool s2:: .int .i64 (x 15):: .int .i64 (x 16):: .int .i64 (x 17):: .int .i64 (x 18):: .int .i64 (x 19):: .bool s3:: .int .i64 (x 21):: .int .i64 (x 22):: .int .i64 (x 23):: .int .i64 (x 24):: .int .i64 (x 25):: .bool s4:: .int .i64 (x 27):: .int .i64 (x 28):: .int .i64 (x 29):: .int .i64 (x 30):: .int .i64 (x 31):: .bool s5:: .int .i64 (x 33):: .int .i64 (x 34):: .int .i64 (x 35):: .int .i64 (x 36)::[]
def monS (l:List At):Option (Bool×Bool×Bool×Bool×Bool×Bool):=match l with
 | .int .i64 _:: .int .i64 _:: .bool s0:: .int .i64 _:: .int .i64 _:: .int .i64 _:: .int .i64 _:: .int .i64 _:: .bool s1:: .int .i64 _:: .int .i64 _:: .int .i64 _:: .int .i64 _:: .int .i64 _:: .bool s2:: .int .i64 _:: .int .i64 _:: .int .i64 _:: .int .i64 _:: .int .i64 _:: .bool s3:: .int .i64 _:: .int .i64 _:: .int .i64 _:: .int .i64 _:: .int .i64 _:: .bool s4:: .int .i64 _:: .int .i64 _:: .int .i64 _:: .int .i64 _:: .int .i64 _:: .bool s5:: .int .i64 _:: .int .i64 _:: .int .i64 _:: .int .i64 _::[]=>some (s0,s1,s2,s3,s4,s5)
 | _=>none
theorem monS_ok {l:List At} {s0 s1 s2 s3 s4 s5:Bool} (h:monS l=some (s0,s1,s2,s3,s4,s5)):l=mon6 s0 s1 s2 s3 s4 s5 (intAt l):=by
 unfold monS at h
 split at h
 ·cases h;rfl
 ·cases h
theorem usR0 (s1 s2 s3 s4 s5:Bool) (x:Nat→Int) (n:Int):(runF Tryz.prog K31u Zl 4000 104 [A0,I 0,I n] [(0,⟨184,(0,0),0,mon6 false s1 s2 s3 s4 s5 x⟩)] 1 []).map (fun r=>(r.1,getM r.2.1 0,r.2.2.2))=some (.v (.one (.bool false)),some ⟨184,(0,0),0,mon6 false s1 s2 s3 s4 s5 x⟩,[]):=by kernel_rfl
theorem usR1 (s0 s2 s3 s4 s5:Bool) (x:Nat→Int) (n:Int):(runF Tryz.prog K31u Zl 4000 104 [A0,I 1,I n] [(0,⟨184,(0,0),0,mon6 s0 false s2 s3 s4 s5 x⟩)] 1 []).map (fun r=>(r.1,getM r.2.1 0,r.2.2.2))=some (.v (.one (.bool false)),some ⟨184,(0,0),0,mon6 s0 false s2 s3 s4 s5 x⟩,[]):=by kernel_rfl
theorem usR2 (s0 s1 s3 s4 s5:Bool) (x:Nat→Int) (n:Int):(runF Tryz.prog K31u Zl 4000 104 [A0,I 2,I n] [(0,⟨184,(0,0),0,mon6 s0 s1 false s3 s4 s5 x⟩)] 1 []).map (fun r=>(r.1,getM r.2.1 0,r.2.2.2))=some (.v (.one (.bool false)),some ⟨184,(0,0),0,mon6 s0 s1 false s3 s4 s5 x⟩,[]):=by kernel_rfl
theorem usR3 (s0 s1 s2 s4 s5:Bool) (x:Nat→Int) (n:Int):(runF Tryz.prog K31u Zl 4000 104 [A0,I 3,I n] [(0,⟨184,(0,0),0,mon6 s0 s1 s2 false s4 s5 x⟩)] 1 []).map (fun r=>(r.1,getM r.2.1 0,r.2.2.2))=some (.v (.one (.bool false)),some ⟨184,(0,0),0,mon6 s0 s1 s2 false s4 s5 x⟩,[]):=by kernel_rfl
theorem usR4 (s0 s1 s2 s3 s5:Bool) (x:Nat→Int) (n:Int):(runF Tryz.prog K31u Zl 4000 104 [A0,I 4,I n] [(0,⟨184,(0,0),0,mon6 s0 s1 s2 s3 false s5 x⟩)] 1 []).map (fun r=>(r.1,getM r.2.1 0,r.2.2.2))=some (.v (.one (.bool false)),some ⟨184,(0,0),0,mon6 s0 s1 s2 s3 false s5 x⟩,[]):=by kernel_rfl
theorem usR5 (s0 s1 s2 s3 s4:Bool) (x:Nat→Int) (n:Int):(runF Tryz.prog K31u Zl 4000 104 [A0,I 5,I n] [(0,⟨184,(0,0),0,mon6 s0 s1 s2 s3 s4 false x⟩)] 1 []).map (fun r=>(r.1,getM r.2.1 0,r.2.2.2))=some (.v (.one (.bool false)),some ⟨184,(0,0),0,mon6 s0 s1 s2 s3 s4 false x⟩,[]):=by kernel_rfl
def usI (i:Int) (b:Bool×Bool×Bool×Bool×Bool×Bool):Bool:=match i,b with
 | .ofNat 0,(false,_,_,_,_,_)=>true
 | .ofNat 1,(_,false,_,_,_,_)=>true
 | .ofNat 2,(_,_,false,_,_,_)=>true
 | .ofNat 3,(_,_,_,false,_,_)=>true
 | .ofNat 4,(_,_,_,_,false,_)=>true
 | .ofNat 5,(_,_,_,_,_,false)=>true
 | _,_=>false
def usF (k:Blk) (rest:List LV):Option (LV×Blk×List (Bool×Bool)):=
 match rest,k with
 | [.v (.one (.int .i64 i)),.v (.one (.int .i64 n))],⟨ty,(0,0),0,l⟩=>match Nat.beq ty 184 with
  | true=>match monS l with
   | some b=>match usI i b with
    | true=>some (.v (.one (.bool false)),⟨ty,(0,0),0,l⟩,[])
    | false=>none
   | none=>none
  | false=>none
 | _,_=>none
theorem genUs:GenOK Tryz.prog 104 (genOf (fM usF)):=by
 refine genOf_ok (fM_ok (z:=Zl) soundK31u (own_of soundK31u Tryz.func104 (by kernel_rfl)) fun k rest v k' cs hF hc hp=> ?_)
 unfold usF at hF
 split at hF
 ·rename_i i n ty l
  split at hF
  ·rename_i ht
   have ht:=Nat.eq_of_beq_eq_true ht
   subst ht
   split at hF
   ·rename_i b hb
    split at hF
    ·rename_i hi
     cases hF
     unfold usI at hi
     split at hi
     ·have e:=monS_ok hb
      obtain ⟨m,nb,h2,h3⟩:=map3 (usR0 _ _ _ _ _ (intAt l) n)
      rw [e]
      exact ⟨rfl,rfl,rfl,rfl,4000,[],m,nb,[],h2,h3,by simp⟩
     ·have e:=monS_ok hb
      obtain ⟨m,nb,h2,h3⟩:=map3 (usR1 _ _ _ _ _ (intAt l) n)
      rw [e]
      exact ⟨rfl,rfl,rfl,rfl,4000,[],m,nb,[],h2,h3,by simp⟩
     ·have e:=monS_ok hb
      obtain ⟨m,nb,h2,h3⟩:=map3 (usR2 _ _ _ _ _ (intAt l) n)
      rw [e]
      exact ⟨rfl,rfl,rfl,rfl,4000,[],m,nb,[],h2,h3,by simp⟩
     ·have e:=monS_ok hb
      obtain ⟨m,nb,h2,h3⟩:=map3 (usR3 _ _ _ _ _ (intAt l) n)
      rw [e]
      exact ⟨rfl,rfl,rfl,rfl,4000,[],m,nb,[],h2,h3,by simp⟩
     ·have e:=monS_ok hb
      obtain ⟨m,nb,h2,h3⟩:=map3 (usR4 _ _ _ _ _ (intAt l) n)
      rw [e]
      exact ⟨rfl,rfl,rfl,rfl,4000,[],m,nb,[],h2,h3,by simp⟩
     ·have e:=monS_ok hb
      obtain ⟨m,nb,h2,h3⟩:=map3 (usR5 _ _ _ _ _ (intAt l) n)
      rw [e]
      exact ⟨rfl,rfl,rfl,rfl,4000,[],m,nb,[],h2,h3,by simp⟩
     ·cases hi
    ·cases hF
   ·cases hF
  ·cases hF
 ·cases hF
noncomputable def G3:FuncId→Option SumK:=moreG G2 104 (orGen (genOf (fM usF)) (autoA Tryz.prog K31u Zl 4000 104))
theorem soundG3:Sound Tryz.prog G3:=soundG2.moreG (orGen_ok genUs (autoA_ok soundK31u (own_of soundK31u Tryz.func104 (by kernel_rfl))))
noncomputable def KPg:FuncId→Option SumK:=more K25u 95 (pureSum goodS)
theorem soundKPg:Sound Tryz.prog KPg:=soundK25u.more sumGood
end Go.Proofs.YtnlhpaidmiogbaaGreat

/- strap.Step by formula (its flag is chosen); what calls it, over that; jac.Step: opaque. -/
set_option linter.unusedVariables false
namespace Go.Lr
open Go.RowKit
def okY (ty:TypeId) (r:Option (LV×Option Blk×List (Bool×Bool))):Option LV:=
 match r with
 | some (v,some b,cs)=>match matB ⟨ty,(0,0),0,[.hb]⟩ b with
  | true=>match allEqB cs with
   | true=>some v
   | false=>none
  | false=>none
 | _=>none
theorem okY_ok {ty:TypeId} {r:Option (LV×Option Blk×List (Bool×Bool))} {v:LV} (h:okY ty r=some v):∃h' cs,r=some (v,some (flag ty h'),cs)∧∀c∈cs,c.1=c.2:=by
 unfold okY at h
 split at h
 ·rename_i v b cs
  split at h
  ·rename_i h2
   split at h
   ·rename_i h1
    cases h
    refine ⟨bA (nthA b.cells 0),cs, ?_,allEqB_ok h1⟩
    have e:b=flag ty (bA (nthA b.cells 0)):=matB_ok h2
    rw [←e]
   ·cases h
  ·cases h
 ·cases h
section
variable {P:Program} {S:FuncId→Option SumK} {z:Md}
noncomputable def fxH (P:Program) (f:FuncId) (ty:TypeId) (args:List LV) (hb:Bool) (v:LV):Bool:=@Classical.epsilon Bool ⟨false⟩ fun h'=>ExA P f ty args hb v h'
noncomputable def fxF (P:Program) (f:FuncId) (ty:TypeId) (F:List LV→Option LV):List LV→Bool→Option (LV×Bool×List (Bool×Bool)):=fun args hb=>
 match F args with
 | some v=>some (v,fxH P f ty args hb v,[])
 | none=>none
theorem fxF_run (hs:Sound P S) {f:FuncId} {ty:TypeId} {F:List LV→Option LV} (ho:Own P f)
  (h:∀args v hb,F args=some v→v.ok noP=true∧∃(k:Nat) (dec:List (Option Bool)),okY ty ((runF P S z k f (A0::args) [(0,flag ty hb)] 1 dec).map (fun r=>(r.1,getM r.2.1 0,r.2.2.2)))=some v):SumOK P f (accSum ty (fxF P f ty F)):=by
 refine accSum_ok fun args hb v h' cs hF hc hp w L hL=> ?_
 unfold fxF at hF
 split at hF
 ·rename_i v0 hv0
  cases hF
  obtain ⟨hn,k,dec,hr⟩:=h args v hb hv0
  obtain ⟨h2,cs2,hrun,hc2⟩:=okY_ok hr
  have hq:=@Classical.epsilon_spec_aux Bool ⟨false⟩ (fun h'=>ExA P f ty args hb v h') ⟨h2,fun w L hL=>acc_run hs hrun hc2 hp hn w L hL⟩
  exact callOK_of ho (hq w L hL)
 ·cases hF
end
end Go.Lr
namespace Go.Proofs.YtnlhpaidmiogbaaGreat
open Go.Lr
def fI2 (x y:Int):Int:=faddV (intL [At.int IntKind.i64 x,At.int IntKind.i64 y])
def fI3 (x y z:Int):Int:=faddV (intL [At.int IntKind.i64 x,At.int IntKind.i64 y,At.int IntKind.i64 z])
def stM (k0 k1 k2 k3 k4 k5 k6 k7 k8 k9 k10 k11 k12 k13 k14 k15 k16 k17 k18 k19 k20 k21 k22 k23 dt m0 m1 m2 m3 n0 n1 n2:Int):LV:=keepL (uV0 m0 m1 m2 m3) (uV1 m0 m1 m2 m3) (uV2 m0 m1 m2 m3) (uV3 m0 m1 m2 m3) n0 n1 n2 (fI2 k7 (mulV (fI2 k4 n0) (mulV dt 536870912 30) 30)) (fI2 k8 (mulV (fI2 k5 n1) (mulV dt 536870912 30) 30)) (fI2 k9 (mulV (fI2 k6 n2) (mulV dt 536870912 30) 30)) k10 k11 k12 k13 k14 k15 k16 k17 k18 k19 k20 k21 k22 k23
def stN (q0 q1 q2 q3 k4 k5 k6 d0 d1 d2 g:Int) (F:Int→Int→Int→LV):LV:=F (fI3 k4 (dotV 30 [rm0 q0 q1 q2 q3,rm1 q0 q1 q2 q3,rm2 q0 q1 q2 q3] [d0,d1,d2]) 0) (fI3 k5 (dotV 30 [rm3 q0 q1 q2 q3,rm4 q0 q1 q2 q3,rm5 q0 q1 q2 q3] [d0,d1,d2]) 0) (fI3 k6 (dotV 30 [rm6 q0 q1 q2 q3,rm7 q0 q1 q2 q3,rm8 q0 q1 q2 q3] [d0,d1,d2]) g)
def stA (k0 k1 k2 k3 k4 k5 k6 k7 k8 k9 k10 k11 k12 k13 k14 k15 k16 k17 k18 k19 k20 k21 k22 k23 dt a0 a1 a2 d0 d1 d2:Int):LV:=stN (satV k0) (satV k1) (satV k2) (satV k3) k4 k5 k6 d0 d1 d2 (mulV 10529810258 dt 30) (stM k0 k1 k2 k3 k4 k5 k6 k7 k8 k9 k10 k11 k12 k13 k14 k15 k16 k17 k18 k19 k20 k21 k22 k23 dt (mq0 k0 k1 k2 k3 (eV0 a0 a1 a2) (eV1 a0 a1 a2) (eV2 a0 a1 a2) (eV3 a0 a1 a2)) (mq1 k0 k1 k2 k3 (eV0 a0 a1 a2) (eV1 a0 a1 a2) (eV2 a0 a1 a2) (eV3 a0 a1 a2)) (mq2 k0 k1 k2 k3 (eV0 a0 a1 a2) (eV1 a0 a1 a2) (eV2 a0 a1 a2) (eV3 a0 a1 a2)) (mq3 k0 k1 k2 k3 (eV0 a0 a1 a2) (eV1 a0 a1 a2) (eV2 a0 a1 a2) (eV3 a0 a1 a2)))
def stD (k0 k1 k2 k3 k4 k5 k6 k7 k8 k9 k10 k11 k12 k13 k14 k15 k16 k17 k18 k19 k20 k21 k22 k23 dt i2 i3 i4 i5 i6 i7:Int):LV:=stA k0 k1 k2 k3 k4 k5 k6 k7 k8 k9 k10 k11 k12 k13 k14 k15 k16 k17 k18 k19 k20 k21 k22 k23 dt (subV i2 (mulV k10 dt 30)) (subV i3 (mulV k11 dt 30)) (subV i4 (mulV k12 dt 30)) (subV i5 (mulV k13 dt 30)) (subV i6 (mulV k14 dt 30)) (subV i7 (mulV k15 dt 30))
def stepV (s0 s1 s2 s3 s4 s5 s6 s7 s8 s9 s10 s11 s12 s13 s14 s15 s16 s17 s18 s19 s20 s21 s22 s23 i0 i1 i2 i3 i4 i5 i6 i7:Int):LV:=match keepL s0 s1 s2 s3 s4 s5 s6 s7 s8 s9 s10 s11 s12 s13 s14 s15 s16 s17 s18 s19 s20 s21 s22 s23 with
 | .v (.agg [.int .i64 k0,.int .i64 k1,.int .i64 k2,.int .i64 k3,.int .i64 k4,.int .i64 k5,.int .i64 k6,.int .i64 k7,.int .i64 k8,.int .i64 k9,.int .i64 k10,.int .i64 k11,.int .i64 k12,.int .i64 k13,.int .i64 k14,.int .i64 k15,.int .i64 k16,.int .i64 k17,.int .i64 k18,.int .i64 k19,.int .i64 k20,.int .i64 k21,.int .i64 k22,.int .i64 k23])=>stD k0 k1 k2 k3 k4 k5 k6 k7 k8 k9 k10 k11 k12 k13 k14 k15 k16 k17 k18 k19 k20 k21 k22 k23 (mulDivV i1 1073741824 1000000) i2 i3 i4 i5 i6 i7
 | v=>v
def stepG:List LV→Option LV
 | [.v (.agg [.int .i64 s0,.int .i64 s1,.int .i64 s2,.int .i64 s3,.int .i64 s4,.int .i64 s5,.int .i64 s6,.int .i64 s7,.int .i64 s8,.int .i64 s9,.int .i64 s10,.int .i64 s11,.int .i64 s12,.int .i64 s13,.int .i64 s14,.int .i64 s15,.int .i64 s16,.int .i64 s17,.int .i64 s18,.int .i64 s19,.int .i64 s20,.int .i64 s21,.int .i64 s22,.int .i64 s23]),.v (.agg [.int .i64 i0,.int .i64 i1,.int .i64 i2,.int .i64 i3,.int .i64 i4,.int .i64 i5,.int .i64 i6,.int .i64 i7])]=>some (stepV s0 s1 s2 s3 s4 s5 s6 s7 s8 s9 s10 s11 s12 s13 s14 s15 s16 s17 s18 s19 s20 s21 s22 s23 i0 i1 i2 i3 i4 i5 i6 i7)
 | _=>none
theorem stepR (s0 s1 s2 s3 s4 s5 s6 s7 s8 s9 s10 s11 s12 s13 s14 s15 s16 s17 s18 s19 s20 s21 s22 s23 i0 i1 i2 i3 i4 i5 i6 i7:Int) (hb:Bool):okY 61 ((runF Tryz.prog K12u Zl 4000 98 [A0,.v (.agg [.int .i64 s0,.int .i64 s1,.int .i64 s2,.int .i64 s3,.int .i64 s4,.int .i64 s5,.int .i64 s6,.int .i64 s7,.int .i64 s8,.int .i64 s9,.int .i64 s10,.int .i64 s11,.int .i64 s12,.int .i64 s13,.int .i64 s14,.int .i64 s15,.int .i64 s16,.int .i64 s17,.int .i64 s18,.int .i64 s19,.int .i64 s20,.int .i64 s21,.int .i64 s22,.int .i64 s23]),.v (.agg [.int .i64 i0,.int .i64 i1,.int .i64 i2,.int .i64 i3,.int .i64 i4,.int .i64 i5,.int .i64 i6,.int .i64 i7])] [(0,flag 61 hb)] 1 []).map (fun r=>(r.1,getM r.2.1 0,r.2.2.2)))=some (stepV s0 s1 s2 s3 s4 s5 s6 s7 s8 s9 s10 s11 s12 s13 s14 s15 s16 s17 s18 s19 s20 s21 s22 s23 i0 i1 i2 i3 i4 i5 i6 i7):=by kernel_rfl
theorem sumStepF:SumOK Tryz.prog 98 (accSum 61 (fxF Tryz.prog 98 61 stepG)):=by
 refine fxF_run (z:=Zl) soundK12u (own_of soundK12u Tryz.func98 (by kernel_rfl)) fun args v hb hF=> ?_
 unfold stepG at hF
 split at hF
 ·cases hF
  exact ⟨by kernel_rfl,4000,[],stepR _ _ _ _ _ _ _ _ _ _ _ _ _ _ _ _ _ _ _ _ _ _ _ _ _ _ _ _ _ _ _ _ hb⟩
 ·cases hF
end Go.Proofs.YtnlhpaidmiogbaaGreat

/- Blocks by other numbers: a walk in pieces in which a call's own blocks may be told by other numbers. -/
set_option linter.unusedVariables false
namespace Go.Lr
open Go.RowKit
def sw (a b i:Nat):Nat:=match Nat.beq i a with
 | true=>b
 | false=>match Nat.beq i b with
  | true=>a
  | false=>i
theorem sw_eq (a b i:Nat):sw a b i=if i=a then b else if i=b then a else i:=by
 unfold sw
 by_cases h:i=a
 ·subst h
  simp
 ·have h1:Nat.beq i a=false:=by cases h1:Nat.beq i a with
   | true=>exact absurd (Nat.eq_of_beq_eq_true h1) h
   | false=>rfl
  rw [h1,if_neg h]
  by_cases h2:i=b
  ·subst h2
   simp
  ·have h3:Nat.beq i b=false:=by cases h3:Nat.beq i b with
    | true=>exact absurd (Nat.eq_of_beq_eq_true h3) h2
    | false=>rfl
   rw [h3,if_neg h2]
theorem sw_sw (a b i:Nat):sw a b (sw a b i)=i:=by
 simp only [sw_eq]
 by_cases h:i=a
 ·subst h
  rw [if_pos rfl]
  by_cases h2:b=i
  ·rw [if_pos h2,h2]
  ·rw [if_neg h2,if_pos rfl]
 ·rw [if_neg h]
  by_cases h2:i=b
  ·subst h2
   rw [if_pos rfl,if_pos rfl]
  ·rw [if_neg h2,if_neg h,if_neg h2]
def swp:List (Nat×Nat)→Nat→Nat
 | [],i=>i
 | (a,b)::l,i=>swp l (sw a b i)
def swq:List (Nat×Nat)→Nat→Nat
 | [],i=>i
 | (a,b)::l,i=>sw a b (swq l i)
theorem swq_swp:∀(l:List (Nat×Nat)) (i:Nat),swq l (swp l i)=i
 | [],i=>rfl
 | (a,b)::l,i=>by simp only [swp,swq];rw [swq_swp l,sw_sw]
theorem swp_swq:∀(l:List (Nat×Nat)) (i:Nat),swp l (swq l i)=i
 | [],i=>rfl
 | (a,b)::l,i=>by simp only [swp,swq];rw [sw_sw,swp_swq l]
def swOK (N:Nat):List (Nat×Nat)→Bool
 | []=>true
 | (a,b)::l=>match Nat.ble N a with
  | true=>match Nat.ble N b with
   | true=>swOK N l
   | false=>false
  | false=>false
theorem swq_below {N:Nat}:∀{l:List (Nat×Nat)},swOK N l=true→∀i,i<N→swq l i=i
 | [],_,i,_=>rfl
 | (a,b)::l,h,i,hi=>by
  unfold swOK at h
  split at h
  ·rename_i h1
   split at h
   ·rename_i h2
    have h1':=Nat.le_of_ble_eq_true h1
    have h2':=Nat.le_of_ble_eq_true h2
    simp only [swq]
    rw [swq_below h i hi,sw_eq,if_neg (by omega),if_neg (by omega)]
   ·cases h
  ·cases h
def renCaps (ρ:Nat→Nat):List (Nat×Nat)→List (Nat×Nat)
 | []=>[]
 | (b,o)::l=>(ρ b,o)::renCaps ρ l
def renA (ρ:Nat→Nat):At→At
 | .int k n=> .int k n
 | .bool b=> .bool b
 | .ptr b o=> .ptr (ρ b) o
 | .nilp=> .nilp
 | .sl b o l c=> .sl (ρ b) o l c
 | .slu b l=> .slu (ρ b) l
 | .slx b o l c=> .slx (ρ b) o l c
 | .ptx b o=> .ptx (ρ b) o
 | .nilsl=> .nilsl
 | .slt b o n=> .slt (ρ b) o n
 | .fn f caps=> .fn f (renCaps ρ caps)
 | .opq v=> .opq v
def renL (ρ:Nat→Nat):List At→List At
 | []=>[]
 | a::l=>renA ρ a::renL ρ l
def renV1 (ρ:Nat→Nat):V1→V1
 | .one a=> .one (renA ρ a)
 | .agg l=> .agg (renL ρ l)
def renV (ρ:Nat→Nat):LV→LV
 | .v x=> .v (renV1 ρ x)
 | .tup l=> .tup (l.map (renV1 ρ))
def renB (ρ:Nat→Nat) (b:Blk):Blk:=⟨b.ty,b.fr,b.es,renL ρ b.cells⟩
def renLv (ρ:Nat→Nat):List (Nat×LV)→List (Nat×LV)
 | []=>[]
 | (i,v)::l=>(i,renV ρ v)::renLv ρ l
def renM (ρ:Nat→Nat):Mem→Mem
 | []=>[]
 | (i,b)::l=>(ρ i,renB ρ b)::renM ρ l
theorem renA_den {ρ:Nat→Nat} {E E':Env} (h:∀b,E' (ρ b)=E b) (a:At):(renA ρ a).den E'=a.den E:=by
 cases a with
 | fn f caps=>
  simp only [renA,At.den]
  congr 1
  congr 1
  induction caps with
  | nil=>rfl
  | cons c l ih=>simp only [renCaps,List.map_cons,h,ih]
 | _=>simp only [renA,At.den,h]
theorem renL_den {ρ:Nat→Nat} {E E':Env} (h:∀b,E' (ρ b)=E b):∀l:List At,(renL ρ l).map (At.den E')=l.map (At.den E)
 | []=>rfl
 | a::l=>by simp only [renL,List.map_cons,renA_den h,renL_den h l]
theorem renL_len (ρ:Nat→Nat):∀l:List At,(renL ρ l).length=l.length
 | []=>rfl
 | a::l=>by simp [renL,renL_len ρ l]
theorem renV1_den {ρ:Nat→Nat} {E E':Env} (h:∀b,E' (ρ b)=E b) (x:V1):(renV1 ρ x).den E'=x.den E:=by
 cases x with
 | one a=>exact renA_den h a
 | agg l=>simp only [renV1,V1.den,renL_den h]
theorem renV_den {ρ:Nat→Nat} {E E':Env} (h:∀b,E' (ρ b)=E b) (v:LV):(renV ρ v).den E'=v.den E:=by
 cases v with
 | v x=>exact renV1_den h x
 | tup l=>simp only [renV,LV.den,List.map_map];congr 1;congr 1;exact List.map_congr_left fun x _=>renV1_den h x
theorem renLv_mem {ρ:Nat→Nat}:∀{l:List (Nat×LV)} {q:Nat×LV},q∈renLv ρ l→∃v,(q.1,v)∈l∧q.2=renV ρ v
 | [],q,h=>by simp [renLv] at h
 | (i,v)::l,q,h=>by
  simp only [renLv,List.mem_cons] at h
  rcases h with rfl | h
  ·exact ⟨v,List.mem_cons_self ..,rfl⟩
  ·obtain ⟨u,h1,h2⟩:=renLv_mem h
   exact ⟨u,List.mem_cons_of_mem _ h1,h2⟩
theorem renM_get {ρ σ:Nat→Nat} (h1:∀i,σ (ρ i)=i) (h2:∀i,ρ (σ i)=i):∀(m:Mem) (j:Nat),getM (renM ρ m) j=(getM m (σ j)).map (renB ρ)
 | [],j=>rfl
 | (i,b)::m,j=>by
  simp only [renM]
  rw [getM_cons,getM_cons]
  by_cases h:j=ρ i
  ·rw [if_pos h,if_pos (by rw [h,h1])];rfl
  ·rw [if_neg h,if_neg (fun e=>h (by rw [←e,h2])),renM_get h1 h2 m j]
section
variable {P:Program} {sz:Nat}
theorem KR.ren {E:Env} {A:Kst} {a:Act} {w:World} (h:KR E sz A a w) (l:List (Nat×Nat)) {nb:Nat} (hB:KstOK ⟨renLv (swp l) A.live,renM (swp l) A.mem,nb⟩):
  KR (fun j=>E (swq l j)) sz ⟨renLv (swp l) A.live,renM (swp l) A.mem,nb⟩ a w:=by
 have hE:∀b,(fun j=>E (swq l j)) ((swp l) b)=E b:=fun b=>by show E (swq l (swp l b))=E b;rw [swq_swp]
 refine ⟨hB,h.size,h.le,h.defers,fun q hq=> ?_,⟨fun j b' hj=> ?_,fun i j hi hj he=> ?_⟩⟩
 ·obtain ⟨v,h1,h2⟩:=renLv_mem hq
  rw [h2,renV_den (ρ:=swp l) (E:=E) (E':=fun j=>E (swq l j)) hE]
  exact h.tm _ h1
 ·have hj':getM (renM (swp l) A.mem) j=some b':=hj
  rw [renM_get (swq_swp l) (swp_swq l)] at hj'
  cases hg:getM A.mem (swq l j) with
  | none=>rw [hg] at hj';cases hj'
  | some b=>
   rw [hg] at hj'
   cases hj'
   obtain ⟨r,g1,g2,g3⟩:=h.rel.blk _ b hg
   refine ⟨r, ?_,g2,fun hne=> ?_⟩
   ·show w.heap[(E (swq l j)).1]? = _
    rw [g1]
    show some (Obj.cells _ _ _)=some (Obj.cells ((E (swq l j)).pre++(renL (swp l) b.cells).map (At.den fun j=>E (swq l j))++r++(E (swq l j)).suf).toArray ((E (swq l j)).ty.getD b.ty) b.fr)
    rw [renL_den (ρ:=swp l) (E:=E) (E':=fun j=>E (swq l j)) hE]
   ·show (renL (swp l) b.cells).length+r.length=_
    rw [renL_len]
    exact g3 hne
 ·have hi':(getM (renM (swp l) A.mem) i).isSome:=hi
  have hj':(getM (renM (swp l) A.mem) j).isSome:=hj
  rw [renM_get (swq_swp l) (swp_swq l),Option.isSome_map] at hi' hj'
  have:=h.rel.inj _ _ hi' hj' he
  rw [←swp_swq l i,this,swp_swq]
def ToR (P:Program) (sz N:Nat) (c:Code) (A:Kst) (e:Ex) (B:Kst→Prop):Prop:=
 ∀E a w,KR E sz A a w→∀Q:Exit→Act→World→Prop,(∀B0,B B0→∀E' a' w',KR E' sz B0 a' w'→ExtG N w E (getM A.mem) w' E' (getM B0.mem)→Q e.to a' w')→c.wp P Q a w
theorem Ext.toG {N:Nat} {w w':World} {E E':Env} {s s':St} (h:Ext w E s w' E' s') (hN:N≤s.nb):ExtG N w E (getM s.mem) w' E' (getM s'.mem):=
 ⟨fun i hi=>h.agree i (Nat.lt_of_lt_of_le hi hN),h.os,h.tape,h.output,h.size,h.frame,h.src⟩
theorem ToR.of_ToP {N:Nat} {c:Code} {A:Kst} {e:Ex} {B:Kst→Prop} (h:ToP P sz c A e B) (hN:Nat.ble N A.nb=true):ToR P sz N c A e B:=
 fun E a w hr Q hQ=>h E a w hr Q fun B0 hB E' a' w' hr' hx=>hQ B0 hB E' a' w' hr' (hx.toG (Nat.le_of_ble_eq_true hN))
theorem ToR.mono {N:Nat} {c:Code} {A:Kst} {e:Ex} {B C:Kst→Prop} (h:ToR P sz N c A e B) (k:∀x,B x→C x):ToR P sz N c A e C:=
 fun E a w hr Q hQ=>h E a w hr Q fun B0 hB0=>hQ B0 (k B0 hB0)
theorem ToR.ren {N:Nat} {c:Code} {A:Kst} {e:Ex} {B C:Kst→Prop} (h:ToR P sz N c A e B) (l:List (Nat×Nat)) (hl:swOK N l=true)
  (k:∀x,B x→∃nb,KstOK ⟨renLv (swp l) x.live,renM (swp l) x.mem,nb⟩∧C ⟨renLv (swp l) x.live,renM (swp l) x.mem,nb⟩):ToR P sz N c A e C:=by
 intro E a w hr Q hQ
 refine h E a w hr Q fun B0 hB E' a' w' hr' hx=> ?_
 obtain ⟨nb,h1,h2⟩:=k B0 hB
 refine hQ _ h2 (fun j=>E' (swq l j)) a' w' (hr'.ren l h1) ⟨fun i hi=> ?_,hx.os,hx.tape,hx.output,hx.size,hx.frame,fun i hi=> ?_⟩
 ·show E' (swq l i)=E i
  rw [swq_below hl i hi]
  exact hx.agree i hi
 ·have hi':(getM (renM (swp l) B0.mem) i).isSome:=hi
  rw [renM_get (swq_swp l) (swp_swq l),Option.isSome_map] at hi'
  exact hx.src _ hi'
theorem ToR.seq {N:Nat} {c:Code} {A:Kst} {e:Ex} {B C:Kst→Prop} (hc:isSeq c=true) (h:ToR P sz N (c1 c) A .normal B) (k:∀x,B x→ToR P sz N (c2 c) x e C):ToR P sz N c A e C:=by
 cases c <;> simp only [isSeq,Bool.false_eq_true] at hc
 intro E a w hr Q hQ
 refine wp_seq (h E a w hr _ fun B0 hB E' a' w' hr' hx'=> ?_)
 exact k B0 hB E' a' w' hr' Q fun C0 hC E'' a'' w'' hr'' hx''=>hQ C0 hC E'' a'' w'' hr'' (hx'.trans hx'')
theorem ToR.seq_out {N:Nat} {c:Code} {A:Kst} {e:Ex} {B:Kst→Prop} (hc:isSeq c=true) (he:e≠ .normal) (h:ToR P sz N (c1 c) A e B):ToR P sz N c A e B:=by
 cases c <;> simp only [isSeq,Bool.false_eq_true] at hc
 intro E a w hr Q hQ
 refine wp_seq (h E a w hr _ fun B0 hB E' a' w' hr' hx'=> ?_)
 have:=hQ B0 hB E' a' w' hr' hx'
 cases e <;> first | exact absurd rfl he | exact this
theorem ToR.block {N:Nat} {c:Code} {id:Nat} {A:Kst} {e:Ex} {B:Kst→Prop} (hc:blkId c=some id) (h:ToR P sz N (c1 c) A e B) (he:e = .exit id∨e = .normal):ToR P sz N c A .normal B:=by
 cases c <;> simp only [blkId,reduceCtorEq] at hc
 cases hc
 intro E a w hr Q hQ
 refine wp_block (h E a w hr _ fun B0 hB E' a' w' hr' hx'=> ?_)
 have:=hQ B0 hB E' a' w' hr' hx'
 rcases he with rfl | rfl
 ·simpa only [Ex.to,Exit.inBlock,if_true] using this
 ·exact this
theorem ToR.block_out {N:Nat} {c:Code} {id:Nat} {A:Kst} {e:Ex} {B:Kst→Prop} (hc:blkId c=some id) (h:ToR P sz N (c1 c) A e B) (he:e≠ .exit id):ToR P sz N c A e B:=by
 cases c <;> simp only [blkId,reduceCtorEq] at hc
 cases hc
 intro E a w hr Q hQ
 refine wp_block (h E a w hr _ fun B0 hB E' a' w' hr' hx'=> ?_)
 have:=hQ B0 hB E' a' w' hr' hx'
 cases e with
 | exit i=>
  have hne:i≠id:=fun h=>he (by rw [h])
  simpa only [Ex.to,Exit.inBlock,hne,if_false] using this
 | normal=>exact this
 | ret=>exact this
def RdR (P:Program) (sz N:Nat) (c:Code) (m:Nat) (A:Kst) (e:Ex) (B:Kst→Prop):Prop:=
 ∀E a w,KR E sz A a w→∀Q:Exit→Act→World→Prop,(∀B0,B B0→∀E' a' w',KR E' sz B0 a' w'→ExtG N w E (getM A.mem) w' E' (getM B0.mem)→Q e.to a' w')→Code.rounds P c Q m a w
theorem RdR.last {N:Nat} {c:Code} {A:Kst} {e:Ex} {B:Kst→Prop} (he:e≠ .normal) (h:ToR P sz N c A e B):RdR P sz N c 1 A e B:=by
 intro E a w hr Q hQ
 rw [rounds_succ]
 refine h E a w hr _ fun B0 hB E' a' w' hr' hx'=> ?_
 have:=hQ B0 hB E' a' w' hr' hx'
 cases e <;> first | exact absurd rfl he | exact this
theorem RdR.next {N:Nat} {c:Code} {A:Kst} {e:Ex} {B C:Kst→Prop} {m:Nat} (h:ToR P sz N c A .normal B) (k:∀x,B x→RdR P sz N c m x e C):RdR P sz N c (m+1) A e C:=by
 intro E a w hr Q hQ
 rw [rounds_succ]
 refine h E a w hr _ fun B0 hB E' a' w' hr' hx'=> ?_
 exact k B0 hB E' a' w' hr' Q fun C0 hC E'' a'' w'' hr'' hx''=>hQ C0 hC E'' a'' w'' hr'' (hx'.trans hx'')
theorem ToR.loop {N:Nat} {c:Code} {A:Kst} {e:Ex} {B:Kst→Prop} {m:Nat} (hc:isLoop c=true) (h:RdR P sz N (c1 c) m A e B):ToR P sz N c A e B:=by
 cases c <;> simp only [isLoop,Bool.false_eq_true] at hc
 exact fun E a w hr Q hQ=>wp_loop_rounds m (h E a w hr Q hQ)
end
end Go.Lr

/- A summary that is told for blocks by their places in the row of those that can be got at, lifted to whatever numbers the blocks have; its own new blocks are let go. -/
set_option linter.unusedVariables false
set_option linter.unusedSimpArgs false
namespace Go.Lr
open Go.RowKit
def nthN:List Nat→Nat→Nat
 | [],_=>0
 | a::_,0=>a
 | _::l,n+1=>nthN l n
def plcN (b:Nat):List Nat→Nat→Option Nat
 | [],_=>none
 | a::l,k=>match Nat.beq a b with
  | true=>some k
  | false=>plcN b l (k+1)
def plcR (l:List Nat) (b:Nat):Nat:=match plcN b l 0 with
 | some k=>k
 | none=>l.length+b
def rngN:Nat→Nat→List Nat
 | _,0=>[]
 | o,n+1=>o::rngN (o+1) n
def canW (seen:List Nat):List (Nat×Option Blk)→Option (List (Nat×Option Blk))
 | []=>some []
 | (i,some b)::l=>match Nat.blt i seen.length,okL noP b.cells,canW seen l with
  | true,true,some r=>some ((nthN seen i,some b)::r)
  | _,_,_=>none
 | (_,none)::_=>none
def ltB (k:Nat):Nat→Bool:=fun i=>Nat.blt i k
def canG (s:List LV→List Nat→List Blk→Nat→Option Dl):List LV→List Nat→List Blk→Nat→Option Dl:=fun args seen ks nb=>
 match nodupB seen,okArgs (ltB seen.length) (args.map (renV (plcR seen))),okBs (ltB seen.length) (ks.map (renB (plcR seen))) with
 | true,true,true=>match s (args.map (renV (plcR seen))) (rngN 0 seen.length) (ks.map (renB (plcR seen))) seen.length with
  | some d=>match d.val.ok noP,canW seen d.wr with
   | true,some wr=>some ⟨d.val,wr,[],[],d.cs⟩
   | _,_=>none
  | none=>none
 | _,_,_=>none
theorem plcN_some {b:Nat}:∀{l:List Nat} {k j:Nat},plcN b l k=some j→k≤j∧j<k+l.length∧nthN l (j - k)=b
 | [],k,j,h=>by cases h
 | a::l,k,j,h=>by
  unfold plcN at h
  split at h
  ·rename_i q
   cases h
   have:=Nat.eq_of_beq_eq_true q
   simp [nthN,this]
  ·obtain ⟨h1,h2,h3⟩:=plcN_some h
   refine ⟨by omega,by simp only [List.length_cons];omega, ?_⟩
   rw [show j - k=(j - (k+1))+1 by omega]
   exact h3
theorem nthN_get:∀{l:List Nat} {j:Nat},j<l.length→l[j]? = some (nthN l j)
 | [],j,h=>by simp at h
 | a::l,0,h=>rfl
 | a::l,j+1,h=>by simp only [List.length_cons] at h;simpa [nthN] using nthN_get (l:=l) (j:=j) (by omega)
theorem nthN_mem {l:List Nat} {j:Nat} (h:j<l.length):nthN l j∈l:=List.mem_of_getElem? (nthN_get h)
theorem nthN_inj:∀{l:List Nat},l.Nodup→∀{i j:Nat},i<l.length→j<l.length→nthN l i=nthN l j→i=j
 | [],_,i,j,h,_,_=>by simp at h
 | a::l,hn,0,0,_,_,_=>rfl
 | a::l,hn,0,j+1,h1,h2,h=>by
  simp only [List.length_cons] at h2
  simp only [List.nodup_cons] at hn
  have h:a=nthN l j:=h
  exact absurd (h ▸ nthN_mem (l:=l) (j:=j) (by omega)) hn.1
 | a::l,hn,i+1,0,h1,h2,h=>by
  simp only [List.length_cons] at h1
  simp only [List.nodup_cons] at hn
  have h:nthN l i=a:=h
  exact absurd (h ▸ nthN_mem (l:=l) (j:=i) (by omega)) hn.1
 | a::l,hn,i+1,j+1,h1,h2,h=>by
  simp only [List.length_cons] at h1 h2
  simp only [List.nodup_cons] at hn
  rw [nthN_inj hn.2 (by omega) (by omega) (show nthN l i=nthN l j from h)]
theorem liveAll_rng:∀{l:List Blk} {o:Nat} {g:Nat→Option Blk},(∀i,i<l.length→g (o+i)=l[i]?)→liveAll g (rngN o l.length)=some l
 | [],o,g,h=>rfl
 | b::l,o,g,h=>by
  have h0:=h 0 (by simp)
  have ih:=liveAll_rng (l:=l) (o:=o+1) (g:=g) fun i hi=>by
   have:=h (i+1) (by simp only [List.length_cons];omega)
   rw [show o+1+i=o+(i+1) by omega,this]
   simp
  show liveAll g (o::rngN (o+1) l.length)=_
  simp only [liveAll]
  rw [show g o=some b from h0,ih]
theorem canW_get {seen:List Nat} (hn:seen.Nodup) {j:Nat} (hj:j<seen.length):∀{l r:List (Nat×Option Blk)} {g g0:Nat→Option Blk},canW seen l=some r→
  (∃b,wrG g0 l j=some b∧wrG g r (nthN seen j)=some b∧okL noP b.cells=true)∨(wrG g0 l j=g0 j∧wrG g r (nthN seen j)=g (nthN seen j))
 | [],r,g,g0,h=>by simp only [canW] at h;cases h;exact .inr ⟨rfl,rfl⟩
 | (i,none)::l,r,g,g0,h=>by simp only [canW] at h;cases h
 | (i,some b)::l,r,g,g0,h=>by
  simp only [canW] at h
  split at h
  ·rename_i r' q1 q2 q3
   cases h
   have hi:i<seen.length:=by simpa [Nat.blt_eq] using q1
   simp only [wrG]
   rcases canW_get hn hj (g:=fun k=>if k=nthN seen i then some b else g k) (g0:=fun k=>if k=i then some b else g0 k) q3 with ⟨b',h1,h2,h3⟩ | ⟨h1,h2⟩
   ·exact .inl ⟨b',h1,h2,h3⟩
   ·by_cases e:j=i
    ·subst e
     exact .inl ⟨b,by rw [h1];simp,by rw [h2];simp,q2⟩
    ·refine .inr ⟨by rw [h1];simp [e], ?_⟩
     rw [h2]
     have:nthN seen j≠nthN seen i:=fun h=>e (nthN_inj hn hj hi h)
     simp [this]
  ·cases h
theorem canW_keys {seen:List Nat}:∀{l r:List (Nat×Option Blk)},canW seen l=some r→wkeys r=(wkeys l).map (nthN seen)∧∀x∈r,∃j,j<seen.length∧x.1=nthN seen j
 | [],r,h=>by simp only [canW] at h;cases h;exact ⟨rfl,by simp⟩
 | (i,none)::l,r,h=>by simp only [canW] at h;cases h
 | (i,some b)::l,r,h=>by
  simp only [canW] at h
  split at h
  ·rename_i r' q1 q2 q3
   cases h
   have hi:i<seen.length:=by simpa [Nat.blt_eq] using q1
   obtain ⟨h1,h2⟩:=canW_keys q3
   refine ⟨by simp only [wkeys,List.map_cons,h1],fun x hx=> ?_⟩
   rcases List.mem_cons.1 hx with rfl | hx
   ·exact ⟨i,hi,rfl⟩
   ·exact h2 x hx
  ·cases h
theorem canG_ok {P:Program} {f:FuncId} {s:List LV→List Nat→List Blk→Nat→Option Dl} (hs:GenOK P f s):GenOK P f (canG s):=by
 intro args seen ks g nb p d E w hl hd hnd hc hrel hg hargs hn
 unfold canG at hd
 split at hd
 ·rename_i q1 q2 q3
  split at hd
  ·rename_i d0 hd0
   split at hd
   ·rename_i wr q4 hwr
    cases hd
    have hnod:seen.Nodup:=nodupB_iff.1 q1
    obtain ⟨hlen,hget⟩:=liveAll_get hl
    let E0:Env:=fun j=>if j<seen.length then E (nthN seen j) else E (j - seen.length)
    have hE0:∀j,j<seen.length→E0 j=E (nthN seen j):=fun j hj=>by simp only [E0,hj,if_true]
    have hρ:∀b,E0 (plcR seen b)=E b:=by
     intro b
     unfold plcR
     cases h:plcN b seen 0 with
     | none=>simp only [E0];rw [if_neg (by omega)];congr 1;omega
     | some j=>
      obtain ⟨-,h2,h3⟩:=plcN_some h
      simp only [Nat.zero_add,Nat.sub_zero] at h2 h3
      rw [hE0 j h2,h3]
    have hks:∀j,j<seen.length→∃b,ks[j]? = some b∧g (nthN seen j)=some b:=fun j hj=>hget j _ (nthN_get hj)
    let g0:Nat→Option Blk:=fun j=>(ks.map (renB (plcR seen)))[j]?
    have hg0:∀j b0,g0 j=some b0→j<seen.length∧∃b,b0=renB (plcR seen) b∧g (nthN seen j)=some b:=by
     intro j b0 h
     simp only [g0,List.getElem?_map] at h
     have hj:j<seen.length:=by
      rw [←hlen]
      cases h':ks[j]? with
      | none=>rw [h'] at h;cases h
      | some b=>exact (List.getElem?_eq_some_iff.1 h').1
     obtain ⟨b,h1,h2⟩:=hks j hj
     rw [h1] at h
     cases h
     exact ⟨hj,b,rfl,h2⟩
    have hgs:∀j,j<seen.length→∃b,g0 j=some (renB (plcR seen) b)∧g (nthN seen j)=some b:=by
     intro j hj
     obtain ⟨b,h1,h2⟩:=hks j hj
     exact ⟨b,by simp only [g0,List.getElem?_map,h1];rfl,h2⟩
    have hl0:liveAll g0 (rngN 0 seen.length)=some (ks.map (renB (plcR seen))):=by
     have:=liveAll_rng (l:=ks.map (renB (plcR seen))) (o:=0) (g:=g0) fun i hi=>by simp only [g0,Nat.zero_add]
     rwa [List.length_map,hlen] at this
    have hrel0:Rel E0 g0 w:=by
     refine ⟨fun j b0 h=> ?_,fun i j hi hj he=> ?_⟩
     ·obtain ⟨hj,b,rfl,hb⟩:=hg0 j b0 h
      obtain ⟨r,h1,h2,h3⟩:=hrel.blk _ b hb
      refine ⟨r, ?_,h2,fun hne=> ?_⟩
      ·rw [hE0 j hj]
       show w.heap[(E (nthN seen j)).1]? = some (Obj.cells ((E (nthN seen j)).pre++(renL (plcR seen) b.cells).map (At.den E0)++r++(E (nthN seen j)).suf).toArray ((E (nthN seen j)).ty.getD b.ty) b.fr)
       rw [renL_den (ρ:=plcR seen) (E:=E) (E':=E0) hρ]
       exact h1
      ·rw [hE0 j hj]
       show (renL (plcR seen) b.cells).length+r.length=_
       rw [renL_len]
       exact h3 hne
     ·obtain ⟨bi,hbi⟩:=Option.isSome_iff_exists.1 hi
      obtain ⟨bj,hbj⟩:=Option.isSome_iff_exists.1 hj
      obtain ⟨hi',ci,-,hci⟩:=hg0 i bi hbi
      obtain ⟨hj',cj,-,hcj⟩:=hg0 j bj hbj
      rw [hE0 i hi',hE0 j hj'] at he
      exact nthN_inj hnod hi' hj' (hrel.inj _ _ (by rw [hci];rfl) (by rw [hcj];rfl) he)
    obtain ⟨hk1,hk2⟩:=canW_keys hwr
    have hnd0:(wkeys d0.wr).Nodup:=by
     have:((wkeys d0.wr).map (nthN seen)).Nodup:=by rw [←hk1];exact hnd
     exact (List.pairwise_map.1 this).imp fun h e=>h (congrArg _ e)
    have ep:(args.map (renV (plcR seen))).map (LV.den E0)=args.map (LV.den E):=by
     rw [List.map_map]
     exact List.map_congr_left fun u _=>renV_den (ρ:=plcR seen) (E:=E) (E':=E0) hρ u
    have key:=hs (args.map (renV (plcR seen))) (rngN 0 seen.length) (ks.map (renB (plcR seen))) g0 seen.length (ltB seen.length) d0 E0 w hl0 hd0 hnd0 hc hrel0 (fun i c h=>by
     obtain ⟨hi,b,rfl,-⟩:=hg0 i c h
     exact ⟨by simpa [ltB,Nat.blt_eq] using hi,okBs_iff.1 q3 _ (List.mem_of_getElem? h)⟩) (okArgs_iff q2) (fun i h _=>by
     cases h':ltB seen.length i with
     | false=>rfl
     | true=>simp [ltB,Nat.blt_eq] at h';omega)
    rw [ep] at key
    have fin:∀v w',(∃E',v=d0.val.den E'∧Post w E0 g0 seen.length ⟨d0.val,d0.wr,d0.nw,[],[]⟩ E' w')→∃E',v=d0.val.den E'∧Post w E g nb ⟨d0.val,wr,[],[],[]⟩ E' w':=by
     rintro v w' ⟨E',rfl,hp⟩
     refine ⟨E,(den_noP q4).trans (den_noP q4).symm, ?_⟩
     have hE':∀j,j<seen.length→E' j=E (nthN seen j):=fun j hj=>(hp.agree j (.inl hj)).trans (hE0 j hj)
     have hgk:∀i,(wrG g wr i).isSome→(g i).isSome:=by
      intro i hi
      obtain ⟨b,hb⟩:=Option.isSome_iff_exists.1 hi
      rcases wrG_mem wr i b hb with h | ⟨x,hx,rfl,-⟩
      ·rw [h];rfl
      ·obtain ⟨j,hj,e⟩:=hk2 x hx
       obtain ⟨b',-,hb'⟩:=hgs j hj
       rw [e,hb'];rfl
     refine ⟨fun _ _=>rfl,⟨fun i b hib=> ?_,fun i j hi hj he=>hrel.inj i j (hgk i hi) (hgk j hj) he⟩,hp.os,hp.tape,hp.output,hp.size,fun b hb hne=>hp.frame b hb fun j hj=> ?_,fun i h1 h2=> ?_⟩
     ·have hib:wrG g wr i=some b:=hib
      by_cases hin:∃j,j<seen.length∧nthN seen j=i
      ·obtain ⟨j,hj,rfl⟩:=hin
       rcases canW_get hnod hj (g:=g) (g0:=g0) hwr with ⟨b1,h1,h2,h3⟩ | ⟨h1,h2⟩
       ·rw [h2] at hib
        cases hib
        obtain ⟨r,u1,u2,u3⟩:=hp.rel.blk j b (by
         show nwG (wrG g0 d0.wr) seen.length d0.nw j=some b
         rw [nwG_none _ _ _ (.inl hj)];exact h1)
        rw [hE' j hj] at u1 u3
        refine ⟨r, ?_,u2,u3⟩
        rw [denA_noP (E:=E) h3,←denA_noP (E:=E') h3]
        exact u1
       ·rw [h2] at hib
        obtain ⟨b0,v1,v2⟩:=hgs j hj
        rw [v2] at hib
        cases hib
        obtain ⟨r,u1,u2,u3⟩:=hp.rel.blk j (renB (plcR seen) b) (by
         show nwG (wrG g0 d0.wr) seen.length d0.nw j=some _
         rw [nwG_none _ _ _ (.inl hj),h1];exact v1)
        rw [hE' j hj] at u1 u3
        have hok:okL (ltB seen.length) (renL (plcR seen) b.cells)=true:=okBs_iff.1 q3 (renB (plcR seen) b) (List.mem_of_getElem? v1)
        have e1:(renL (plcR seen) b.cells).map (At.den E')=b.cells.map (At.den E):=by
         rw [denL_congr (p:=ltB seen.length) (E:=E0) (E':=E') (fun i hi=>hp.agree i (.inl (by simpa [ltB,Nat.blt_eq] using hi))) hok]
         exact renL_den (ρ:=plcR seen) (E:=E) (E':=E0) hρ b.cells
        refine ⟨r, ?_,u2,fun hne=> ?_⟩
        ·rw [←e1];exact u1
        ·have:=u3 hne
         rw [show (renB (plcR seen) b).cells.length=b.cells.length from renL_len _ _] at this
         exact this
      ·have hne:∀x∈wr,x.1≠i:=fun x hx e=>by
        obtain ⟨j,hj,e'⟩:=hk2 x hx
        exact hin ⟨j,hj,by rw [←e',e]⟩
       rw [wrG_none wr i hne] at hib
       obtain ⟨r,u1,u2,u3⟩:=hrel.blk i b hib
       refine ⟨r, ?_,u2,u3⟩
       rw [hp.frame (E i).1 (Array.getElem?_eq_some_iff.1 u1).1 fun j hj he=> ?_]
       ·exact u1
       ·obtain ⟨bj,hbj⟩:=Option.isSome_iff_exists.1 hj
        obtain ⟨hj',cj,-,hcj⟩:=hg0 j bj hbj
        rw [hE0 j hj'] at he
        exact hin ⟨j,hj',hrel.inj _ _ (by rw [hcj];rfl) (by rw [hib];rfl) he⟩
     ·obtain ⟨bj,hbj⟩:=Option.isSome_iff_exists.1 hj
      obtain ⟨hj',cj,-,hcj⟩:=hg0 j bj hbj
      rw [hE0 j hj']
      exact hne _ (by rw [hcj];rfl)
     ·simp at h2;omega
    rcases key with ⟨fn,h1,h2,h3,h4⟩ | ⟨v,w',h1,h2⟩
    ·exact .inl ⟨fn,h1,h2,h3,h4.mono fun e w' he=>by
      obtain ⟨v,rfl,hv⟩:=he
      exact ⟨v,rfl,fin v w' hv⟩⟩
    ·exact .inr ⟨v,w',h1,fin v w' h2⟩
   ·cases hd
  ·cases hd
 ·cases hd
end Go.Lr

/- Summaries whose numbers are chosen (whatever they are), of functions that write blocks: their shape is told, off runs. -/
set_option linter.unusedVariables false
namespace Go.Lr
open Go.RowKit
def GenAt (P:Program) (f:FuncId) (args:List LV) (seen:List Nat) (ks:List Blk) (nb:Nat) (d:Dl):Prop:=
 ∀(g:Nat→Option Blk) (p:Nat→Bool) (E:Env) (w:World),liveAll g seen=some ks→(wkeys d.wr).Nodup→Rel E g w→(∀i c,g i=some c→p i=true∧okL p c.cells=true)→(∀v∈args,v.ok p=true)→(∀i,nb≤i→i<nb+d.nw.length→p i=false)→
  CallOK P f (args.map (LV.den E)).toArray w fun v w'=>∃E',v=d.val.den E'∧Post w E g nb ⟨d.val,d.wr,d.nw,[],[]⟩ E' w'
theorem GenOK.at {P:Program} {f:FuncId} {s:List LV→List Nat→List Blk→Nat→Option Dl} (hs:GenOK P f s) {args:List LV} {seen:List Nat} {ks:List Blk} {nb:Nat} {d:Dl} (h:s args seen ks nb=some d) (hc:∀c∈d.cs,c.1=c.2):GenAt P f args seen ks nb d:=
 fun g p E w hl hnd hrel hg hargs hn=>hs args seen ks g nb p d E w hl h hnd hc hrel hg hargs hn
abbrev ShX:=(Nat→Int)→(Nat→Bool)→LV×List (Nat×Option Blk)
noncomputable def gxQ (P:Program) (f:FuncId) (args:List LV) (seen:List Nat) (ks:List Blk) (nb:Nat) (Sh:ShX):(Nat→Int)×(Nat→Bool)×List Blk:=
 @Classical.epsilon ((Nat→Int)×(Nat→Bool)×List Blk) ⟨(fun _=>0,fun _=>false,[])⟩ fun q=>GenAt P f args seen ks nb ⟨(Sh q.1 q.2.1).1,(Sh q.1 q.2.1).2,q.2.2,[],[]⟩
noncomputable def genX (P:Program) (f:FuncId) (F:List LV→List Nat→List Blk→Nat→Option (List (Bool×Bool)×ShX)):List LV→List Nat→List Blk→Nat→Option Dl:=fun args seen ks nb=>
 match F args seen ks nb with
 | some (cs,Sh)=>some ⟨(Sh (gxQ P f args seen ks nb Sh).1 (gxQ P f args seen ks nb Sh).2.1).1,(Sh (gxQ P f args seen ks nb Sh).1 (gxQ P f args seen ks nb Sh).2.1).2,(gxQ P f args seen ks nb Sh).2.2,[],cs⟩
 | none=>none
theorem genX_ok {P:Program} {f:FuncId} {F:List LV→List Nat→List Blk→Nat→Option (List (Bool×Bool)×ShX)}
  (h:∀args seen ks nb cs Sh,F args seen ks nb=some (cs,Sh)→(∀c∈cs,c.1=c.2)→∃v b nw,GenAt P f args seen ks nb ⟨(Sh v b).1,(Sh v b).2,nw,[],[]⟩):GenOK P f (genX P f F):=by
 intro args seen ks g nb p d E w hl hd hnd hc hrel hg hargs hn
 unfold genX at hd
 split at hd
 ·rename_i cs Sh hF
  cases hd
  obtain ⟨v,b,nw,hq⟩:=h args seen ks nb cs Sh hF hc
  have hq:=@Classical.epsilon_spec_aux ((Nat→Int)×(Nat→Bool)×List Blk) ⟨(fun _=>0,fun _=>false,[])⟩ (fun q=>GenAt P f args seen ks nb ⟨(Sh q.1 q.2.1).1,(Sh q.1 q.2.1).2,q.2.2,[],[]⟩) ⟨(v,b,nw),hq⟩
  exact hq g p E w hl hnd hrel hg hargs hn
 ·cases hd
theorem GenAt.of_run {P:Program} {S:FuncId→Option SumK} (hs:Sound P S) {f:FuncId} (ho:Own P f) {z:Md} {n:Nat} {dec:List (Option Bool)} {args:List LV} {seen:List Nat} {ks:List Blk} {nb:Nat} {mask:List Bool} {os:List (Bool×Bool)} {Sh:ShX}
  {vw:List (Nat×Option Blk)→Nat→Int} {bw:List (Nat×Option Blk)→Nat→Bool}
  (h:((autoAD P S z n f dec args seen ks nb).bind (fun d=>(openC mask d.cs).map (fun os=>(d.val,d.wr,os))),(autoAD P S z n f dec args seen ks nb).isSome)=((autoAD P S z n f dec args seen ks nb).map (fun d=>((Sh (vw d.wr) (bw d.wr)).1,(Sh (vw d.wr) (bw d.wr)).2,os)),true))
  (hos:∀c∈os,c.1=c.2):∃v b nw,GenAt P f args seen ks nb ⟨(Sh v b).1,(Sh v b).2,nw,[],[]⟩:=by
 cases hR:autoAD P S z n f dec args seen ks nb with
 | none=>rw [hR] at h;simp at h
 | some d=>
  rw [hR] at h
  simp only [Option.bind_some,Option.map_some,Option.isSome_some,Prod.mk.injEq,and_true] at h
  cases hm:openC mask d.cs with
  | none=>rw [hm] at h;simp at h
  | some os'=>
   rw [hm] at h
   simp only [Option.map_some,Option.some.injEq,Prod.mk.injEq] at h
   obtain ⟨h1,h2,h3⟩:=h
   subst h3
   have k:=(autoAD_ok hs ho).at hR (openC_ok hm hos)
   refine ⟨vw d.wr,bw d.wr,d.nw, ?_⟩
   rw [←h1,←h2]
   exact k
end Go.Lr

/- Laws that are handed slices: the blocks behind them, as the evaluator's memory. -/
namespace Go.Lr
set_option linter.unusedVariables false
open Go.ChangeShapes Go.WideShapes Go.ChangeAt Go.RowKit
def conv:Value→At
 | .int k n=> .int k n
 | .bool b=> .bool b
 | v=> .opq v
def convL (arr:Array Value):List At:=arr.toList.map conv
structure RowL (arr:Array Value) (o cap:Nat) (zs:List Int):Prop where
 len:zs.length=cap
 le:o+cap≤arr.size
 at':∀i (h:i<cap),arr[o+i]? = some (.int .i64 (zs.getD i 0))
theorem RowL.atL {arr:Array Value} {o cap:Nat} {zs:List Int} (h:RowL arr o cap zs) {i:Nat} (hi:i<cap):(convL arr)[o+i]? = some (.int .i64 (zs.getD i 0)):=by
 unfold convL
 rw [List.getElem?_map,Array.getElem?_toList,h.at' i hi]
 rfl
theorem RowL.cut {arr:Array Value} {o cap:Nat} {zs:List Int} (h:RowL arr o cap zs) {p n:Nat} (hn:p+n≤cap):((convL arr).drop (o+p)).take n=((zs.drop p).take n).map (At.int .i64):=by
 refine List.ext_getElem? fun i=> ?_
 by_cases hi:i<n
 ·rw [List.getElem?_take,if_pos hi,List.getElem?_drop,Nat.add_assoc,h.atL (i:=p+i) (by omega),List.getElem?_map,List.getElem?_take,if_pos hi,List.getElem?_drop,List.getD_eq_getElem?_getD]
  have:p+i<zs.length:=by have:=h.len;omega
  rw [List.getElem?_eq_getElem this]
  rfl
 ·rw [List.getElem?_take,if_neg hi,List.getElem?_map,List.getElem?_take,if_neg hi];rfl
section
variable {P:Program} {S:FuncId→Option SumK} {z:Md}
end
end Go.Lr

/- A law off a walk in pieces in which blocks change their numbers; lists of cells that name no block. -/
set_option linter.unusedVariables false
namespace Go.Lr
open Go.RowKit
theorem renA_noP {ρ:Nat→Nat} {a:At} (h:a.ok noP=true):renA ρ a=a:=by
 cases a with
 | fn f caps=>
  cases caps with
  | nil=>rfl
  | cons c l=>simp [At.ok,noP] at h
 | ptr b o=>cases h
 | sl b o l c=>cases h
 | slu b l=>cases h
 | slx b o l c=>cases h
 | ptx b o=>cases h
 | slt b o n=>cases h
 | _=>rfl
theorem renL_noP {ρ:Nat→Nat}:∀{l:List At},okL noP l=true→renL ρ l=l
 | [],_=>rfl
 | a::l,h=>by
  simp only [okL] at h
  split at h
  ·rename_i ha
   simp only [renL,renA_noP ha,renL_noP h]
  ·cases h
section
variable {P:Program}
theorem law_ToR {f:FuncId} {fn:Func} {c:Code} {args:List LV} {m:Mem} {nb N:Nat} {B:Kst→Prop} {v:LV} (hf:P.funcs[f]? = some fn) (hb:fn.body=some c)
  (hle:fn.ntmps≤60000) (hargs:args.length≤fn.ntmps) (hA:∀u∈args,u.ok (below nb)=true) (hm:memOKb nb m=true) (hz:∀i b,getM m i=some b→b.es=0) (hn:∀i b,getM m i=some b→i<N)
  (ho:∀i b,getM m i=some b→okL noP b.cells=true)
  (h:ToR P fn.ntmps N c ⟨argsL 0 args,m,nb⟩ .ret B) (hres:∀x,B x→(∀dead,resultsD P fn.results.toList (getT (x.tm dead)) x.mem=some v)∧∀i b,getM m i=some b→getM x.mem i=some b) (hv:v.ok noP=true)
  (E:Env) (w:World) (hrel:Rel E (getM m) w):Calls P f (args.map (LV.den E)).toArray w fun e w'=>e = .returned (v.den E0)∧Below w.heap.size w w':=by
 obtain ⟨k1,k2⟩:=memOKb_ok hm
 refine calls_of_wp hf hb (h E _ w ⟨⟨fun q hq=> ?_,(argsL_fst args 0).1,fun q hq=> ?_,k1,k2⟩,by simp;omega,hle,rfl,fun q hq=> ?_,hrel⟩ _ fun B0 hB E' a' w' hr' hx'=> ?_)
 ·have:=(argsL_mem args 0 q).1 hq
  have:=(List.getElem?_eq_some_iff.1 this.2).1
  omega
 ·exact hA q.2 (List.mem_of_getElem? ((argsL_mem args 0 q).1 hq).2)
 ·have:=((argsL_mem args 0 q).1 hq).2
  simp only [Nat.sub_zero] at this
  have hlt:=(List.getElem?_eq_some_iff.1 this).1
  simp only [Array.getD_eq_getD_getElem?,Array.getElem?_append,List.size_toArray,List.length_map]
  rw [if_pos hlt]
  simp [this]
 ·have hR:=hr'.toR []
  obtain ⟨hr1,hr2⟩:=hres B0 hB
  refine ⟨hr'.defers,v.den E',resultsD_spec hR.m.rel hR.tm (hr1 _),by rw [den_noP hv],hx'.os,hx'.tape,hx'.output,hx'.size,fun k hk=> ?_⟩
  by_cases hex:∃i b,getM m i=some b∧(E i).1=k
  ·obtain ⟨i,b,hi,rfl⟩:=hex
   obtain ⟨r,u1,u2,-⟩:=hrel.blk i b hi
   obtain ⟨r',v1,v2,-⟩:=hr'.rel.blk i b (hr2 i b hi)
   rw [hx'.agree i (hn i b hi),v2 (hz i b hi),denA_noP (E:=E') (ho i b hi),←denA_noP (E:=E) (ho i b hi)] at v1
   rw [u2 (hz i b hi)] at u1
   rw [u1,v1]
  ·refine hx'.frame k hk fun i hi e=>hex ?_
   obtain ⟨b,hb⟩:=Option.isSome_iff_exists.1 hi
   exact ⟨i,b,hb,e⟩
end
def mskC:Nat→List Bool→List Bool
 | 0,l=>l
 | n+1,l=>false::mskC n l
def mskO:Nat→List Bool→List Bool
 | 0,l=>l
 | n+1,l=>true::mskO n l
theorem w1 {x:Int} (h: -9223372036854775808≤x∧x<9223372036854775808):wr .i64 x=x:=by
 show w64 x=x
 unfold w64
 omega
end Go.Lr

/- Small helpers: lists of numbers held against one another; sums by formula. -/
namespace Go.Lr
set_option linter.unusedVariables false
def eqNs:List Nat→List Nat→Bool
 | [],[]=>true
 | a::l,b::m=>match Nat.beq a b with
  | true=>eqNs l m
  | false=>false
 | _,_=>false
theorem eqNs_ok:∀{l m:List Nat},eqNs l m=true→l=m
 | [],[],_=>rfl
 | [],_::_,h=>by simp [eqNs] at h
 | _::_,[],h=>by simp [eqNs] at h
 | a::l,b::m,h=>by
  unfold eqNs at h
  split at h
  ·rename_i q
   rw [Nat.eq_of_beq_eq_true q,eqNs_ok h]
  ·cases h
def coG1 (l:List (Nat×Option Blk)):Nat→Bool:=match l with
 | [(_,some k)]=>fun _=>bA (nthA k.cells 0)
 | _=>fun _=>false
end Go.Lr

/- vec.Add of two or three vectors, by formula (its flag is chosen). -/
namespace Go.Proofs.YtnlhpaidmiogbaaGreat
open Go.Lr
set_option linter.unusedVariables false
def vaV2 (a:Nat→Int):LV:= .v (.agg [.int .i64 (fI2 (a 0) (a 3)),.int .i64 (fI2 (a 1) (a 4)),.int .i64 (fI2 (a 2) (a 5))])
def vaH2 (a:Nat→Int):Bool:=(faddH (intL [At.int IntKind.i64 (a 0),At.int IntKind.i64 (a 3)]))||(faddH (intL [At.int IntKind.i64 (a 1),At.int IntKind.i64 (a 4)]))||(faddH (intL [At.int IntKind.i64 (a 2),At.int IntKind.i64 (a 5)]))
def vaS2 (a:Nat→Int) (h:Bool):ShX:=fun v b=>(vaV2 a,[(1,some (flag 61 (bif vaH2 a then true else h)))])
def vaQ2 (a:Nat→Int) (h:Bool):ShX:=fun v b=>(vaV2 a,[(1,some (flag 61 (h||(faddH (intL [At.int IntKind.i64 (a 0),At.int IntKind.i64 (a 3)]))||(faddH (intL [At.int IntKind.i64 (a 1),At.int IntKind.i64 (a 4)]))||(faddH (intL [At.int IntKind.i64 (a 2),At.int IntKind.i64 (a 5)])))))])
theorem vaE2 (a:Nat→Int) (h:Bool) (v:Nat→Int) (b:Nat→Bool):vaQ2 a h v b=vaS2 a h v b:=by
 unfold vaQ2 vaS2 vaH2
 generalize (faddH (intL [At.int IntKind.i64 (a 0),At.int IntKind.i64 (a 3)]))=x
 generalize (faddH (intL [At.int IntKind.i64 (a 1),At.int IntKind.i64 (a 4)]))=y
 generalize (faddH (intL [At.int IntKind.i64 (a 2),At.int IntKind.i64 (a 5)]))=z
 cases h <;> cases x <;> cases y <;> cases z <;> rfl
theorem vaR2 (a:Nat→Int) (h:Bool):((autoAD Tryz.prog K4 Zl 4000 147 [] [.v (.one (.ptr 1 0)),.v (.one (.sl 0 0 2 2))] [0,1] [⟨37,(0,0),0,mkI a 0 6⟩,flag 61 h] 2).bind (fun d=>(openC (mskC 9 []) d.cs).map (fun os=>(d.val,d.wr,os))),(autoAD Tryz.prog K4 Zl 4000 147 [] [.v (.one (.ptr 1 0)),.v (.one (.sl 0 0 2 2))] [0,1] [⟨37,(0,0),0,mkI a 0 6⟩,flag 61 h] 2).isSome)=((autoAD Tryz.prog K4 Zl 4000 147 [] [.v (.one (.ptr 1 0)),.v (.one (.sl 0 0 2 2))] [0,1] [⟨37,(0,0),0,mkI a 0 6⟩,flag 61 h] 2).map (fun d=>((vaQ2 a h (fun _=>0) (coG1 d.wr)).1,(vaQ2 a h (fun _=>0) (coG1 d.wr)).2,[])),true):=by kernel_rfl
def vaV3 (a:Nat→Int):LV:= .v (.agg [.int .i64 (fI3 (a 0) (a 3) (a 6)),.int .i64 (fI3 (a 1) (a 4) (a 7)),.int .i64 (fI3 (a 2) (a 5) (a 8))])
def vaH3 (a:Nat→Int):Bool:=(faddH (intL [At.int IntKind.i64 (a 0),At.int IntKind.i64 (a 3),At.int IntKind.i64 (a 6)]))||(faddH (intL [At.int IntKind.i64 (a 1),At.int IntKind.i64 (a 4),At.int IntKind.i64 (a 7)]))||(faddH (intL [At.int IntKind.i64 (a 2),At.int IntKind.i64 (a 5),At.int IntKind.i64 (a 8)]))
def vaS3 (a:Nat→Int) (h:Bool):ShX:=fun v b=>(vaV3 a,[(1,some (flag 61 (bif vaH3 a then true else h)))])
def vaQ3 (a:Nat→Int) (h:Bool):ShX:=fun v b=>(vaV3 a,[(1,some (flag 61 (h||(faddH (intL [At.int IntKind.i64 (a 0),At.int IntKind.i64 (a 3),At.int IntKind.i64 (a 6)]))||(faddH (intL [At.int IntKind.i64 (a 1),At.int IntKind.i64 (a 4),At.int IntKind.i64 (a 7)]))||(faddH (intL [At.int IntKind.i64 (a 2),At.int IntKind.i64 (a 5),At.int IntKind.i64 (a 8)])))))])
theorem vaE3 (a:Nat→Int) (h:Bool) (v:Nat→Int) (b:Nat→Bool):vaQ3 a h v b=vaS3 a h v b:=by
 unfold vaQ3 vaS3 vaH3
 generalize (faddH (intL [At.int IntKind.i64 (a 0),At.int IntKind.i64 (a 3),At.int IntKind.i64 (a 6)]))=x
 generalize (faddH (intL [At.int IntKind.i64 (a 1),At.int IntKind.i64 (a 4),At.int IntKind.i64 (a 7)]))=y
 generalize (faddH (intL [At.int IntKind.i64 (a 2),At.int IntKind.i64 (a 5),At.int IntKind.i64 (a 8)]))=z
 cases h <;> cases x <;> cases y <;> cases z <;> rfl
theorem vaR3 (a:Nat→Int) (h:Bool):((autoAD Tryz.prog K4 Zl 4000 147 [] [.v (.one (.ptr 1 0)),.v (.one (.sl 0 0 3 3))] [0,1] [⟨37,(0,0),0,mkI a 0 9⟩,flag 61 h] 2).bind (fun d=>(openC (mskC 12 []) d.cs).map (fun os=>(d.val,d.wr,os))),(autoAD Tryz.prog K4 Zl 4000 147 [] [.v (.one (.ptr 1 0)),.v (.one (.sl 0 0 3 3))] [0,1] [⟨37,(0,0),0,mkI a 0 9⟩,flag 61 h] 2).isSome)=((autoAD Tryz.prog K4 Zl 4000 147 [] [.v (.one (.ptr 1 0)),.v (.one (.sl 0 0 3 3))] [0,1] [⟨37,(0,0),0,mkI a 0 9⟩,flag 61 h] 2).map (fun d=>((vaQ3 a h (fun _=>0) (coG1 d.wr)).1,(vaQ3 a h (fun _=>0) (coG1 d.wr)).2,[])),true):=by kernel_rfl
def vaF:List LV→List Nat→List Blk→Nat→Option (List (Bool×Bool)×ShX):=fun args seen ks nb=>
 match args,ks with
 | [.v (.one (.ptr c co)),.v (.one (.sl b o l k))],[⟨tt,(o1,o2),es,cells⟩,⟨tf,(f1,f2),ef,[.bool h]⟩]=>
  match eqNs [c,co,b,o,tt,o1,o2,es,tf,f1,f2,ef,nb] [1,0,0,0,37,0,0,0,61,0,0,0,2],eqNs seen [0,1] with
  | true,true=>match eqNs [l,k] [2,2],allIB cells 6 with
   | true,true=>some ([],vaS2 (intAt cells) h)
   | _,_=>match eqNs [l,k] [3,3],allIB cells 9 with
    | true,true=>some ([],vaS3 (intAt cells) h)
    | _,_=>none
  | _,_=>none
 | _,_=>none
theorem vaOK:GenOK Tryz.prog 147 (genX Tryz.prog 147 vaF):=by
 refine genX_ok fun args seen ks nb cs Sh hF hc=> ?_
 unfold vaF at hF
 split at hF
 ·rename_i c co b o l k tt o1 o2 es cells tf f1 f2 ef h
  split at hF
  ·rename_i g1 g2
   have e1:=eqNs_ok g1
   have e2:=eqNs_ok g2
   simp only [List.cons.injEq,and_true] at e1
   obtain ⟨rfl,rfl,rfl,rfl,rfl,rfl,rfl,rfl,rfl,rfl,rfl,rfl,rfl⟩:=e1
   subst e2
   split at hF
   ·rename_i q1 q2
    cases hF
    have e3:=eqNs_ok q1
    simp only [List.cons.injEq,and_true] at e3
    obtain ⟨rfl,rfl⟩:=e3
    have ec:=(allIB_ok q2).eq
    rw [←mkI_ints] at ec
    generalize intAt cells=a at *
    rw [ec]
    obtain ⟨v,b,nw,k⟩:=GenAt.of_run (Sh:=vaQ2 a h) (vw:=fun _ _=>0) (bw:=coG1) soundK4 (own_of soundK4 Tryz.func147 (by kernel_rfl)) (vaR2 a h) (by simp)
    rw [vaE2] at k
    exact ⟨v,b,nw,k⟩
   ·split at hF
    ·rename_i q1 q2
     cases hF
     have e3:=eqNs_ok q1
     simp only [List.cons.injEq,and_true] at e3
     obtain ⟨rfl,rfl⟩:=e3
     have ec:=(allIB_ok q2).eq
     rw [←mkI_ints] at ec
     generalize intAt cells=a at *
     rw [ec]
     obtain ⟨v,b,nw,k⟩:=GenAt.of_run (Sh:=vaQ3 a h) (vw:=fun _ _=>0) (bw:=coG1) soundK4 (own_of soundK4 Tryz.func147 (by kernel_rfl)) (vaR3 a h) (by simp)
     rw [vaE3] at k
     exact ⟨v,b,nw,k⟩
    ·cases hF
  ·cases hF
 ·cases hF
def vsG:List LV→Option LV
 | [.v (.agg [.int .i64 a,.int .i64 b,.int .i64 c]),.v (.one (.int .i64 k))]=>some (.v (.agg [.int .i64 (mulV a k 30),.int .i64 (mulV b k 30),.int .i64 (mulV c k 30)]))
 | _=>none
theorem vsR (a b c k:Int) (hb:Bool):okY 61 ((runF Tryz.prog K2 Zl 4000 151 [A0,.v (.agg [.int .i64 a,.int .i64 b,.int .i64 c]),.v (.one (.int .i64 k))] [(0,flag 61 hb)] 1 []).map (fun r=>(r.1,getM r.2.1 0,r.2.2.2)))=some (.v (.agg [.int .i64 (mulV a k 30),.int .i64 (mulV b k 30),.int .i64 (mulV c k 30)])):=by kernel_rfl
theorem sumScaleF:SumOK Tryz.prog 151 (accSum 61 (fxF Tryz.prog 151 61 vsG)):=by
 refine fxF_run (z:=Zl) soundK2 (own_of soundK2 Tryz.func151 (by kernel_rfl)) fun args v hb hF=> ?_
 unfold vsG at hF
 split at hF
 ·cases hF
  exact ⟨by kernel_rfl,4000,[],vsR _ _ _ _ hb⟩
 ·cases hF
noncomputable def vaD:List LV→List Nat→List Blk→Nat→Option Dl:=orGen (narG 0 61 (canG (genX Tryz.prog 147 vaF))) (autoA Tryz.prog K4 Zl 4000 147)
theorem vaD_ok:GenOK Tryz.prog 147 vaD:=orGen_ok (narG_ok (canG_ok vaOK)) (autoA_ok soundK4 (own_of soundK4 Tryz.func147 (by kernel_rfl)))
noncomputable def KC1:FuncId→Option SumK:=moreG (more K32u 151 (accSum 61 (fxF Tryz.prog 151 61 vsG))) 147 vaD
theorem soundKC1:Sound Tryz.prog KC1:=(soundK32u.more sumScaleF).moreG vaD_ok
noncomputable def KC2:FuncId→Option SumK:=moreG KC1 179 (autoA Tryz.prog KC1 Zl 4000 179)
theorem soundKC2:Sound Tryz.prog KC2:=soundKC1.moreG (autoA_ok soundKC1 (own_of soundKC1 Tryz.func179 (by kernel_rfl)))
end Go.Proofs.YtnlhpaidmiogbaaGreat

/- output.Correct: what it writes, whatever the numbers are (all outputs lie at or ahead of the time): the times stay. -/
namespace Go.Proofs.YtnlhpaidmiogbaaGreat
open Go.Lr
set_option linter.unusedVariables false
def coC (v:Nat→Int):Nat→Nat→List At→List At
 | _,_,[]=>[]
 | o,0,a::l=>a::coC v (o+1) 10 l
 | o,n+1,_::l=> .int .i64 (v o)::coC v (o+1) n l
def coA (t:Int):Nat→List (Bool×Bool)→List At→List (Bool×Bool)
 | _,acc,[]=>acc
 | 0,acc,.int .i64 T::l=>coA t 10 ((decide (T≤t),true)::acc) l
 | 0,acc,_::l=>coA t 10 acc l
 | n+1,acc,_::l=>coA t n acc l
def coB (t:Int) (o:Nat→Int):Nat→List (Bool×Bool)
 | 0=>[]
 | m+1=>(decide (o (11*m)≤t),true)::coB t o m
def coR (q0 q1 q2 q3 o0 o1 o2 o3:Int):Bool:=decide (mq0 (bif kunB q0 q1 q2 q3 then q0 else uV0 q0 q1 q2 q3) (bif kunB q0 q1 q2 q3 then q1 else uV1 q0 q1 q2 q3) (bif kunB q0 q1 q2 q3 then q2 else uV2 q0 q1 q2 q3) (bif kunB q0 q1 q2 q3 then q3 else uV3 q0 q1 q2 q3) (satV o0) (wr .i64 (0 - satV o1)) (wr .i64 (0 - satV o2)) (wr .i64 (0 - satV o3))<0)
def coSh (es:Nat) (cells:List At):ShX:=fun v b=>(I 0,[(0,some (flag 61 (b 0))),(1,some ⟨79,(0,0),es,coC v 0 0 cells⟩)])
def coV (l:List (Nat×Option Blk)):Nat→Int:=match l with
 | [_,(_,some k)]=>intAt k.cells
 | _=>fun _=>0
def coG (l:List (Nat×Option Blk)):Nat→Bool:=match l with
 | [(_,some k),_]=>fun _=>bA (nthA k.cells 0)
 | _=>fun _=>false
def coK (es:Nat) (sl:At) (cells:List At):Option Nat:=match sl with
 | .sl b o l c=>match eqNs [b,o,l,c,es] [1,0,1,1,0],allIB cells 11 with
  | true,true=>some 1
  | _,_=>none
 | .slu b m=>match eqNs [b,es] [1,11],Nat.ble 2 m,Nat.ble m 18,allIB cells (11*m) with
  | true,true,true,true=>some m
  | _,_,_,_=>none
 | _=>none
def coF:List LV→List Nat→List Blk→Nat→Option (List (Bool×Bool)×ShX):=fun args seen ks nb=>
 match args,ks with
 | [.v (.one (.ptr p po)),.v (.one (.ptr c co)),.v (.agg s),.v (.one (.int .i64 t))],[⟨tf,(f1,f2),ef,[.bool h]⟩,⟨tt,(o1,o2),es,cells⟩,⟨tp,(p1,p2),ep,[.int .i64 z,.int .i64 gn,sl]⟩]=>
  match eqNs [p,po,c,co,tf,f1,f2,ef,tt,o1,o2,tp,p1,p2,ep,nb] [2,0,0,0,61,0,0,0,79,0,0,210,0,0,0,3],eqNs seen [0,1,2],allIB s 24,coK es sl cells with
  | true,true,true,some _=>some (coA t 0 [] cells,coSh es cells)
  | _,_,_,_=>none
 | _,_=>none
def coE (m:Nat):Nat:=match m with
 | 1=>0
 | _=>11
def coS (m:Nat):At:=match m with
 | 1=> .sl 1 0 1 1
 | _=> .slu 1 m
def coTs:Nat→List (Option Bool)→List (Option Bool)
 | 0,l=>l
 | m+1,l=>none::some true::coTs m l
def coAr (s:Nat→Int) (t:Int):List LV:=[.v (.one (.ptr 2 0)),.v (.one (.ptr 0 0)),.v (.agg (mkI s 0 24)),.v (.one (.int .i64 t))]
def coKt (m:Nat) (o:Nat→Int) (z gn:Int) (h:Bool):List Blk:=[flag 61 h,⟨79,(0,0),coE m,mkI o 0 (11*m)⟩,⟨210,(0,0),0,[.int .i64 z,.int .i64 gn,coS m]⟩]
noncomputable abbrev coRn (b:Bool) (m:Nat) (o s:Nat→Int) (z gn t:Int) (h:Bool):Option Dl:=autoAD Tryz.prog KC2 Zl 4000 108 (coTs m (nn 3 (some b::none::some b::none::some b::[]))) (coAr s t) [0,1,2] (coKt m o z gn h) 3
def coL (m:Nat) (R:Option Dl):Option (LV×List (Nat×Option Blk)×List (Bool×Bool))×Bool:=(R.bind (fun d=>(openC (mskO (3+m) []) d.cs).map (fun os=>(d.val,d.wr,os))),R.isSome)
def coQ (m:Nat) (o:Nat→Int) (os:List (Bool×Bool)) (R:Option Dl):Option (LV×List (Nat×Option Blk)×List (Bool×Bool))×Bool:=(R.map (fun d=>((coSh (coE m) (mkI o 0 (11*m)) (coV d.wr) (coG d.wr)).1,(coSh (coE m) (mkI o 0 (11*m)) (coV d.wr) (coG d.wr)).2,os)),true)
def coX (m:Nat) (o s:Nat→Int):Bool:=coR (s 0) (s 1) (s 2) (s 3) (o (11*m - 10)) (o (11*m - 9)) (o (11*m - 8)) (o (11*m - 7))
def coEx (m:Nat) (o s:Nat→Int) (z gn t:Int) (h:Bool):Prop:=∃v b nw,GenAt Tryz.prog 108 (coAr s t) [0,1,2] (coKt m o z gn h) 3 ⟨(coSh (coE m) (mkI o 0 (11*m)) v b).1,(coSh (coE m) (mkI o 0 (11*m)) v b).2,nw,[],[]⟩
theorem coEx_of {m:Nat} {o s:Nat→Int} {z gn t:Int} {h:Bool} (ht:coL m (coRn true m o s z gn t h)=coQ m o (ra 3 (coX m o s,true) (coB t o m)) (coRn true m o s z gn t h)) (hf:coL m (coRn false m o s z gn t h)=coQ m o (ra 3 (coX m o s,false) (coB t o m)) (coRn false m o s z gn t h))
  (hc:∀c∈coB t o m,c.1=c.2):coEx m o s z gn t h:=by
 rcases bool_cases (coX m o s) with hr | hr
 ·exact GenAt.of_run soundKC2 (own_of soundKC2 Tryz.func108 (by kernel_rfl)) ht (ra_ok hr hc _)
 ·exact GenAt.of_run soundKC2 (own_of soundKC2 Tryz.func108 (by kernel_rfl)) hf (ra_ok hr hc _)
theorem coF1 (o s:Nat→Int) (z gn t:Int) (h:Bool):coL 1 (coRn false 1 o s z gn t h)=coQ 1 o (ra 3 (coX 1 o s,false) (coB t o 1)) (coRn false 1 o s z gn t h):=by kernel_rfl
theorem coT1 (o s:Nat→Int) (z gn t:Int) (h:Bool):coL 1 (coRn true 1 o s z gn t h)=coQ 1 o (ra 3 (coX 1 o s,true) (coB t o 1)) (coRn true 1 o s z gn t h):=by kernel_rfl
theorem coF2 (o s:Nat→Int) (z gn t:Int) (h:Bool):coL 2 (coRn false 2 o s z gn t h)=coQ 2 o (ra 3 (coX 2 o s,false) (coB t o 2)) (coRn false 2 o s z gn t h):=by kernel_rfl
theorem coT2 (o s:Nat→Int) (z gn t:Int) (h:Bool):coL 2 (coRn true 2 o s z gn t h)=coQ 2 o (ra 3 (coX 2 o s,true) (coB t o 2)) (coRn true 2 o s z gn t h):=by kernel_rfl
theorem coF3 (o s:Nat→Int) (z gn t:Int) (h:Bool):coL 3 (coRn false 3 o s z gn t h)=coQ 3 o (ra 3 (coX 3 o s,false) (coB t o 3)) (coRn false 3 o s z gn t h):=by kernel_rfl
theorem coT3 (o s:Nat→Int) (z gn t:Int) (h:Bool):coL 3 (coRn true 3 o s z gn t h)=coQ 3 o (ra 3 (coX 3 o s,true) (coB t o 3)) (coRn true 3 o s z gn t h):=by kernel_rfl
theorem coF4 (o s:Nat→Int) (z gn t:Int) (h:Bool):coL 4 (coRn false 4 o s z gn t h)=coQ 4 o (ra 3 (coX 4 o s,false) (coB t o 4)) (coRn false 4 o s z gn t h):=by kernel_rfl
theorem coT4 (o s:Nat→Int) (z gn t:Int) (h:Bool):coL 4 (coRn true 4 o s z gn t h)=coQ 4 o (ra 3 (coX 4 o s,true) (coB t o 4)) (coRn true 4 o s z gn t h):=by kernel_rfl
theorem coF5 (o s:Nat→Int) (z gn t:Int) (h:Bool):coL 5 (coRn false 5 o s z gn t h)=coQ 5 o (ra 3 (coX 5 o s,false) (coB t o 5)) (coRn false 5 o s z gn t h):=by kernel_rfl
theorem coT5 (o s:Nat→Int) (z gn t:Int) (h:Bool):coL 5 (coRn true 5 o s z gn t h)=coQ 5 o (ra 3 (coX 5 o s,true) (coB t o 5)) (coRn true 5 o s z gn t h):=by kernel_rfl
theorem coF6 (o s:Nat→Int) (z gn t:Int) (h:Bool):coL 6 (coRn false 6 o s z gn t h)=coQ 6 o (ra 3 (coX 6 o s,false) (coB t o 6)) (coRn false 6 o s z gn t h):=by kernel_rfl
theorem coT6 (o s:Nat→Int) (z gn t:Int) (h:Bool):coL 6 (coRn true 6 o s z gn t h)=coQ 6 o (ra 3 (coX 6 o s,true) (coB t o 6)) (coRn true 6 o s z gn t h):=by kernel_rfl
theorem coF7 (o s:Nat→Int) (z gn t:Int) (h:Bool):coL 7 (coRn false 7 o s z gn t h)=coQ 7 o (ra 3 (coX 7 o s,false) (coB t o 7)) (coRn false 7 o s z gn t h):=by kernel_rfl
theorem coT7 (o s:Nat→Int) (z gn t:Int) (h:Bool):coL 7 (coRn true 7 o s z gn t h)=coQ 7 o (ra 3 (coX 7 o s,true) (coB t o 7)) (coRn true 7 o s z gn t h):=by kernel_rfl
theorem coF8 (o s:Nat→Int) (z gn t:Int) (h:Bool):coL 8 (coRn false 8 o s z gn t h)=coQ 8 o (ra 3 (coX 8 o s,false) (coB t o 8)) (coRn false 8 o s z gn t h):=by kernel_rfl
theorem coT8 (o s:Nat→Int) (z gn t:Int) (h:Bool):coL 8 (coRn true 8 o s z gn t h)=coQ 8 o (ra 3 (coX 8 o s,true) (coB t o 8)) (coRn true 8 o s z gn t h):=by kernel_rfl
theorem coF9 (o s:Nat→Int) (z gn t:Int) (h:Bool):coL 9 (coRn false 9 o s z gn t h)=coQ 9 o (ra 3 (coX 9 o s,false) (coB t o 9)) (coRn false 9 o s z gn t h):=by kernel_rfl
theorem coT9 (o s:Nat→Int) (z gn t:Int) (h:Bool):coL 9 (coRn true 9 o s z gn t h)=coQ 9 o (ra 3 (coX 9 o s,true) (coB t o 9)) (coRn true 9 o s z gn t h):=by kernel_rfl
theorem coF10 (o s:Nat→Int) (z gn t:Int) (h:Bool):coL 10 (coRn false 10 o s z gn t h)=coQ 10 o (ra 3 (coX 10 o s,false) (coB t o 10)) (coRn false 10 o s z gn t h):=by kernel_rfl
theorem coT10 (o s:Nat→Int) (z gn t:Int) (h:Bool):coL 10 (coRn true 10 o s z gn t h)=coQ 10 o (ra 3 (coX 10 o s,true) (coB t o 10)) (coRn true 10 o s z gn t h):=by kernel_rfl
theorem coF11 (o s:Nat→Int) (z gn t:Int) (h:Bool):coL 11 (coRn false 11 o s z gn t h)=coQ 11 o (ra 3 (coX 11 o s,false) (coB t o 11)) (coRn false 11 o s z gn t h):=by kernel_rfl
theorem coT11 (o s:Nat→Int) (z gn t:Int) (h:Bool):coL 11 (coRn true 11 o s z gn t h)=coQ 11 o (ra 3 (coX 11 o s,true) (coB t o 11)) (coRn true 11 o s z gn t h):=by kernel_rfl
theorem coF12 (o s:Nat→Int) (z gn t:Int) (h:Bool):coL 12 (coRn false 12 o s z gn t h)=coQ 12 o (ra 3 (coX 12 o s,false) (coB t o 12)) (coRn false 12 o s z gn t h):=by kernel_rfl
theorem coT12 (o s:Nat→Int) (z gn t:Int) (h:Bool):coL 12 (coRn true 12 o s z gn t h)=coQ 12 o (ra 3 (coX 12 o s,true) (coB t o 12)) (coRn true 12 o s z gn t h):=by kernel_rfl
theorem coF13 (o s:Nat→Int) (z gn t:Int) (h:Bool):coL 13 (coRn false 13 o s z gn t h)=coQ 13 o (ra 3 (coX 13 o s,false) (coB t o 13)) (coRn false 13 o s z gn t h):=by kernel_rfl
theorem coT13 (o s:Nat→Int) (z gn t:Int) (h:Bool):coL 13 (coRn true 13 o s z gn t h)=coQ 13 o (ra 3 (coX 13 o s,true) (coB t o 13)) (coRn true 13 o s z gn t h):=by kernel_rfl
theorem coF14 (o s:Nat→Int) (z gn t:Int) (h:Bool):coL 14 (coRn false 14 o s z gn t h)=coQ 14 o (ra 3 (coX 14 o s,false) (coB t o 14)) (coRn false 14 o s z gn t h):=by kernel_rfl
theorem coT14 (o s:Nat→Int) (z gn t:Int) (h:Bool):coL 14 (coRn true 14 o s z gn t h)=coQ 14 o (ra 3 (coX 14 o s,true) (coB t o 14)) (coRn true 14 o s z gn t h):=by kernel_rfl
theorem coF15 (o s:Nat→Int) (z gn t:Int) (h:Bool):coL 15 (coRn false 15 o s z gn t h)=coQ 15 o (ra 3 (coX 15 o s,false) (coB t o 15)) (coRn false 15 o s z gn t h):=by kernel_rfl
theorem coT15 (o s:Nat→Int) (z gn t:Int) (h:Bool):coL 15 (coRn true 15 o s z gn t h)=coQ 15 o (ra 3 (coX 15 o s,true) (coB t o 15)) (coRn true 15 o s z gn t h):=by kernel_rfl
theorem coF16 (o s:Nat→Int) (z gn t:Int) (h:Bool):coL 16 (coRn false 16 o s z gn t h)=coQ 16 o (ra 3 (coX 16 o s,false) (coB t o 16)) (coRn false 16 o s z gn t h):=by kernel_rfl
theorem coT16 (o s:Nat→Int) (z gn t:Int) (h:Bool):coL 16 (coRn true 16 o s z gn t h)=coQ 16 o (ra 3 (coX 16 o s,true) (coB t o 16)) (coRn true 16 o s z gn t h):=by kernel_rfl
theorem coF17 (o s:Nat→Int) (z gn t:Int) (h:Bool):coL 17 (coRn false 17 o s z gn t h)=coQ 17 o (ra 3 (coX 17 o s,false) (coB t o 17)) (coRn false 17 o s z gn t h):=by kernel_rfl
theorem coT17 (o s:Nat→Int) (z gn t:Int) (h:Bool):coL 17 (coRn true 17 o s z gn t h)=coQ 17 o (ra 3 (coX 17 o s,true) (coB t o 17)) (coRn true 17 o s z gn t h):=by kernel_rfl
theorem coF18 (o s:Nat→Int) (z gn t:Int) (h:Bool):coL 18 (coRn false 18 o s z gn t h)=coQ 18 o (ra 3 (coX 18 o s,false) (coB t o 18)) (coRn false 18 o s z gn t h):=by kernel_rfl
theorem coT18 (o s:Nat→Int) (z gn t:Int) (h:Bool):coL 18 (coRn true 18 o s z gn t h)=coQ 18 o (ra 3 (coX 18 o s,true) (coB t o 18)) (coRn true 18 o s z gn t h):=by kernel_rfl
theorem coOK:GenOK Tryz.prog 108 (genX Tryz.prog 108 coF):=by
 refine genX_ok fun args seen ks nb cs Sh hF hc=> ?_
 unfold coF at hF
 split at hF
 ·rename_i p po c co s t tf f1 f2 ef h tt o1 o2 es cells tp p1 p2 ep z gn sl
  split at hF
  ·rename_i m g1 g2 g3 g4
   cases hF
   have e1:=eqNs_ok g1
   have e2:=eqNs_ok g2
   simp only [List.cons.injEq,and_true] at e1
   obtain ⟨rfl,rfl,rfl,rfl,rfl,rfl,rfl,rfl,rfl,rfl,rfl,rfl,rfl,rfl,rfl,rfl⟩:=e1
   subst e2
   have es':=(allIB_ok g3).eq
   rw [←mkI_ints] at es'
   rw [es']
   unfold coK at g4
   split at g4
   ·rename_i b o l c
    split at g4
    ·rename_i q1 q2
     have e3:=eqNs_ok q1
     simp only [List.cons.injEq,and_true] at e3
     obtain ⟨rfl,rfl,rfl,rfl,rfl⟩:=e3
     have ec:=(allIB_ok q2).eq
     rw [←mkI_ints] at ec
     rw [ec] at hc ⊢
     exact coEx_of (m:=1) (coT1 _ _ _ _ _ _) (coF1 _ _ _ _ _ _) hc
    ·cases g4
   ·rename_i b m'
    split at g4
    ·rename_i q1 q2 q3 q4
     have e3:=eqNs_ok q1
     simp only [List.cons.injEq,and_true] at e3
     obtain ⟨rfl,rfl⟩:=e3
     have q2:=Nat.le_of_ble_eq_true q2
     have q3:=Nat.le_of_ble_eq_true q3
     have ec:=(allIB_ok q4).eq
     rw [←mkI_ints] at ec
     rw [ec] at hc ⊢
     obtain rfl | rfl | rfl | rfl | rfl | rfl | rfl | rfl | rfl | rfl | rfl | rfl | rfl | rfl | rfl | rfl | rfl:m'=2∨m'=3∨m'=4∨m'=5∨m'=6∨m'=7∨m'=8∨m'=9∨m'=10∨m'=11∨m'=12∨m'=13∨m'=14∨m'=15∨m'=16∨m'=17∨m'=18:=by omega
     ·exact coEx_of (m:=2) (coT2 _ _ _ _ _ _) (coF2 _ _ _ _ _ _) hc
     ·exact coEx_of (m:=3) (coT3 _ _ _ _ _ _) (coF3 _ _ _ _ _ _) hc
     ·exact coEx_of (m:=4) (coT4 _ _ _ _ _ _) (coF4 _ _ _ _ _ _) hc
     ·exact coEx_of (m:=5) (coT5 _ _ _ _ _ _) (coF5 _ _ _ _ _ _) hc
     ·exact coEx_of (m:=6) (coT6 _ _ _ _ _ _) (coF6 _ _ _ _ _ _) hc
     ·exact coEx_of (m:=7) (coT7 _ _ _ _ _ _) (coF7 _ _ _ _ _ _) hc
     ·exact coEx_of (m:=8) (coT8 _ _ _ _ _ _) (coF8 _ _ _ _ _ _) hc
     ·exact coEx_of (m:=9) (coT9 _ _ _ _ _ _) (coF9 _ _ _ _ _ _) hc
     ·exact coEx_of (m:=10) (coT10 _ _ _ _ _ _) (coF10 _ _ _ _ _ _) hc
     ·exact coEx_of (m:=11) (coT11 _ _ _ _ _ _) (coF11 _ _ _ _ _ _) hc
     ·exact coEx_of (m:=12) (coT12 _ _ _ _ _ _) (coF12 _ _ _ _ _ _) hc
     ·exact coEx_of (m:=13) (coT13 _ _ _ _ _ _) (coF13 _ _ _ _ _ _) hc
     ·exact coEx_of (m:=14) (coT14 _ _ _ _ _ _) (coF14 _ _ _ _ _ _) hc
     ·exact coEx_of (m:=15) (coT15 _ _ _ _ _ _) (coF15 _ _ _ _ _ _) hc
     ·exact coEx_of (m:=16) (coT16 _ _ _ _ _ _) (coF16 _ _ _ _ _ _) hc
     ·exact coEx_of (m:=17) (coT17 _ _ _ _ _ _) (coF17 _ _ _ _ _ _) hc
     ·exact coEx_of (m:=18) (coT18 _ _ _ _ _ _) (coF18 _ _ _ _ _ _) hc
    ·cases g4
   ·cases g4
  ·cases hF
 ·cases hF
end Go.Proofs.YtnlhpaidmiogbaaGreat

/- jac.Step: opaque; what calls strap.Step, over its formula. -/
namespace Go.Proofs.YtnlhpaidmiogbaaGreat
open Go.Lr
set_option linter.unusedVariables false
def jOfK:List LV→Bool
 | [.v (.agg la),.v (.agg lb)]=>allIB la 24&&allIB lb 8
 | _=>false
theorem jOfX (a b:Nat→Int) (hb:Bool):okX 61 576 ((runF Tryz.prog K37u Zl 20000 159 [A0,.v (.agg (mkI a 0 24)),.v (.agg (mkI b 0 8))] [(0,flag 61 hb)] 1 []).map (fun r=>(r.1,getM r.2.1 0,r.2.2.2)))=true:=by kernel_rfl
theorem jOfO:SumOK Tryz.prog 159 (accSum 61 (exF Tryz.prog 159 61 jOfK 576)):=by
 refine exF_run (z:=Zl) soundK37u (own_of soundK37u Tryz.func159 (by kernel_rfl)) fun args hb hok=> ?_
 unfold jOfK at hok
 split at hok
 ·simp only [Bool.and_eq_true] at hok
  have ea:=(allIB_ok hok.1).eq
  rw [←mkI_ints] at ea
  have eb:=(allIB_ok hok.2).eq
  rw [←mkI_ints] at eb
  rw [ea,eb]
  exact ⟨20000,[],jOfX _ _ hb⟩
 ·cases hok
noncomputable def J1:FuncId→Option SumK:=more K37u 159 (accSum 61 (exF Tryz.prog 159 61 jOfK 576))
theorem soundJ1:Sound Tryz.prog J1:=soundK37u.more jOfO
noncomputable def J2:FuncId→Option SumK:=more J1 160 (accSum 61 (autoF Tryz.prog J1 Zl 4000 160 61))
theorem soundJ2:Sound Tryz.prog J2:=soundJ1.more (autoF_ok soundJ1 (own_of soundJ1 Tryz.func160 (by kernel_rfl)))
def jStK:List LV→Bool
 | [.v (.agg la),.v (.agg lb),.v (.agg lc),.v (.agg ld)]=>allIB la 300&&allIB lb 24&&allIB lc 8&&allIB ld 24
 | _=>false
theorem jStX (a b c d:Nat→Int) (hb:Bool):okX 61 300 ((runF Tryz.prog J2 Zl 20000 101 [A0,.v (.agg (mkI a 0 300)),.v (.agg (mkI b 0 24)),.v (.agg (mkI c 0 8)),.v (.agg (mkI d 0 24))] [(0,flag 61 hb)] 1 []).map (fun r=>(r.1,getM r.2.1 0,r.2.2.2)))=true:=by kernel_rfl
theorem jStO:SumOK Tryz.prog 101 (accSum 61 (exF Tryz.prog 101 61 jStK 300)):=by
 refine exF_run (z:=Zl) soundJ2 (own_of soundJ2 Tryz.func101 (by kernel_rfl)) fun args hb hok=> ?_
 unfold jStK at hok
 split at hok
 ·simp only [Bool.and_eq_true] at hok
  have ea:=(allIB_ok hok.1.1.1).eq
  rw [←mkI_ints] at ea
  have eb:=(allIB_ok hok.1.1.2).eq
  rw [←mkI_ints] at eb
  have ec:=(allIB_ok hok.1.2).eq
  rw [←mkI_ints] at ec
  have ed:=(allIB_ok hok.2).eq
  rw [←mkI_ints] at ed
  rw [ea,eb,ec,ed]
  exact ⟨20000,[],jStX _ _ _ _ hb⟩
 ·cases hok
noncomputable def GF1:FuncId→Option SumK:=more (more G3 98 (accSum 61 (fxF Tryz.prog 98 61 stepG))) 101 (accSum 61 (exF Tryz.prog 101 61 jStK 300))
theorem soundGF1:Sound Tryz.prog GF1:=(soundG3.more sumStepF).more jStO
noncomputable def KPf:FuncId→Option SumK:=more K27u 98 (accSum 61 (fxF Tryz.prog 98 61 stepG))
theorem soundKPf:Sound Tryz.prog KPf:=soundK27u.more sumStepF
noncomputable def GF2:FuncId→Option SumK:=moreG GF1 47 (orGen (narG 1 61 (autoA Tryz.prog KPf Zl 4000 47)) (autoA Tryz.prog KPf Zl 4000 47))
theorem soundGF2:Sound Tryz.prog GF2:=soundGF1.moreG (orGen_ok (narG_ok (autoA_ok soundKPf (own_of soundKPf Tryz.func47 (by kernel_rfl)))) (autoA_ok soundKPf (own_of soundKPf Tryz.func47 (by kernel_rfl))))
end Go.Proofs.YtnlhpaidmiogbaaGreat

/- The filter over all that: Correct opaque. -/
namespace Go.Proofs.YtnlhpaidmiogbaaGreat
open Go.Lr
set_option linter.unusedVariables false
noncomputable def coD:List LV→List Nat→List Blk→Nat→Option Dl:=orGen (narG 1 61 (canG (genX Tryz.prog 108 coF))) (autoA Tryz.prog KC2 Zl 4000 108)
theorem coD_ok:GenOK Tryz.prog 108 coD:=orGen_ok (narG_ok (canG_ok coOK)) (autoA_ok soundKC2 (own_of soundKC2 Tryz.func108 (by kernel_rfl)))
noncomputable def GX1:FuncId→Option SumK:=moreG (moreG (more GF2 151 (accSum 61 (fxF Tryz.prog 151 61 vsG))) 147 vaD) 108 coD
theorem soundGX1:Sound Tryz.prog GX1:=((soundGF2.more sumScaleF).moreG vaD_ok).moreG coD_ok
noncomputable def KP1:FuncId→Option SumK:=moreG KPg 147 vaD
theorem soundKP1:Sound Tryz.prog KP1:=soundKPg.moreG vaD_ok
noncomputable def KP2:FuncId→Option SumK:=more KP1 96 (accSum 61 (autoF Tryz.prog KP1 Zl 2000 96 61))
theorem soundKP2:Sound Tryz.prog KP2:=soundKP1.more (autoF_ok soundKP1 (own_of soundKP1 Tryz.func96 (by kernel_rfl)))
noncomputable def GX2:FuncId→Option SumK:=moreG GX1 46 (narG 1 61 (autoA Tryz.prog KP2 Zl 4000 46))
theorem soundGX2:Sound Tryz.prog GX2:=soundGX1.moreG (narG_ok (autoA_ok soundKP2 (own_of soundKP2 Tryz.func46 (by kernel_rfl))))
end Go.Proofs.YtnlhpaidmiogbaaGreat

/- astrolabetop.awake: stage by stage; numbers behind the tilt do not matter. -/
namespace Go.Proofs.YtnlhpaidmiogbaaGreat
open Go.Lr
set_option linter.unusedVariables false
def zF:Md:=⟨false,false,false⟩
def wPar:List Go.Lr.P1:=[pI 8000,pI 40000,pI 16]++rp 7 (pI 5)++[pI 1000000,pI 1000000,pI 1000000,pI 1000000,pI 1000000,pI 1000000,pI 1048576,pI 1048576,pI 1048576,pI 1048576,pI 17179869184,pI 17179869184,pI 17179869184,pI 16384,pI 16384,pI 16384,pI 1024,pI 1024,pI 1024,pI 65536,pI 65536,pI 65536,pI 16384,pI 16384,pI 16384,pI 16384,pI 16384,pI 16384,pI 17179869184,pI 17179869184,pI 68719476736,pI 68719476736,pI 68719476736,pI 68719476736,pI 17592186044416,pI 17592186044416,pI 17592186044416,pI 17592186044416,pI 17592186044416,pI 17592186044416,pI 67108864,pI 67108864,pI 67108864,pI 4294967296,pI 4294967296,pI 4294967296,pI 17179869184,pI 17179869184,pI 17179869184,pI 17179869184,pI 17179869184,pI 17179869184,pI 17592186044416,pI 17592186044416,pI 5000000,pI 68719476736,pI 1,pI 268435456,pI 32,pI 0,pI 0,pI 0]
def wVar:List Go.Lr.P1:=[pI 68719476736,pI 68719476736,pI 68719476736,pI 68719476736,pI 17592186044416,pI 17592186044416,pI 17592186044416,pI 17592186044416,pI 17592186044416,pI 17592186044416,pI 67108864,pI 67108864,pI 67108864,pI 4294967296,pI 4294967296,pI 4294967296,pI 17179869184,pI 17179869184,pI 17179869184,pI 17179869184,pI 17179869184,pI 17179869184,pI 17592186044416,pI 17592186044416]
def wMon:List Go.Lr.P1:=[pI 0,pI 0,pB false,pI 0,pI 1000000,pI 5,pI 0,pI 0,pB false,pI 1,pI 1000000,pI 5,pI 0,pI 0,pB false,pI 2,pI 1000000,pI 5,pI 0,pI 0,pB false,pI 3,pI 1000000,pI 5,pI 0,pI 0,pB false,pI 4,pI 1000000,pI 5,pI 0,pI 0,pB false,pI 5,pI 1000000,pI 5,pI 0]
def wImu:List Go.Lr.P1:=[pI 8000,pI 0,pI 0,pI 0,pI 0,pI 0,pI (-84238486)]
def wPtr:List Go.Lr.P1:=[pL (.ptr 20 0),pL (.ptr 21 0),pL (.ptr 22 0),pL (.ptr 23 0),pL (.ptr 24 0),pL (.ptr 25 0),pL (.ptr 18 0)]
def wSum:List Go.Lr.P1:=[pI 1073741824]++rp 9 (pI 0)++[pL .nilsl]
def wFr:Nat×PB:=(16,⟨129,(0,0),0,[pI 0,pI 0,pI 0,pI 12157770197,pI 12239707452]⟩)
def wMo:Nat×PB:=(18,⟨184,(0,0),0,wMon⟩)
def wBuf (h:Int):List (Nat×PB):=[(20,⟨171,(0,0),0,[pI 0,pI 0,pI 0,pI 0,pI 0,pI 16,pL .nilsl,pI h]⟩),(21,⟨171,(0,0),0,[pI 0,pI 0,pI 0,pI 0,pI 0,pI 16,pL .nilsl,pI h]⟩),(22,⟨171,(0,0),0,[pI 0,pI 0,pI 0,pI 0,pI 0,pI 16,pL .nilsl,pI h]⟩),(23,⟨171,(0,0),0,[pI 0,pI 0,pI 0,pI 0,pI 0,pI 16,pL .nilsl,pI h]⟩),(24,⟨171,(0,0),0,[pI 0,pI 0,pI 0,pI 0,pI 0,pI 16,pL .nilsl,pI h]⟩),(25,⟨171,(0,0),0,[pI 0,pI 0,pI 0,pI 0,pI 0,pI 16,pL .nilsl,pI h]⟩)]
def pw_w0:PS:=⟨[],[],0⟩
theorem tw_w0 (s:Asg):ToP Tryz.prog 44 (c1 (bodyF Tryz.prog 9)) (⟨[],[],0⟩:Kst) .normal (Fil pw_w0):=ToP.run (z:=zF) (n:=20000) (dec:=[]) soundK37u (fun dead=>by kernel_rfl) (fun s=>by kernel_rfl) (by kernel_rfl)
def pw_w1:PS:=⟨[(1,.one (pL (.ptr 9 0))),(2,.one (pI 0))],[(9,⟨97,(0,0),0,wPar++[pB false,pI 1073741824]++rp 299 (pI 0)++wVar++[pL (.ptr 16 0),pL (.ptr 17 0),pL .nilsl]++wPtr++[pI 0,pI 0,pB false,pB false,pL (.ptr 19 0),pB false,pI 0,pI 0,pI 0,pI 0,pB false,pB false,pB false,pI 0,pI 0,pI 0]++wSum⟩),wFr,(17,⟨207,(0,0),0,[pI 8000]++rp 8 (pI 0)++[pB false]⟩),wMo,(19,⟨210,(0,0),0,[pI 32,pI 268435456,pL .nilsl]⟩)]++wBuf (-9223372036854775808),26⟩
theorem tw_w1 (s:Asg):ToP Tryz.prog 44 (c1 (c2 (bodyF Tryz.prog 9))) (filS s pw_w0) .normal (Fil pw_w1):=ToP.run (z:=zF) (n:=20000) (dec:=[]) soundK37u (fun dead=>by kernel_rfl) (fun s=>by kernel_rfl) (by kernel_rfl)
def pw_w2:PS:=⟨[(1,.one (pL (.ptr 9 0)))],[(9,⟨97,(0,0),0,wPar++[pB false,pI 1073741824]++rp 299 (pI 0)++wVar++[pL (.ptr 16 0),pL (.ptr 17 0),pL .nilsl]++wPtr++[pI 0,pI 0,pB false,pB false,pL (.ptr 19 0),pB false,pI 0,pI 0,pI 0,pI 0,pB false,pB false,pB false,pI 0,pI 0,pI 0]++wSum⟩),wFr,(17,⟨207,(0,0),0,[pI 8000]++rp 8 (pI 0)++[pB false]⟩),wMo,(19,⟨210,(0,0),0,[pI 32,pI 268435456,pL .nilsl]⟩)]++wBuf (-9223372036854775808),26⟩
theorem tw_w2 (s:Asg):ToP Tryz.prog 44 (c1 (c2 (c2 (bodyF Tryz.prog 9)))) (filS s pw_w1) .normal (Fil pw_w2):=ToP.run (z:=zF) (n:=20000) (dec:=[]) soundK37u (fun dead=>by kernel_rfl) (fun s=>by kernel_rfl) (by kernel_rfl)
def pw_w3:PS:=⟨[(1,.one (pL (.ptr 9 0))),(3,.one (pI 1))],[(9,⟨97,(0,0),0,wPar++[pB false,pI 1073741824]++rp 299 (pI 0)++wVar++[pL (.ptr 16 0),pL (.ptr 17 0),pL .nilsl]++wPtr++[pI 0,pI 0,pB false,pB false,pL (.ptr 19 0),pB false,pI 0,pI 0,pI 0,pI 0,pB false,pB false,pB false,pI 0,pI 0,pI 0]++wSum⟩),wFr,(17,⟨207,(0,0),0,[pI 8000]++rp 8 (pI 0)++[pB false]⟩),wMo,(19,⟨210,(0,0),0,[pI 32,pI 268435456,pL .nilsl]⟩)]++wBuf (-9223372036854775808),26⟩
theorem tw_w3 (s:Asg):ToP Tryz.prog 44 (c1 (c1 (c2 (c2 (c2 (bodyF Tryz.prog 9)))))) (filS s pw_w2) .normal (Fil pw_w3):=ToP.run (z:=zF) (n:=20000) (dec:=[]) soundK37u (fun dead=>by kernel_rfl) (fun s=>by kernel_rfl) (by kernel_rfl)
def pw_r1:PS:=⟨[(1,.one (pL (.ptr 9 0))),(3,.one (pI 2))],[(9,⟨97,(0,0),0,wPar++[pB false,pI 1073741824]++rp 299 (pI 0)++wVar++[pL (.ptr 16 0),pL (.ptr 17 0),pL (.slu 32 1)]++wPtr++[pI 0,pI 0,pB false,pB false,pL (.ptr 19 0),pB false,pI 0,pI 0,pI 0,pI 0,pB false,pB false,pB false,pI 0,pI 0,pI 0]++wSum⟩),wFr,(17,⟨207,(0,0),0,[pI 8000,pI 8000]++rp 7 (pI 0)++[pB true]⟩),wMo,(19,⟨210,(0,0),0,[pI 32,pI 268435456,pL .nilsl]⟩)]++wBuf (-9223372036854775808)++[(32,⟨66,(0,0),8,[pI 8000]++wImu⟩)],33⟩
theorem tw_r1 (s:Asg):ToP Tryz.prog 44 (c1 (c1 (c2 (c1 (c2 (c2 (c2 (bodyF Tryz.prog 9)))))))) (filS s pw_w3) .normal (Fil pw_r1):=ToP.run (z:=zF) (n:=20000) (dec:=[]) soundK37u (fun dead=>by kernel_rfl) (fun s=>by kernel_rfl) (by kernel_rfl)
def pw_r2:PS:=⟨[(1,.one (pL (.ptr 9 0))),(3,.one (pI 3))],[(9,⟨97,(0,0),0,wPar++[pB false,pI 1073741824]++rp 299 (pI 0)++wVar++[pL (.ptr 16 0),pL (.ptr 17 0),pL (.slu 39 2)]++wPtr++[pI 0,pI 0,pB false,pB false,pL (.ptr 19 0),pB false,pI 0,pI 0,pI 0,pI 0,pB false,pB false,pB false,pI 0,pI 0,pI 0]++wSum⟩),wFr,(17,⟨207,(0,0),0,[pI 8000,pI 16000]++rp 7 (pI 0)++[pB true]⟩),wMo,(19,⟨210,(0,0),0,[pI 32,pI 268435456,pL .nilsl]⟩)]++wBuf (-9223372036854775808)++[(39,⟨66,(0,0),8,[pI 8000]++wImu++[pI 16000]++wImu⟩)],40⟩
theorem tw_r2 (s:Asg):ToP Tryz.prog 44 (c1 (c1 (c2 (c1 (c2 (c2 (c2 (bodyF Tryz.prog 9)))))))) (filS s pw_r1) .normal (Fil pw_r2):=ToP.run (z:=zF) (n:=20000) (dec:=[]) soundK37u (fun dead=>by kernel_rfl) (fun s=>by kernel_rfl) (by kernel_rfl)
def pw_r3:PS:=⟨[(1,.one (pL (.ptr 9 0))),(3,.one (pI 4))],[(9,⟨97,(0,0),0,wPar++[pB false,pI 1073741824]++rp 299 (pI 0)++wVar++[pL (.ptr 16 0),pL (.ptr 17 0),pL (.slu 46 3)]++wPtr++[pI 0,pI 0,pB false,pB false,pL (.ptr 19 0),pB false,pI 0,pI 0,pI 0,pI 0,pB false,pB false,pB false,pI 0,pI 0,pI 0]++wSum⟩),wFr,(17,⟨207,(0,0),0,[pI 8000,pI 24000]++rp 7 (pI 0)++[pB true]⟩),wMo,(19,⟨210,(0,0),0,[pI 32,pI 268435456,pL .nilsl]⟩)]++wBuf (-9223372036854775808)++[(46,⟨66,(0,0),8,[pI 8000]++wImu++[pI 16000]++wImu++[pI 24000]++wImu⟩)],47⟩
theorem tw_r3 (s:Asg):ToP Tryz.prog 44 (c1 (c1 (c2 (c1 (c2 (c2 (c2 (bodyF Tryz.prog 9)))))))) (filS s pw_r2) .normal (Fil pw_r3):=ToP.run (z:=zF) (n:=20000) (dec:=[]) soundK37u (fun dead=>by kernel_rfl) (fun s=>by kernel_rfl) (by kernel_rfl)
def pw_r4:PS:=⟨[(1,.one (pL (.ptr 9 0))),(3,.one (pI 5))],[(9,⟨97,(0,0),0,wPar++[pB false,pI 1073741824]++rp 299 (pI 0)++wVar++[pL (.ptr 16 0),pL (.ptr 17 0),pL (.slu 53 4)]++wPtr++[pI 0,pI 0,pB false,pB false,pL (.ptr 19 0),pB false,pI 0,pI 0,pI 0,pI 0,pB false,pB false,pB false,pI 0,pI 0,pI 0]++wSum⟩),wFr,(17,⟨207,(0,0),0,[pI 8000,pI 32000]++rp 7 (pI 0)++[pB true]⟩),wMo,(19,⟨210,(0,0),0,[pI 32,pI 268435456,pL .nilsl]⟩)]++wBuf (-9223372036854775808)++[(53,⟨66,(0,0),8,[pI 8000]++wImu++[pI 16000]++wImu++[pI 24000]++wImu++[pI 32000]++wImu⟩)],54⟩
theorem tw_r4 (s:Asg):ToP Tryz.prog 44 (c1 (c1 (c2 (c1 (c2 (c2 (c2 (bodyF Tryz.prog 9)))))))) (filS s pw_r3) .normal (Fil pw_r4):=ToP.run (z:=zF) (n:=20000) (dec:=[]) soundK37u (fun dead=>by kernel_rfl) (fun s=>by kernel_rfl) (by kernel_rfl)
def pw_r5:PS:=⟨[(1,.one (pL (.ptr 9 0))),(3,.one (pI 6))],[(9,⟨97,(0,0),0,wPar++[pB false,pI 1073741824]++rp 299 (pI 0)++wVar++[pL (.ptr 16 0),pL (.ptr 17 0),pL (.slu 60 5)]++wPtr++[pI 0,pI 0,pB false,pB false,pL (.ptr 19 0),pB false,pI 0,pI 0,pI 0,pI 0,pB false,pB false,pB false,pI 0,pI 0,pI 0]++wSum⟩),wFr,(17,⟨207,(0,0),0,[pI 8000,pI 40000]++rp 7 (pI 0)++[pB true]⟩),wMo,(19,⟨210,(0,0),0,[pI 32,pI 268435456,pL .nilsl]⟩)]++wBuf (-9223372036854775808)++[(60,⟨66,(0,0),8,[pI 8000]++wImu++[pI 16000]++wImu++[pI 24000]++wImu++[pI 32000]++wImu++[pI 40000]++wImu⟩)],61⟩
theorem tw_r5 (s:Asg):ToP Tryz.prog 44 (c1 (c1 (c2 (c1 (c2 (c2 (c2 (bodyF Tryz.prog 9)))))))) (filS s pw_r4) .normal (Fil pw_r5):=ToP.run (z:=zF) (n:=20000) (dec:=[]) soundK37u (fun dead=>by kernel_rfl) (fun s=>by kernel_rfl) (by kernel_rfl)
def pw_r6:PS:=⟨[(1,.one (pL (.ptr 9 0))),(3,.one (pI 7))],[(9,⟨97,(0,0),0,wPar++[pB false,pI 1073741824]++rp 299 (pI 0)++wVar++[pL (.ptr 16 0),pL (.ptr 17 0),pL (.slu 69 5)]++wPtr++[pI 0,pI 0,pB false,pB false,pL (.ptr 19 0),pB false,pI 1,pI 0,pI 0,pI (-84238486),pB false,pB false,pB false,pI 0,pI 8000,pI 0]++wSum⟩),wFr,(17,⟨207,(0,0),0,[pI 8000,pI 48000]++rp 7 (pI 0)++[pB true]⟩),wMo,(19,⟨210,(0,0),0,[pI 32,pI 268435456,pL .nilsl]⟩)]++wBuf 8000++[(69,⟨66,(0,0),8,[pI 16000]++wImu++[pI 24000]++wImu++[pI 32000]++wImu++[pI 40000]++wImu++[pI 48000]++wImu⟩)],91⟩
theorem tw_r6 (s:Asg):ToP Tryz.prog 44 (c1 (c1 (c2 (c1 (c2 (c2 (c2 (bodyF Tryz.prog 9)))))))) (filS s pw_r5) .normal (Fil pw_r6):=ToP.run (z:=zF) (n:=20000) (dec:=[]) soundK37u (fun dead=>by kernel_rfl) (fun s=>by kernel_rfl) (by kernel_rfl)
def pw_r7:PS:=⟨[(1,.one (pL (.ptr 9 0))),(3,.one (pI 8))],[(9,⟨97,(0,0),0,wPar++[pB false,pI 1073741824]++rp 299 (pI 0)++wVar++[pL (.ptr 16 0),pL (.ptr 17 0),pL (.slu 99 5)]++wPtr++[pI 0,pI 0,pB false,pB false,pL (.ptr 19 0),pB false,pI 2,pI 0,pI 0,pI (-168476972),pB false,pB false,pB false,pI 0,pI 16000,pI 0]++wSum⟩),wFr,(17,⟨207,(0,0),0,[pI 8000,pI 56000]++rp 7 (pI 0)++[pB true]⟩),wMo,(19,⟨210,(0,0),0,[pI 32,pI 268435456,pL .nilsl]⟩)]++wBuf 16000++[(99,⟨66,(0,0),8,[pI 24000]++wImu++[pI 32000]++wImu++[pI 40000]++wImu++[pI 48000]++wImu++[pI 56000]++wImu⟩)],121⟩
theorem tw_r7 (s:Asg):ToP Tryz.prog 44 (c1 (c1 (c2 (c1 (c2 (c2 (c2 (bodyF Tryz.prog 9)))))))) (filS s pw_r6) .normal (Fil pw_r7):=ToP.run (z:=zF) (n:=20000) (dec:=[]) soundK37u (fun dead=>by kernel_rfl) (fun s=>by kernel_rfl) (by kernel_rfl)
def pw_r8:PS:=⟨[(1,.one (pL (.ptr 9 0))),(3,.one (pI 9))],[(9,⟨97,(0,0),0,wPar++[pB false,pI 1073741824]++rp 299 (pI 0)++wVar++[pL (.ptr 16 0),pL (.ptr 17 0),pL (.slu 129 5)]++wPtr++[pI 0,pI 0,pB false,pB false,pL (.ptr 19 0),pB false,pI 3,pI 0,pI 0,pI (-252715458),pB false,pB false,pB false,pI 0,pI 24000,pI 0]++wSum⟩),wFr,(17,⟨207,(0,0),0,[pI 8000,pI 64000]++rp 7 (pI 0)++[pB true]⟩),wMo,(19,⟨210,(0,0),0,[pI 32,pI 268435456,pL .nilsl]⟩)]++wBuf 24000++[(129,⟨66,(0,0),8,[pI 32000]++wImu++[pI 40000]++wImu++[pI 48000]++wImu++[pI 56000]++wImu++[pI 64000]++wImu⟩)],151⟩
theorem tw_r8 (s:Asg):ToP Tryz.prog 44 (c1 (c1 (c2 (c1 (c2 (c2 (c2 (bodyF Tryz.prog 9)))))))) (filS s pw_r7) .normal (Fil pw_r8):=ToP.run (z:=zF) (n:=20000) (dec:=[]) soundK37u (fun dead=>by kernel_rfl) (fun s=>by kernel_rfl) (by kernel_rfl)
def pw_r9:PS:=⟨[(1,.one (pL (.ptr 9 0))),(3,.one (pI 10))],[(9,⟨97,(0,0),0,wPar++[pB false,pI 1073741824]++rp 299 (pI 0)++wVar++[pL (.ptr 16 0),pL (.ptr 17 0),pL (.slu 159 5)]++wPtr++[pI 0,pI 0,pB false,pB false,pL (.ptr 19 0),pB false,pI 4,pI 0,pI 0,pI (-336953944),pB false,pB false,pB false,pI 0,pI 32000,pI 0]++wSum⟩),wFr,(17,⟨207,(0,0),0,[pI 8000,pI 72000]++rp 7 (pI 0)++[pB true]⟩),wMo,(19,⟨210,(0,0),0,[pI 32,pI 268435456,pL .nilsl]⟩)]++wBuf 32000++[(159,⟨66,(0,0),8,[pI 40000]++wImu++[pI 48000]++wImu++[pI 56000]++wImu++[pI 64000]++wImu++[pI 72000]++wImu⟩)],181⟩
theorem tw_r9 (s:Asg):ToP Tryz.prog 44 (c1 (c1 (c2 (c1 (c2 (c2 (c2 (bodyF Tryz.prog 9)))))))) (filS s pw_r8) .normal (Fil pw_r9):=ToP.run (z:=zF) (n:=20000) (dec:=[]) soundK37u (fun dead=>by kernel_rfl) (fun s=>by kernel_rfl) (by kernel_rfl)
def pw_r10:PS:=⟨[(1,.one (pL (.ptr 9 0))),(3,.one (pI 11))],[(9,⟨97,(0,0),0,wPar++[pB false,pI 1073741824]++rp 299 (pI 0)++wVar++[pL (.ptr 16 0),pL (.ptr 17 0),pL (.slu 189 5)]++wPtr++[pI 0,pI 0,pB false,pB false,pL (.ptr 19 0),pB false,pI 5,pI 0,pI 0,pI (-421192430),pB false,pB false,pB false,pI 0,pI 40000,pI 0]++wSum⟩),wFr,(17,⟨207,(0,0),0,[pI 8000,pI 80000]++rp 7 (pI 0)++[pB true]⟩),wMo,(19,⟨210,(0,0),0,[pI 32,pI 268435456,pL .nilsl]⟩)]++wBuf 40000++[(189,⟨66,(0,0),8,[pI 48000]++wImu++[pI 56000]++wImu++[pI 64000]++wImu++[pI 72000]++wImu++[pI 80000]++wImu⟩)],211⟩
theorem tw_r10 (s:Asg):ToP Tryz.prog 44 (c1 (c1 (c2 (c1 (c2 (c2 (c2 (bodyF Tryz.prog 9)))))))) (filS s pw_r9) .normal (Fil pw_r10):=ToP.run (z:=zF) (n:=20000) (dec:=[]) soundK37u (fun dead=>by kernel_rfl) (fun s=>by kernel_rfl) (by kernel_rfl)
def pw_r11:PS:=⟨[(1,.one (pL (.ptr 9 0))),(3,.one (pI 12))],[(9,⟨97,(0,0),0,wPar++[pB false,pI 1073741824]++rp 299 (pI 0)++wVar++[pL (.ptr 16 0),pL (.ptr 17 0),pL (.slu 219 5)]++wPtr++[pI 0,pI 0,pB false,pB false,pL (.ptr 19 0),pB false,pI 6,pI 0,pI 0,pI (-505430916),pB false,pB false,pB false,pI 0,pI 48000,pI 0]++wSum⟩),wFr,(17,⟨207,(0,0),0,[pI 8000,pI 88000]++rp 7 (pI 0)++[pB true]⟩),wMo,(19,⟨210,(0,0),0,[pI 32,pI 268435456,pL .nilsl]⟩)]++wBuf 48000++[(219,⟨66,(0,0),8,[pI 56000]++wImu++[pI 64000]++wImu++[pI 72000]++wImu++[pI 80000]++wImu++[pI 88000]++wImu⟩)],241⟩
theorem tw_r11 (s:Asg):ToP Tryz.prog 44 (c1 (c1 (c2 (c1 (c2 (c2 (c2 (bodyF Tryz.prog 9)))))))) (filS s pw_r10) .normal (Fil pw_r11):=ToP.run (z:=zF) (n:=20000) (dec:=[]) soundK37u (fun dead=>by kernel_rfl) (fun s=>by kernel_rfl) (by kernel_rfl)
def pw_r12:PS:=⟨[(1,.one (pL (.ptr 9 0))),(3,.one (pI 13))],[(9,⟨97,(0,0),0,wPar++[pB false,pI 1073741824]++rp 299 (pI 0)++wVar++[pL (.ptr 16 0),pL (.ptr 17 0),pL (.slu 249 5)]++wPtr++[pI 0,pI 0,pB false,pB false,pL (.ptr 19 0),pB false,pI 7,pI 0,pI 0,pI (-589669402),pB false,pB false,pB false,pI 0,pI 56000,pI 0]++wSum⟩),wFr,(17,⟨207,(0,0),0,[pI 8000,pI 96000]++rp 7 (pI 0)++[pB true]⟩),wMo,(19,⟨210,(0,0),0,[pI 32,pI 268435456,pL .nilsl]⟩)]++wBuf 56000++[(249,⟨66,(0,0),8,[pI 64000]++wImu++[pI 72000]++wImu++[pI 80000]++wImu++[pI 88000]++wImu++[pI 96000]++wImu⟩)],271⟩
theorem tw_r12 (s:Asg):ToP Tryz.prog 44 (c1 (c1 (c2 (c1 (c2 (c2 (c2 (bodyF Tryz.prog 9)))))))) (filS s pw_r11) .normal (Fil pw_r12):=ToP.run (z:=zF) (n:=20000) (dec:=[]) soundK37u (fun dead=>by kernel_rfl) (fun s=>by kernel_rfl) (by kernel_rfl)
def pw_r13:PS:=⟨[(1,.one (pL (.ptr 9 0))),(3,.one (pI 14))],[(9,⟨97,(0,0),0,wPar++[pB false,pI 1073741824]++rp 299 (pI 0)++wVar++[pL (.ptr 16 0),pL (.ptr 17 0),pL (.slu 279 5)]++wPtr++[pI 0,pI 0,pB false,pB false,pL (.ptr 19 0),pB false,pI 8,pI 0,pI 0,pI (-673907888),pB false,pB false,pB false,pI 0,pI 64000,pI 0]++wSum⟩),wFr,(17,⟨207,(0,0),0,[pI 8000,pI 104000]++rp 7 (pI 0)++[pB true]⟩),wMo,(19,⟨210,(0,0),0,[pI 32,pI 268435456,pL .nilsl]⟩)]++wBuf 64000++[(279,⟨66,(0,0),8,[pI 72000]++wImu++[pI 80000]++wImu++[pI 88000]++wImu++[pI 96000]++wImu++[pI 104000]++wImu⟩)],301⟩
theorem tw_r13 (s:Asg):ToP Tryz.prog 44 (c1 (c1 (c2 (c1 (c2 (c2 (c2 (bodyF Tryz.prog 9)))))))) (filS s pw_r12) .normal (Fil pw_r13):=ToP.run (z:=zF) (n:=20000) (dec:=[]) soundK37u (fun dead=>by kernel_rfl) (fun s=>by kernel_rfl) (by kernel_rfl)
def pw_r14:PS:=⟨[(1,.one (pL (.ptr 9 0))),(3,.one (pI 15))],[(9,⟨97,(0,0),0,wPar++[pB false,pI 1073741824]++rp 299 (pI 0)++wVar++[pL (.ptr 16 0),pL (.ptr 17 0),pL (.slu 309 5)]++wPtr++[pI 0,pI 0,pB false,pB false,pL (.ptr 19 0),pB false,pI 9,pI 0,pI 0,pI (-758146374),pB false,pB false,pB false,pI 0,pI 72000,pI 0]++wSum⟩),wFr,(17,⟨207,(0,0),0,[pI 8000,pI 112000]++rp 7 (pI 0)++[pB true]⟩),wMo,(19,⟨210,(0,0),0,[pI 32,pI 268435456,pL .nilsl]⟩)]++wBuf 72000++[(309,⟨66,(0,0),8,[pI 80000]++wImu++[pI 88000]++wImu++[pI 96000]++wImu++[pI 104000]++wImu++[pI 112000]++wImu⟩)],331⟩
theorem tw_r14 (s:Asg):ToP Tryz.prog 44 (c1 (c1 (c2 (c1 (c2 (c2 (c2 (bodyF Tryz.prog 9)))))))) (filS s pw_r13) .normal (Fil pw_r14):=ToP.run (z:=zF) (n:=20000) (dec:=[]) soundK37u (fun dead=>by kernel_rfl) (fun s=>by kernel_rfl) (by kernel_rfl)
def pw_r15:PS:=⟨[(1,.one (pL (.ptr 9 0))),(3,.one (pI 16))],[(9,⟨97,(0,0),0,wPar++[P1.hb,pI 1073741824]++rp 23 (pI 0)++rp 300 (P1.hi)++[pL (.ptr 16 0),pL (.ptr 17 0),pL (.slu 339 5)]++wPtr++[pI 1,pI 0,pB false,pB false,pL (.ptr 19 0),pB true,pI 10,pI 0,pI 0,pI (-842384860),pB true,pB false,pB false,pI 0,pI 80000,pI 0]++wSum⟩),wFr,(17,⟨207,(0,0),0,[pI 8000,pI 120000]++rp 7 (pI 0)++[pB true]⟩),wMo,(19,⟨210,(0,0),0,[pI 32,pI 268435456,pL (.slu 394 6)]⟩)]++wBuf 80000++[(339,⟨66,(0,0),8,[pI 88000]++wImu++[pI 96000]++wImu++[pI 104000]++wImu++[pI 112000]++wImu++[pI 120000]++wImu⟩),(394,⟨79,(0,0),11,[pI 80000,pI 1073741824]++rp 9 (pI 0)++[pI 88000]++rp 10 (P1.hi)++[pI 96000]++rp 10 (P1.hi)++[pI 104000]++rp 10 (P1.hi)++[pI 112000]++rp 10 (P1.hi)++[pI 120000]++rp 10 (P1.hi)⟩)],415⟩
theorem tw_r15 (s:Asg):ToP Tryz.prog 44 (c1 (c1 (c2 (c1 (c2 (c2 (c2 (bodyF Tryz.prog 9)))))))) (filS s pw_r14) .normal (Fil pw_r15):=ToP.run (z:=zF) (n:=20000) (dec:=[]) soundK37u (fun dead=>by kernel_rfl) (fun s=>by kernel_rfl) (by kernel_rfl)
def pw_rx:PS:=⟨[(1,.one (pL (.ptr 9 0)))],[(9,⟨97,(0,0),0,wPar++[P1.hb,pI 1073741824]++rp 23 (pI 0)++rp 300 (P1.hi)++[pL (.ptr 16 0),pL (.ptr 17 0),pL (.slu 339 5)]++wPtr++[pI 1,pI 0,pB false,pB false,pL (.ptr 19 0),pB true,pI 10,pI 0,pI 0,pI (-842384860),pB true,pB false,pB false,pI 0,pI 80000,pI 0]++wSum⟩),wFr,(17,⟨207,(0,0),0,[pI 8000,pI 120000]++rp 7 (pI 0)++[pB true]⟩),wMo,(19,⟨210,(0,0),0,[pI 32,pI 268435456,pL (.slu 394 6)]⟩)]++wBuf 80000++[(339,⟨66,(0,0),8,[pI 88000]++wImu++[pI 96000]++wImu++[pI 104000]++wImu++[pI 112000]++wImu++[pI 120000]++wImu⟩),(394,⟨79,(0,0),11,[pI 80000,pI 1073741824]++rp 9 (pI 0)++[pI 88000]++rp 10 (P1.hi)++[pI 96000]++rp 10 (P1.hi)++[pI 104000]++rp 10 (P1.hi)++[pI 112000]++rp 10 (P1.hi)++[pI 120000]++rp 10 (P1.hi)⟩)],415⟩
theorem tw_rx (s:Asg):ToP Tryz.prog 44 (c1 (c1 (c2 (c1 (c2 (c2 (c2 (bodyF Tryz.prog 9)))))))) (filS s pw_r15) (.exit 0) (Fil pw_rx):=ToP.run (z:=zF) (n:=20000) (dec:=[]) soundK37u (fun dead=>by kernel_rfl) (fun s=>by kernel_rfl) (by kernel_rfl)
def pw_w5:PS:=⟨[(1,.one (pL (.ptr 9 0))),(4,.one (pL (.ptr 417 0))),(5,.one (pB true))],[(9,⟨97,(0,0),0,wPar++[P1.hb,pI 1073741824]++rp 23 (pI 0)++rp 300 (P1.hi)++[pL (.ptr 16 0),pL (.ptr 17 0),pL (.slu 339 5)]++wPtr++[pI 1,pI 0,pB false,pB false,pL (.ptr 19 0),pB true,pI 10,pI 0,pI 0,pI (-842384860),pB true,pB false,pB false,pI 0,pI 80000,pI 0]++wSum⟩),wFr,(17,⟨207,(0,0),0,[pI 8000,pI 120000]++rp 7 (pI 0)++[pB true]⟩),wMo,(19,⟨210,(0,0),0,[pI 32,pI 268435456,pL (.slu 394 6)]⟩)]++wBuf 80000++[(339,⟨66,(0,0),8,[pI 88000]++wImu++[pI 96000]++wImu++[pI 104000]++wImu++[pI 112000]++wImu++[pI 120000]++wImu⟩),(394,⟨79,(0,0),11,[pI 80000,pI 1073741824]++rp 9 (pI 0)++[pI 88000]++rp 10 (P1.hi)++[pI 96000]++rp 10 (P1.hi)++[pI 104000]++rp 10 (P1.hi)++[pI 112000]++rp 10 (P1.hi)++[pI 120000]++rp 10 (P1.hi)⟩),(417,⟨79,(0,0),0,[pI 120000]++rp 10 (P1.hi)⟩)],418⟩
theorem tw_w5 (s:Asg):ToP Tryz.prog 44 (c1 (c2 (c2 (c2 (c2 (bodyF Tryz.prog 9)))))) (filS s pw_rx) .normal (Fil pw_w5):=ToP.run (z:=zF) (n:=20000) (dec:=[]) soundK37u (fun dead=>by kernel_rfl) (fun s=>by kernel_rfl) (by kernel_rfl)
def pw_w6:PS:=⟨[(0,.one (pB true))],[],419⟩
theorem tw_w6 (s:Asg):ToP Tryz.prog 44 (c1 (c2 (c2 (c2 (c2 (c2 (bodyF Tryz.prog 9))))))) (filS s pw_w5) .normal (Fil pw_w6):=ToP.run (z:=zF) (n:=20000) (dec:=[]) soundK37u (fun dead=>by kernel_rfl) (fun s=>by kernel_rfl) (by kernel_rfl)
def pw_w7:PS:=⟨[(0,.one (pB true))],[],419⟩
theorem tw_w7 (s:Asg):ToP Tryz.prog 44 (c2 (c2 (c2 (c2 (c2 (c2 (bodyF Tryz.prog 9))))))) (filS s pw_w6) .ret (Fil pw_w7):=ToP.run (z:=zF) (n:=20000) (dec:=[]) soundK37u (fun dead=>by kernel_rfl) (fun s=>by kernel_rfl) (by kernel_rfl)
theorem awkLoop (s:Asg):RdP Tryz.prog 44 (c1 (c1 (c2 (c1 (c2 (c2 (c2 (bodyF Tryz.prog 9)))))))) 16 (filS s pw_w3) (.exit 0) (Fil pw_rx):=by
 refine RdP.next (tw_r1 s) ?_
 rintro x ⟨s,rfl⟩
 refine RdP.next (tw_r2 s) ?_
 rintro x ⟨s,rfl⟩
 refine RdP.next (tw_r3 s) ?_
 rintro x ⟨s,rfl⟩
 refine RdP.next (tw_r4 s) ?_
 rintro x ⟨s,rfl⟩
 refine RdP.next (tw_r5 s) ?_
 rintro x ⟨s,rfl⟩
 refine RdP.next (tw_r6 s) ?_
 rintro x ⟨s,rfl⟩
 refine RdP.next (tw_r7 s) ?_
 rintro x ⟨s,rfl⟩
 refine RdP.next (tw_r8 s) ?_
 rintro x ⟨s,rfl⟩
 refine RdP.next (tw_r9 s) ?_
 rintro x ⟨s,rfl⟩
 refine RdP.next (tw_r10 s) ?_
 rintro x ⟨s,rfl⟩
 refine RdP.next (tw_r11 s) ?_
 rintro x ⟨s,rfl⟩
 refine RdP.next (tw_r12 s) ?_
 rintro x ⟨s,rfl⟩
 refine RdP.next (tw_r13 s) ?_
 rintro x ⟨s,rfl⟩
 refine RdP.next (tw_r14 s) ?_
 rintro x ⟨s,rfl⟩
 refine RdP.next (tw_r15 s) ?_
 rintro x ⟨s,rfl⟩
 exact RdP.last (by simp) (tw_rx s)
theorem awkAll:ToP Tryz.prog 44 (bodyF Tryz.prog 9) ⟨argsL 0 [],[],0⟩ .ret (Fil pw_w7):=by
 refine ToP.seq (by kernel_rfl) (tw_w0 ⟨fun _ _=>0,fun _ _=>false,fun _ _=>0,fun _ _=>false⟩) ?_
 rintro x ⟨s,rfl⟩
 refine ToP.seq (by kernel_rfl) (tw_w1 s) ?_
 rintro x ⟨s,rfl⟩
 refine ToP.seq (by kernel_rfl) (tw_w2 s) ?_
 rintro x ⟨s,rfl⟩
 refine ToP.seq (by kernel_rfl) (B:=Fil pw_rx) (ToP.seq (by kernel_rfl) (tw_w3 s) ?_) ?_
 ·rintro x ⟨s,rfl⟩
  exact ToP.block (id:=0) (e:= .exit 0) (by kernel_rfl) (ToP.loop (by kernel_rfl) (awkLoop s)) (.inl rfl)
 rintro x ⟨s,rfl⟩
 refine ToP.seq (by kernel_rfl) (tw_w5 s) ?_
 rintro x ⟨s,rfl⟩
 refine ToP.seq (by kernel_rfl) (tw_w6 s) ?_
 rintro x ⟨s,rfl⟩
 exact tw_w7 s
def awkS:List LV→Option (LV×List (Bool×Bool))
 | []=>some (.v (.one (.bool true)),[])
 | _=>none
theorem sumAwk:SumOK Tryz.prog 9 (pureSum awkS):=by
 refine pureSum_ok' fun args v cs hF hc hp hv w=> ?_
 unfold awkS at hF
 split at hF
 ·cases hF
  have ho:=own_of soundK37u Tryz.func9 (by kernel_rfl)
  refine pure_of_ToP (fn:=Tryz.f9) ho Tryz.func9 (c:=(bodyF Tryz.prog 9)) (by kernel_rfl) (by decide) (by decide) hp awkAll (.inr rfl) ?_ hv w
  rintro x ⟨s,rfl⟩ dead
  kernel_rfl
 ·cases hF
noncomputable def KAw:FuncId→Option SumK:=more K37u 9 (pureSum awkS)
theorem soundKAw:Sound Tryz.prog KAw:=soundK37u.more sumAwk
end Go.Proofs.YtnlhpaidmiogbaaGreat

/- A region in pieces: what lies ahead of a call, the call (walked into in pieces of its own), what lies behind it. -/
set_option linter.unusedVariables false
namespace Go.Lr
open Go.RowKit
theorem wp_then {P:Program} {o:Oper} {a:Act} {w:World} {next K:Act→World→Prop} {Q:Exit→Act→World→Prop} (h:o.wp P a w next (Exit.then K Q)):o.wp P a w next Q:=by
 unfold Oper.wp at *
 generalize (execOp a.eval o).run P w=r at *
 cases r with
 | ok n w'=>cases n <;> exact h
 | halt e w'=>cases e <;> exact h
theorem wpOps_then {P:Program} {ops:Array Oper} {Q:Exit→Act→World→Prop} {rest:List Nat}:∀(l:List Nat) (a:Act) (w:World),
  wpOps P ops (Exit.then (wpOps P ops Q rest) Q) l a w→wpOps P ops Q (l++rest) a w
 | [],a,w,h=>h
 | i::l,a,w,h=>by
  rw [List.cons_append,wpOps_cons]
  rw [wpOps_cons] at h
  unfold wpOp at *
  cases ho:ops[i]? with
  | none=>rw [ho] at h;exact wpOps_then l a w h
  | some o=>
   rw [ho] at h
   simp only at h ⊢
   split
   ·rename_i hw
    rw [if_pos hw] at h
    rcases h with h | h
    ·exact .inl (Oper.wp_mono (fun a w=>wpOps_then l a w) (wp_then h))
    ·exact .inr h
   ·rename_i hw
    rw [if_neg hw] at h
    exact wpOps_then l _ w h
def guardsIn (n:Nat):List Oper→Bool
 | []=>true
 | o::l=>match o.guard with
  | none=>guardsIn n l
  | some (j,_)=>match Nat.blt j n with
   | true=>guardsIn n l
   | false=>false
theorem guardsIn_ok {n:Nat}:∀{l:List Oper} {o:Oper} {j:Nat} {b:Bool},guardsIn n l=true→o∈l→o.guard=some (j,b)→j<n
 | [],_,_,_,_,h,_=>by cases h
 | x::l,o,j,b,h,hm,hg=>by
  unfold guardsIn at h
  rcases List.mem_cons.1 hm with rfl | hm
  ·rw [hg] at h
   simp only at h
   split at h
   ·rename_i h1;rw [nblt] at h1;simpa using h1
   ·cases h
  ·split at h
   ·exact guardsIn_ok h hm hg
   ·split at h
    ·exact guardsIn_ok h hm hg
    ·cases h
theorem wpOps_take {P:Program} {ops:Array Oper} {n:Nat} {Q:Exit→Act→World→Prop} (hg:guardsIn n (ops.toList.take n)=true):∀(l:List Nat) (a:Act) (w:World),(∀i∈l,i<n)→
  wpOps P (ops.toList.take n).toArray Q l a w→wpOps P ops Q l a w
 | [],a,w,_,h=>h
 | i::l,a,w,hl,h=>by
  have hget:∀j,j<n→(ops.toList.take n).toArray[j]? = ops[j]? :=by
   intro j hj
   rw [List.getElem?_toArray,List.getElem?_take_of_lt hj]
   simp
  have hi:=hl i (List.mem_cons_self ..)
  have hl':∀i∈l,i<n:=fun i hi=>hl i (List.mem_cons_of_mem _ hi)
  rw [wpOps_cons] at *
  unfold wpOp at *
  rw [hget i hi] at h
  cases ho:ops[i]? with
  | none=>rw [ho] at h;exact wpOps_take hg l a w hl' h
  | some o=>
   rw [ho] at h
   simp only at h ⊢
   have hw:Region.wanted o (yielded (ops.toList.take n).toArray a.tmps)=Region.wanted o (yielded ops a.tmps):=by
    unfold Region.wanted
    cases hgd:o.guard with
    | none=>rfl
    | some q=>
     obtain ⟨j,b⟩:=q
     have hmem:o∈ops.toList.take n:=by
      have:(ops.toList.take n)[i]? = some o:=by rw [List.getElem?_take_of_lt hi];simpa using ho
      exact List.mem_of_getElem? this
     have hj:=guardsIn_ok hg hmem hgd
     simp only [yielded,hget j hj]
   rw [hw] at h
   split
   ·rename_i hx
    rw [if_pos hx] at h
    rcases h with h | h
    ·exact .inl (Oper.wp_mono (fun a w h=>wpOps_take hg l a w hl' h) h)
    ·exact .inr h
   ·rename_i hx
    rw [if_neg hx] at h
    exact wpOps_take hg l _ w hl' h
def ToO (P:Program) (sz:Nat) (ops:Array Oper) (k m:Nat) (A:Kst) (B:Kst→Prop):Prop:=
 ∀E a w,KR E sz A a w→∀(Q:Exit→Act→World→Prop) (rest:List Nat),(∀B0,B B0→∀E' a' w',KR E' sz B0 a' w'→Ext w E A.ms w' E' B0.ms→wpOps P ops Q rest a' w')→wpOps P ops Q (List.range' k m++rest) a w
section
variable {P:Program} {S:FuncId→Option SumK} {z:Md} {sz:Nat}
theorem ToO.seq {ops:Array Oper} {k m m':Nat} {A:Kst} {B C:Kst→Prop} (h:ToO P sz ops k m A B) (g:∀x,B x→ToO P sz ops (k+m) m' x C):ToO P sz ops k (m+m') A C:=by
 intro E a w hr Q rest hQ
 have e:List.range' k (m+m')++rest=List.range' k m++(List.range' (k+m) m'++rest):=by
  rw [←List.append_assoc,List.range'_append_1]
 rw [e]
 refine h E a w hr Q _ fun B0 hB E' a' w' hr' hx=> ?_
 exact g B0 hB E' a' w' hr' Q rest fun C0 hC E'' a'' w'' hr'' hx''=>hQ C0 hC E'' a'' w'' hr'' (hx.trans hx'')
theorem ToO.mono {ops:Array Oper} {k m:Nat} {A:Kst} {B C:Kst→Prop} (h:ToO P sz ops k m A B) (g:∀x,B x→C x):ToO P sz ops k m A C:=
 fun E a w hr Q rest hQ=>h E a w hr Q rest fun B0 hB=>hQ B0 (g B0 hB)
def opsOf:Code→Array Oper
 | .region _ o _=>o
 | _=> #[]
def isReg:Code→Bool
 | .region _ _ false=>true
 | _=>false
theorem ToP.of_ToO {c:Code} {n:Nat} {A:Kst} {B:Kst→Prop} (hc:isReg c=true) (hn:Nat.beq (opsOf c).toList.length n=true) (h:ToO P sz (opsOf c) 0 n A B):ToP P sz c A .normal B:=by
 unfold isReg at hc
 split at hc
 ·rename_i id o
  intro E a w hr Q hQ
  refine wp_region ?_
  have hn':o.size=n:=by have:=Nat.eq_of_beq_eq_true hn;simpa [opsOf] using this
  have:=h E a w hr Q [] fun B0 hB E' a' w' hr' hx=>by
   show Q .normal a' w'
   exact hQ B0 hB E' a' w' hr' hx
  rw [List.append_nil] at this
  rw [List.range_eq_range',hn']
  exact this
 ·cases hc
theorem ToO.run2 (hs:Sound P S) {ops:Array Oper} {k m:Nat} {A:Kst} {p:PS2} {n:Nat} {dec:List (Option Bool)} {mask:List Bool} {os:List (Bool×Bool)} {es:List Ob}
  (hg:guardsIn (k+m) (ops.toList.take (k+m))=true) (hm:Nat.beq ((ops.toList.take (k+m)).drop k).length m=true)
  (hrun:∀dead,stageO p .normal mask (projS (p.live.map (·.1)) (p.mem.map (·.1)) (Go.Lr.exec P S z n (.ops (ops.toList.take (k+m)) ((ops.toList.take (k+m)).drop k)) (A.st sz dead dec)))=some (os,es))
  (hos:∀c∈os,c.1=c.2) (hes:AllOb es) (hB:∀s,KstOK (filS2 s p)) (hnb:Nat.ble A.nb p.nb=true):ToO P sz ops k m A (Fil2 p):=by
 intro E a w hk Q rest hQ
 have hr:=hk.toR dec
 have h:=hrun fun t=>a.tmps.getD t undef
 cases hp:projS (p.live.map (·.1)) (p.mem.map (·.1)) (Go.Lr.exec P S z n (.ops (ops.toList.take (k+m)) ((ops.toList.take (k+m)).drop k)) (A.st sz (fun t=>a.tmps.getD t undef) dec)) with
 | none=>rw [hp] at h;cases h
 | some q=>
  obtain ⟨e0,vs,bs,cs⟩:=q
  rw [hp] at h
  simp only [stageO] at h
  split at h
  ·rename_i he
   split at h
   ·rename_i es1 hv
    split at h
    ·rename_i es2 hb
     split at h
     ·rename_i os' ho
      simp only [Option.some.injEq,Prod.mk.injEq] at h
      obtain ⟨rfl,rfl⟩:=h
      have hcs:=openC_ok ho hos
      have:=exB_ok he
      subst this
      unfold projS at hp
      split at hp
      ·rename_i e' s' hex
       simp only [Option.some.injEq,Prod.mk.injEq] at hp
       obtain ⟨rfl,gv,gb,rfl⟩:=hp
       obtain ⟨q1,q2,q3,q4,q5,q6⟩:=(exec_sound (binOK P) hs.sums hs.mix hs.ng n).2.2.1 _ _ _ _ s' hex hk.le hr.st
       let s:Asg:=⟨fun k o=>iA (nthA ((getM s'.mem k).elim [] (·.cells)) o),fun k o=>bA (nthA ((getM s'.mem k).elim [] (·.cells)) o),fun k o=>iA (nthA (vCells (getT s'.tm k)) o),fun k o=>bA (nthA (vCells (getT s'.tm k)) o)⟩
       have e1:(p.live.map (·.1)).zip vs=filVs2 s p.live:=matVs2_ok (h:=getT s'.tm) hv hes.left gv fun k=>⟨rfl,rfl⟩
       obtain ⟨bs',rfl,e3⟩:=matBs2_ok (s:=s) (h:=getM s'.mem) hb hes.right gb fun k b hb=>⟨by show (fun o=>iA (nthA ((getM s'.mem k).elim [] (·.cells)) o))=_;rw [hb];rfl,by show (fun o=>bA (nthA ((getM s'.mem k).elim [] (·.cells)) o))=_;rw [hb];rfl⟩
       have hB':KstOK ⟨(p.live.map (·.1)).zip vs,(p.mem.map (·.1)).zip bs',p.nb⟩:=by rw [e1,e3];exact hB s
       have hnb':=Nat.le_of_ble_eq_true hnb
       have hm':=Nat.eq_of_beq_eq_true hm
       refine wpOps_then _ a w (wpOps_take hg _ a w (fun i hi=>by have:=List.mem_range'_1.1 hi;omega) ?_)
       have q7:=q6 hcs (ops.toList.take (k+m)).toArray k (by simp) rfl E a w hr
       rw [hm'] at q7
       refine q7 _ fun E' a' w' hr' hx=> ?_
       have hsub:=zip_getM (p.mem.map (·.1)) bs' (getM s'.mem) gb
       show wpOps P ops Q rest a' w'
       refine hQ (filS2 s p) ⟨s,rfl⟩ E' a' w' ?_ ?_
       ·have:filS2 s p=⟨(p.live.map (·.1)).zip vs,(p.mem.map (·.1)).zip bs',p.nb⟩:=by rw [e1,e3];rfl
        rw [this]
        refine ⟨hB',hr'.size.trans q4,hk.le,hr'.defers,fun q hq=> ?_,⟨fun i b hib=>hr'.m.rel.blk i b (hsub i b hib),fun i j hi hj he=>hr'.m.rel.inj i j ?_ ?_ he⟩⟩
        ·rw [hr'.tm q.1,zip_getT (p.live.map (·.1)) vs (getT s'.tm) gv q hq]
        ·obtain ⟨b,hib⟩:=Option.isSome_iff_exists.1 hi;simp [hsub i b hib]
        ·obtain ⟨b,hjb⟩:=Option.isSome_iff_exists.1 hj;simp [hsub j b hjb]
       ·have:(filS2 s p).ms=(Kst.mk ((p.live.map (·.1)).zip vs) ((p.mem.map (·.1)).zip bs') p.nb).ms:=by rw [e1,e3];rfl
        rw [this]
        refine ⟨hnb',hx.agree,hx.os,hx.tape,hx.output,hx.size,hx.frame,fun i hi=>hx.src i ?_⟩
        obtain ⟨b,hib⟩:=Option.isSome_iff_exists.1 hi
        simp [hsub i b hib]
      ·cases hp
     ·cases h
    ·cases h
   ·cases h
  ·cases h
theorem calls_of_ToP {f:FuncId} {fn:Func} {c:Code} {args:List LV} {m:Mem} {nb:Nat} {B:Kst→Prop} {e:Ex} {v:Kst→LV} (hf:P.funcs[f]? = some fn) (hb:fn.body=some c)
  (hle:fn.ntmps≤60000) (hargs:args.length≤fn.ntmps) (hA:∀u∈args,u.ok (below nb)=true) (hm:∀i b,getM m i=some b→i<nb∧okL (below nb) b.cells=true) (hu:uniq m)
  (h:ToP P fn.ntmps c ⟨argsL 0 args,m,nb⟩ e B) (he:e = .normal∨e = .ret)
  (hres:∀x,B x→∀dead,resultsD P fn.results.toList (getT (x.tm dead)) x.mem=some (v x)) (E:Env) (w:World) (hrel:Rel E (getM m) w):
  Calls P f (args.map (LV.den E)).toArray w fun e w'=>∃x E',B x∧e = .returned ((v x).den E')∧MRel E' x.ms w'∧Ext w E (Kst.ms ⟨argsL 0 args,m,nb⟩) w' E' x.ms:=by
 refine calls_of_wp hf hb (h E _ w ⟨⟨fun q hq=> ?_,(argsL_fst args 0).1,fun q hq=> ?_,hm,hu⟩,by simp;omega,hle,rfl,fun q hq=> ?_,hrel⟩ _ fun B0 hB E' a' w' hr' hx'=> ?_)
 ·have:=(argsL_mem args 0 q).1 hq
  have:=(List.getElem?_eq_some_iff.1 this.2).1
  omega
 ·exact hA q.2 (List.mem_of_getElem? ((argsL_mem args 0 q).1 hq).2)
 ·have:=((argsL_mem args 0 q).1 hq).2
  simp only [Nat.sub_zero] at this
  have hlt:=(List.getElem?_eq_some_iff.1 this).1
  simp only [Array.getD_eq_getD_getElem?,Array.getElem?_append,List.size_toArray,List.length_map]
  rw [if_pos hlt]
  simp [this]
 ·have hR:=hr'.toR []
  have hpost:bodyPost P fn (fun e w'=>∃x E',B x∧e = .returned ((v x).den E')∧MRel E' x.ms w'∧Ext w E (Kst.ms ⟨argsL 0 args,m,nb⟩) w' E' x.ms) .ret a' w':=
   ⟨hr'.defers,(v B0).den E',resultsD_spec hR.m.rel hR.tm (hres B0 hB _),B0,E',hB,rfl,⟨hr'.rel,hr'.ok.okM,hr'.ok.uq⟩,hx'⟩
  rcases he with rfl | rfl
  ·exact hpost
  ·exact hpost
def callOf (o:Option Oper):Option (Call×Tmp):=match o with
 | some o=>match o.op,o.dst,o.guard with
  | .call c,some t,none=>some (c,t)
  | _,_,_=>none
 | none=>none
theorem ToO.call (hs:Sound P S) {ops:Array Oper} {k:Nat} {A:Kst} {B:Kst→Prop} {cl:Call} {t:Tmp} {f:FuncId} {fn:Func} {c:Code} {args:List LV} {e:Ex} {v:Kst→LV} {live:List (Nat×LV)}
  (ho:callOf ops[k]? = some (cl,t)) (hcal:∀dead,callee (getT (A.tm dead)) cl=some (f,args)) (hf:P.funcs[f]? = some fn) (hb:fn.body=some c)
  (hle:Nat.ble fn.ntmps 60000=true) (hargs:Nat.ble (lenL args) fn.ntmps=true) (hlt:Nat.blt t sz=true)
  (h:ToP P fn.ntmps c ⟨argsL 0 args,A.mem,A.nb⟩ e B) (he:e = .normal∨e = .ret)
  (hres:∀x,B x→∀dead,resultsD P fn.results.toList (getT (x.tm dead)) x.mem=some (v x))
  (hl:∀q∈live,q∈A.live∧q.1≠t) (hB:∀x,B x→KstOK ⟨(t,v x)::live,x.mem,x.nb⟩):
  ToO P sz ops k 1 A (fun y=>∃x,B x∧y=⟨(t,v x)::live,x.mem,x.nb⟩):=by
 intro E a w hk Q rest hQ
 have hr:=hk.toR []
 rw [List.range'_one,List.singleton_append,wpOps_cons]
 unfold wpOp
 unfold callOf at ho
 cases hoo:ops[k]? with
 | none=>rw [hoo] at ho;cases ho
 | some o=>
  rw [hoo] at ho
  simp only at ho ⊢
  split at ho
  ·rename_i c0 t0 h1 h2 h3
   cases ho
   have hw:Region.wanted o (yielded ops a.tmps)=true:=by unfold Region.wanted;rw [h3]
   rw [if_pos hw]
   have hcal':=hcal fun t=>a.tmps.getD t undef
   have hao:∀u∈args,u.ok (below A.nb)=true:=callee_ok (fun t=>hr.okT t) hcal'
   have hle':=Nat.le_of_ble_eq_true hle
   have hargs':=Nat.le_of_ble_eq_true hargs
   rw [lenL_eq] at hargs'
   have hlt':t<sz:=by rw [nblt] at hlt;simpa using hlt
   refine .inl (CallOK.wp (R:=fun u w'=>∃x E',B x∧u=(v x).den E'∧MRel E' x.ms w'∧Ext w E (Kst.ms ⟨argsL 0 args,A.mem,A.nb⟩) w' E' x.ms) h1 (eval_tmp hr.tm) hcal' (.inl ⟨fn,hf,hs.ng f fn hf,by rw [hb];rfl, ?_⟩) ?_)
   ·refine (calls_of_ToP hf hb hle' hargs' hao hk.ok.okM hk.ok.uq h he hres E w hk.rel).mono fun e w' he=> ?_
    obtain ⟨x,E',g1,g2,g3,g4⟩:=he
    exact ⟨_,g2,x,E',g1,rfl,g3,g4⟩
   ·rintro u w' ⟨x,E',g1,rfl,g3,g4⟩
    have hag:∀i,below A.nb i=true→E' i=E i:=fun j hj=>g4.agree j (show j<A.nb by simpa [below] using hj)
    refine hQ _ ⟨x,g1,rfl⟩ E' _ w' ⟨hB x g1, ?_,hk.le, ?_,fun q hq=> ?_,g3.rel⟩ ?_
    ·rw [h2];simp [Act.put,hk.size]
    ·rw [h2];exact hk.defers
    ·rw [h2]
     simp only [Act.put]
     rw [getD_set _ _ _ _ (by rw [hk.size];exact hlt')]
     rcases List.mem_cons.1 hq with rfl | hq
     ·simp
     ·obtain ⟨l1,l2⟩:=hl q hq
      rw [if_neg l2,hk.tm q l1,LV.den_congr hag (hk.ok.okT q l1)]
    ·exact ⟨g4.nb,g4.agree,g4.os,g4.tape,g4.output,g4.size,g4.frame,g4.src⟩
  ·cases ho
end
end Go.Lr

/- A walk in pieces beside blocks that it does not touch. -/
set_option linter.unusedVariables false
namespace Go.Lr
open Go.RowKit
theorem getM_app:∀(m m2:Mem) (i:Nat),getM (m++m2) i=match getM m i with
  | some b=>some b
  | none=>getM m2 i
 | [],m2,i=>rfl
 | (j,c)::m,m2,i=>by
  rw [List.cons_append,getM_cons,getM_cons]
  by_cases h:i=j
  ·rw [if_pos h,if_pos h]
  ·rw [if_neg h,if_neg h];exact getM_app m m2 i
section
variable {P:Program} {sz:Nat}
theorem ToP.frame {c:Code} {live:List (Nat×LV)} {m m2:Mem} {nb:Nat} {e:Ex} {B:Kst→Prop} (h:ToP P sz c ⟨live,m,nb⟩ e B)
  (hA:KstOK ⟨live,m,nb⟩) (hd:∀i,(getM m2 i).isSome→getM m i=none) (hx:∀x,B x→∀i,(getM m2 i).isSome→getM x.mem i=none) (hB:∀x,B x→KstOK ⟨x.live,x.mem++m2,x.nb⟩):
  ToP P sz c ⟨live,m++m2,nb⟩ e (fun y=>∃x,B x∧y=⟨x.live,x.mem++m2,x.nb⟩):=by
 intro E a w hk Q hQ
 have hsub:∀i b,getM m i=some b→getM (m++m2) i=some b:=fun i b hi=>by rw [getM_app,hi]
 have hsub2:∀i b,getM m2 i=some b→getM (m++m2) i=some b:=fun i b hi=>by rw [getM_app,hd i (by rw [hi];rfl)];exact hi
 have hrel:Rel E (getM (m++m2)) w:=hk.rel
 have hk1:KR E sz ⟨live,m,nb⟩ a w:=⟨hA,hk.size,hk.le,hk.defers,hk.tm,hrel.sub hsub⟩
 refine h E a w hk1 Q fun x hxB E' a' w' hr hx'=> ?_
 refine hQ _ ⟨x,hxB,rfl⟩ E' a' w' ?_ ?_
 ·have hlt:∀i b,getM m2 i=some b→i<nb∧okL (below nb) b.cells=true:=fun i b hi=>hk.ok.okM i b (hsub2 i b hi)
  have hag:∀i,i<nb→E' i=E i:=hx'.agree
  have hblk2:∀i b,getM m2 i=some b→blkAt E' i b w':=by
   intro i b hi
   obtain ⟨l1,l2⟩:=hlt i b hi
   obtain ⟨r,u1,u2,u3⟩:=hrel.blk i b (hsub2 i b hi)
   refine ⟨r, ?_,u2,fun hz=>by rw [hag i l1];exact u3 hz⟩
   rw [hag i l1,hx'.frame _ (Array.getElem?_eq_some_iff.1 u1).1 fun q hq hqe=> ?_]
   ·rw [u1,denL_congr (E:=E) (E':=E') (p:=below nb) (fun t ht=>hag t (by simpa [below] using ht)) l2]
   ·obtain ⟨bq,hbq⟩:=Option.isSome_iff_exists.1 hq
    have hbq':getM m q=some bq:=hbq
    have:=hrel.inj q i (by rw [hsub q bq hbq'];rfl) (by rw [hsub2 i b hi];rfl) hqe
    subst this
    have:=hd q (by rw [hi];rfl)
    rw [hbq'] at this
    cases this
  have cross:∀i j,(getM x.mem i).isSome→(getM m2 j).isSome→(E' i).1=(E' j).1→False:=by
   intro i j hi hj he
   obtain ⟨b,hb⟩:=Option.isSome_iff_exists.1 hj
   obtain ⟨l1,l2⟩:=hlt j b hb
   obtain ⟨r,u1,u2,u3⟩:=hrel.blk j b (hsub2 j b hb)
   rw [hag j l1] at he
   rcases hx'.src i hi with hz | ⟨q,hq,hqe⟩
   ·have:=(Array.getElem?_eq_some_iff.1 u1).1
    omega
   ·obtain ⟨bq,hbq⟩:=Option.isSome_iff_exists.1 hq
    have hbq':getM m q=some bq:=hbq
    have:=hrel.inj q j (by rw [hsub q bq hbq'];rfl) (by rw [hsub2 j b hb];rfl) (hqe.symm.trans he)
    subst this
    have:=hd q hj
    rw [hbq'] at this
    cases this
  refine ⟨hB x hxB,hr.size,hr.le,hr.defers,hr.tm,⟨fun i b hi=> ?_,fun i j hi hj he=> ?_⟩⟩
  ·have hi':getM (x.mem++m2) i=some b:=hi
   rw [getM_app] at hi'
   cases hxi:getM x.mem i with
   | some c=>rw [hxi] at hi';cases hi';exact hr.rel.blk i _ hxi
   | none=>rw [hxi] at hi';exact hblk2 i b hi'
  ·have hi':(getM (x.mem++m2) i).isSome:=hi
   have hj':(getM (x.mem++m2) j).isSome:=hj
   rw [getM_app] at hi' hj'
   cases hxi:getM x.mem i with
   | some c=>
    cases hxj:getM x.mem j with
    | some c2=>exact hr.rel.inj i j (by rw [hxi];rfl) (by rw [hxj];rfl) he
    | none=>rw [hxj] at hj';exact (cross i j (by rw [hxi];rfl) hj' he).elim
   | none=>
    rw [hxi] at hi'
    cases hxj:getM x.mem j with
    | some c2=>exact (cross j i (by rw [hxj];rfl) hi' he.symm).elim
    | none=>
     rw [hxj] at hj'
     obtain ⟨b1,h1⟩:=Option.isSome_iff_exists.1 hi'
     obtain ⟨b2,h2⟩:=Option.isSome_iff_exists.1 hj'
     rw [hag i (hlt i b1 h1).1,hag j (hlt j b2 h2).1] at he
     exact hrel.inj i j (by rw [hsub2 i b1 h1];rfl) (by rw [hsub2 j b2 h2];rfl) he
 ·refine ⟨hx'.nb,hx'.agree,hx'.os,hx'.tape,hx'.output,hx'.size,fun b hb hn=>hx'.frame b hb fun i hi=> ?_,fun i hi=> ?_⟩
  ·obtain ⟨c,hc⟩:=Option.isSome_iff_exists.1 hi
   refine hn i ?_
   show (getM (m++m2) i).isSome
   rw [hsub i c hc];rfl
  ·have hi':(getM (x.mem++m2) i).isSome:=hi
   rw [getM_app] at hi'
   cases hxi:getM x.mem i with
   | some c=>
    rcases hx'.src i (by show (getM x.mem i).isSome;rw [hxi];rfl) with hz | ⟨q,hq,hqe⟩
    ·exact .inl hz
    ·obtain ⟨c2,hc2⟩:=Option.isSome_iff_exists.1 hq
     refine .inr ⟨q, ?_,hqe⟩
     show (getM (m++m2) q).isSome
     rw [hsub q c2 hc2];rfl
   | none=>
    rw [hxi] at hi'
    obtain ⟨b1,h1⟩:=Option.isSome_iff_exists.1 hi'
    refine .inr ⟨i, ?_, ?_⟩
    ·show (getM (m++m2) i).isSome
     rw [hsub2 i b1 h1];rfl
    ·rw [hx'.agree i (hk.ok.okM i b1 (hsub2 i b1 h1)).1]
variable {S:FuncId→Option SumK}
def callAt (τ:Nat→LV) (o:Option Oper):Option (FuncId×List LV×Tmp):=match callOf o with
 | some (c,t)=>match callee τ c with
  | some (f,args)=>some (f,args,t)
  | none=>none
 | none=>none
def keepLv (t:Nat) (ks:List Nat):List (Nat×LV)→List (Nat×LV)
 | []=>[]
 | q::l=>match memB ks q.1 with
  | true=>match Nat.beq q.1 t with
   | true=>keepLv t ks l
   | false=>q::keepLv t ks l
  | false=>keepLv t ks l
theorem keepLv_mem {t:Nat} {ks:List Nat}:∀{l:List (Nat×LV)},∀q∈keepLv t ks l,q∈l∧q.1≠t
 | [],q,h=>by cases h
 | x::l,q,h=>by
  unfold keepLv at h
  split at h
  ·split at h
   ·obtain ⟨a,b⟩:=keepLv_mem q h
    exact ⟨List.mem_cons_of_mem _ a,b⟩
   ·rename_i hb
    rcases List.mem_cons.1 h with rfl | h
    ·exact ⟨List.mem_cons_self ..,fun e=>by rw [e] at hb;simp at hb⟩
    ·obtain ⟨a,b⟩:=keepLv_mem q h
     exact ⟨List.mem_cons_of_mem _ a,b⟩
  ·obtain ⟨a,b⟩:=keepLv_mem q h
   exact ⟨List.mem_cons_of_mem _ a,b⟩
theorem ToO.callK (hs:Sound P S) {ops:Array Oper} {k:Nat} {A:Kst} {B:Kst→Prop} {t:Tmp} {f:FuncId} {fn:Func} {c:Code} {args:List LV} {e:Ex} {v:Kst→LV} (ks:List Nat)
  (hcal:∀dead,callAt (getT (A.tm dead)) ops[k]? = some (f,args,t)) (hf:P.funcs[f]? = some fn) (hb:fn.body=some c)
  (hle:Nat.ble fn.ntmps 60000=true) (hargs:Nat.ble (lenL args) fn.ntmps=true) (hlt:Nat.blt t sz=true)
  (h:ToP P fn.ntmps c ⟨argsL 0 args,A.mem,A.nb⟩ e B) (he:e = .normal∨e = .ret)
  (hres:∀x,B x→∀dead,resultsD P fn.results.toList (getT (x.tm dead)) x.mem=some (v x))
  (hB:∀x,B x→KstOK ⟨(t,v x)::keepLv t ks A.live,x.mem,x.nb⟩):
  ToO P sz ops k 1 A (fun y=>∃x,B x∧y=⟨(t,v x)::keepLv t ks A.live,x.mem,x.nb⟩):=by
 cases ho:callOf ops[k]? with
 | none=>
  have:=hcal fun _=>undef
  unfold callAt at this
  rw [ho] at this
  cases this
 | some q=>
  obtain ⟨cl,t'⟩:=q
  have key:∀dead,callee (getT (A.tm dead)) cl=some (f,args)∧t'=t:=by
   intro dead
   have:=hcal dead
   unfold callAt at this
   rw [ho] at this
   simp only at this
   split at this
   ·rename_i f' args' h1
    simp only [Option.some.injEq,Prod.mk.injEq] at this
    obtain ⟨rfl,rfl,rfl⟩:=this
    exact ⟨h1,rfl⟩
   ·cases this
  obtain rfl:=(key fun _=>undef).2
  exact ToO.call hs ho (fun dead=>(key dead).1) hf hb hle hargs hlt h he hres (fun q hq=>keepLv_mem q hq) hB
end
end Go.Lr

/- What the laws of an aided filter stand on. -/

