/- Joined texts. What each part proves stands ahead of it; no condition. -/
import Derived.Test.YtbpfipbhaagllaaGreatLrM5
import Derived.Test.YtbpfipbhaagllaaGreatLrM3
import Derived.Test.YtbpfipbhaagllaaGreatLrM2
set_option linter.unusedVariables false
set_option linter.unusedSimpArgs false
/- thornton.Step: the rounds of its loops. -/
namespace Go.Proofs.YtbpfipbhaagllaaGreat
open Go.Lr
set_option maxRecDepth 20000
abbrev j6 (h:Bool) (x0 x1 x2 x3 x4:List At):Mem:=[(0,flag 63 h),(4,⟨67,(0,0),0,x0⟩),(5,⟨259,(0,0),0,x1⟩),(6,⟨320,(0,0),0,x2⟩),(7,⟨67,(0,0),0,x3⟩),(8,⟨259,(0,0),0,x4⟩)]
abbrev JV (h:Bool) (x0 x1 x2 x3 x4:List At):List Blk:=[flag 63 h,⟨67,(0,0),0,x0⟩,⟨259,(0,0),0,x1⟩,⟨320,(0,0),0,x2⟩,⟨67,(0,0),0,x3⟩,⟨259,(0,0),0,x4⟩]
abbrev Kk (h:Bool) (x0 x1 x2 x3 x4:List At):List (Option Blk):=[some ⟨63,(0,0),0,[At.bool h]⟩,some ⟨67,(0,0),0,x0⟩,some ⟨259,(0,0),0,x1⟩,some ⟨320,(0,0),0,x2⟩,some ⟨67,(0,0),0,x3⟩,some ⟨259,(0,0),0,x4⟩]
abbrev qo (h:Bool) (x0 x1 x2 x3 x4:List At):Mem:=[(0,flag 63 h),(1,⟨67,(0,0),0,x0⟩),(2,⟨196,(0,0),0,x1⟩),(3,⟨25,(0,0),0,x2⟩),(4,⟨67,(0,0),0,x3⟩),(5,⟨259,(0,0),0,x4⟩)]
abbrev jaE (h:Bool) (x0 x1 x2 x3 x4:List At):List Blk:=[flag 63 h,⟨67,(0,0),0,x0⟩,⟨196,(0,0),0,x1⟩,⟨25,(0,0),0,x2⟩,⟨67,(0,0),0,x3⟩,⟨259,(0,0),0,x4⟩]
abbrev jaF (h:Bool) (x0 x1 x2 x3 x4:List At):List (Option Blk):=[some ⟨63,(0,0),0,[At.bool h]⟩,some ⟨67,(0,0),0,x0⟩,some ⟨196,(0,0),0,x1⟩,some ⟨25,(0,0),0,x2⟩,some ⟨67,(0,0),0,x3⟩,some ⟨259,(0,0),0,x4⟩]
abbrev KN (h:Bool) (x0 x1 x2 x3:List At):Mem:=[(0,flag 63 h),(4,⟨67,(0,0),0,x0⟩),(5,⟨259,(0,0),0,x1⟩),(6,⟨320,(0,0),0,x2⟩),(7,⟨67,(0,0),0,x3⟩)]
abbrev jiO (h:Bool) (x0 x1 x2 x3:List At):List Blk:=[flag 63 h,⟨67,(0,0),0,x0⟩,⟨259,(0,0),0,x1⟩,⟨320,(0,0),0,x2⟩,⟨67,(0,0),0,x3⟩]
abbrev jl5 (h:Bool) (x0 x1 x2 x3:List At):List (Option Blk):=[some ⟨63,(0,0),0,[At.bool h]⟩,some ⟨67,(0,0),0,x0⟩,some ⟨259,(0,0),0,x1⟩,some ⟨320,(0,0),0,x2⟩,some ⟨67,(0,0),0,x3⟩]
theorem sIR (dead:Nat→Value) (h:Bool) (p f q r e:List At):ju [0,5,6,7,8,9,24] [0,1,2,3,4,5] (exec Tryz.prog KA2 Zl 400 (.code (c1 (c1 (c2 (c2 (c2 (jj Tryz.prog 93))))))) (Kst.st ⟨[(0,A0),(5,PX 1),(6,PX 2),(7,PX 3),(8,PP 4),(9,PX 5)],(qo h p f q r e),6⟩ 147 dead []))=some (Ex.normal,[PP 0,PX 1,PX 2,PX 3,PP 4,PX 5,I 0],(jaF h p f q r e),[]):=by kernel_rfl
theorem sI (h:Bool) (p f q r e:List At) (hp:AllI p 300) (hf:AllI f 576) (hq:AllI q 24) (hr:AllI r 300) (he:AllI e 48):∃ (h':Bool) (p' f' q' r' e':List At),AllI p' 300∧AllI f' 576∧AllI q' 24∧AllI r' 300∧AllI e' 48∧To Tryz.prog 147 (c1 (c1 (c2 (c2 (c2 (jj Tryz.prog 93)))))) ⟨[(0,A0),(5,PX 1),(6,PX 2),(7,PX 3),(8,PP 4),(9,PX 5)],(qo h p f q r e),6⟩ .normal ⟨[(0,A0),(5,PX 1),(6,PX 2),(7,PX 3),(8,PP 4),(9,PX 5),(24,IK 0)],(qo h' p' f' q' r' e'),6⟩:=by
 refine ⟨(h),(p),(f),(q),(r),(e),aS,aS,aS,aS,aS,To.run (z:=Zl) jN (slots:=[0,5,6,7,8,9,24]) (blks:=[0,1,2,3,4,5]) (vs:=[A0,PX 1,PX 2,PX 3,PP 4,PX 5,IK 0]) (bs:=(jaE (h) p f q r e)) (nbB:=6) (fun dead=>sIR dead h p f q r e) rfl rfl rfl ?_ (jr rfl (mOF (mOC 300 (mOC 576 (mOC 24 (mOC 300 (mOC 48 jH))))))) (Nat.le_refl _)⟩
 have lnp:=hp.len
 have lnf:=hf.len
 have lnq:=hq.len
 have lnr:=hr.len
 have lne:=he.len
 repeat' first | exact jd | apply ja
theorem sAR (dead:Nat→Value) (h:Bool) (p f q r e:List At) (i:Nat):ju [0,5,6,7,8,9,24] [0,1,2,3,4,5] (xg Tryz.prog KA2 Zl 400 (kJ 2 (c1 (c1 (c2 (c1 (c2 (c2 (c2 (jj Tryz.prog 93))))))))) (Kst.st ⟨[(0,A0),(5,PX 1),(6,PX 2),(7,PX 3),(8,PP 4),(9,PX 5),(24,IK i)],(qo h p f q r e),6⟩ 147 dead [some true]))=some (Ex.normal,[PP 0,PX 1,PX 2,PX 3,PP 4,PX 5,I (i:Int)],(jaF h p f q r e),[(decide ((i:Int)<24),true)]):=by kernel_rfl
theorem sA (h:Bool) (p f q r e:List At) (i:Nat) (hp:AllI p 300) (hf:AllI f 576) (hq:AllI q 24) (hr:AllI r 300) (he:AllI e 48) (hi:i<24):∃ (h':Bool) (p' f' q' r' e':List At),AllI p' 300∧AllI f' 576∧AllI q' 24∧AllI r' 300∧AllI e' 48∧∀(ee:Ex) (CC:Kst),To Tryz.prog 147 (qg 2 (c1 (c1 (c2 (c1 (c2 (c2 (c2 (jj Tryz.prog 93))))))))) ⟨[(0,A0),(5,PX 1),(6,PX 2),(7,PX 3),(8,PP 4),(9,PX 5),(24,IK i)],(qo h' p' f' q' r' e'),6⟩ ee CC→To Tryz.prog 147 (c1 (c1 (c2 (c1 (c2 (c2 (c2 (jj Tryz.prog 93)))))))) ⟨[(0,A0),(5,PX 1),(6,PX 2),(7,PX 3),(8,PP 4),(9,PX 5),(24,IK i)],(qo h p f q r e),6⟩ ee CC:=by
 refine ⟨(h),(p),(f),(q),(r),(e),aS,aS,aS,aS,aS,fun ee CC hC=>To.spineR (k:=2) (z:=Zl) jN (slots:=[0,5,6,7,8,9,24]) (blks:=[0,1,2,3,4,5]) (vs:=[A0,PX 1,PX 2,PX 3,PP 4,PX 5,IK i]) (bs:=(jaE (h) p f q r e)) (nbB:=6) (by kernel_rfl) (fun dead=>sAR dead h p f q r e i) rfl rfl rfl ?_ (jr rfl (mOF (mOC 300 (mOC 576 (mOC 24 (mOC 300 (mOC 48 jH))))))) (Nat.le_refl _) hC⟩
 have lnp:=hp.len
 have lnf:=hf.len
 have lnq:=hq.len
 have lnr:=hr.len
 have lne:=he.len
 repeat' first | exact jd | apply ja
 all_goals first
  | (simp only [Bool.and_eq_true,hp.part,hp.ok,hf.part,hf.ok,hq.part,hq.ok,hr.part,hr.ok,he.part,he.ok,decide_eq_true_eq,true_and,and_true];omega)
theorem jxi (dead:Nat→Value) (h:Bool) (p f q r e:List At):ju [0,5,6,7,8,9] [0,1,2,3,4,5] (exec Tryz.prog KA2 Zl 400 (.code (c1 (c1 (c2 (c1 (c2 (c2 (c2 (jj Tryz.prog 93))))))))) (Kst.st ⟨[(0,A0),(5,PX 1),(6,PX 2),(7,PX 3),(8,PP 4),(9,PX 5),(24,IK 24)],(qo h p f q r e),6⟩ 147 dead []))=some (Ex.exit 0,[PP 0,PX 1,PX 2,PX 3,PP 4,PX 5],(jaF h p f q r e),[]):=by kernel_rfl
theorem sAe (h:Bool) (p f q r e:List At) (hp:AllI p 300) (hf:AllI f 576) (hq:AllI q 24) (hr:AllI r 300) (he:AllI e 48):∃ (h':Bool) (p' f' q' r' e':List At),AllI p' 300∧AllI f' 576∧AllI q' 24∧AllI r' 300∧AllI e' 48∧To Tryz.prog 147 (c1 (c1 (c2 (c1 (c2 (c2 (c2 (jj Tryz.prog 93)))))))) ⟨[(0,A0),(5,PX 1),(6,PX 2),(7,PX 3),(8,PP 4),(9,PX 5),(24,IK 24)],(qo h p f q r e),6⟩ (.exit 0) ⟨[(0,A0),(5,PX 1),(6,PX 2),(7,PX 3),(8,PP 4),(9,PX 5)],(qo h' p' f' q' r' e'),6⟩:=by
 refine ⟨(h),(p),(f),(q),(r),(e),aS,aS,aS,aS,aS,To.run (z:=Zl) jN (slots:=[0,5,6,7,8,9]) (blks:=[0,1,2,3,4,5]) (vs:=[A0,PX 1,PX 2,PX 3,PP 4,PX 5]) (bs:=(jaE (h) p f q r e)) (nbB:=6) (fun dead=>jxi dead h p f q r e) rfl rfl rfl ?_ (jr rfl (mOF (mOC 300 (mOC 576 (mOC 24 (mOC 300 (mOC 48 jH))))))) (Nat.le_refl _)⟩
 have lnp:=hp.len
 have lnf:=hf.len
 have lnq:=hq.len
 have lnr:=hr.len
 have lne:=he.len
 repeat' first | exact jd | apply ja
theorem sBR (dead:Nat→Value) (h:Bool) (p f q r e:List At) (i:Nat):ju [0,5,6,7,8,9,10,24] [0,1,2,3,4,5] (xg Tryz.prog KA2 Zl 400 (kJ 2 (c1 (c1 (c2 (c2 (c1 (c1 (c2 (c1 (c2 (c2 (c2 (jj Tryz.prog 93))))))))))))) (Kst.st ⟨[(0,A0),(5,PX 1),(6,PX 2),(7,PX 3),(8,PP 4),(9,PX 5),(24,IK i)],(qo h p f q r e),6⟩ 147 dead []))=some (Ex.normal,[PP 0,PX 1,PX 2,PX 3,PP 4,PX 5,I (i:Int),I (i:Int)],(jaF (h||jx (intAt q (0+(i:Int).toNat*1)) 0 72057594037927936) p f q r ((List.set (e.set (0+(i:Int).toNat*1) (At.int .i64 (intAt p (0+276+(i:Int).toNat*1))))) (0+(wr .i64 (24+(i:Int))).toNat*1) (At.int .i64 (jw (intAt q (0+(i:Int).toNat*1)) 0 72057594037927936)))),[(decide (0+(wr .i64 (24+(i:Int))).toNat*1<(e.set (0+(i:Int).toNat*1) (At.int .i64 (intAt p (0+276+(i:Int).toNat*1)))).length),true),(decide (0≤wr .i64 (24+(i:Int)))&&decide (wr .i64 (24+(i:Int))<48),true),(decide (0+(i:Int).toNat*1<e.length),true),(decide (0≤(i:Int))&&decide ((i:Int)<48),true),(isIntAt IntKind.i64 q (0+(i:Int).toNat*1),true),(decide (0≤(i:Int))&&decide ((i:Int)<24),true),(isIntAt IntKind.i64 p (0+276+(i:Int).toNat*1),true),(decide (0≤(i:Int))&&decide ((i:Int)<24),true)]):=by kernel_rfl
theorem sB (h:Bool) (p f q r e:List At) (i:Nat) (hp:AllI p 300) (hf:AllI f 576) (hq:AllI q 24) (hr:AllI r 300) (he:AllI e 48) (hi:i<24):∃ (h':Bool) (p' f' q' r' e':List At),AllI p' 300∧AllI f' 576∧AllI q' 24∧AllI r' 300∧AllI e' 48∧∀(ee:Ex) (CC:Kst),To Tryz.prog 147 (qg 2 (c1 (c1 (c2 (c2 (c1 (c1 (c2 (c1 (c2 (c2 (c2 (jj Tryz.prog 93))))))))))))) ⟨[(0,A0),(5,PX 1),(6,PX 2),(7,PX 3),(8,PP 4),(9,PX 5),(10,IK i),(24,IK i)],(qo h' p' f' q' r' e'),6⟩ ee CC→To Tryz.prog 147 (c1 (c1 (c2 (c2 (c1 (c1 (c2 (c1 (c2 (c2 (c2 (jj Tryz.prog 93)))))))))))) ⟨[(0,A0),(5,PX 1),(6,PX 2),(7,PX 3),(8,PP 4),(9,PX 5),(24,IK i)],(qo h p f q r e),6⟩ ee CC:=by
 refine ⟨((h||jx (intAt q (0+(i:Int).toNat*1)) 0 72057594037927936)),(p),(f),(q),(r),((List.set (e.set (0+(i:Int).toNat*1) (At.int .i64 (intAt p (0+276+(i:Int).toNat*1))))) (0+(wr .i64 (24+(i:Int))).toNat*1) (At.int .i64 (jw (intAt q (0+(i:Int).toNat*1)) 0 72057594037927936))),aS,aS,aS,aS,aS,fun ee CC hC=>To.spineR (k:=2) (z:=Zl) jN (slots:=[0,5,6,7,8,9,10,24]) (blks:=[0,1,2,3,4,5]) (vs:=[A0,PX 1,PX 2,PX 3,PP 4,PX 5,IK i,IK i]) (bs:=(jaE ((h||jx (intAt q (0+(i:Int).toNat*1)) 0 72057594037927936)) p f q r ((List.set (e.set (0+(i:Int).toNat*1) (At.int .i64 (intAt p (0+276+(i:Int).toNat*1))))) (0+(wr .i64 (24+(i:Int))).toNat*1) (At.int .i64 (jw (intAt q (0+(i:Int).toNat*1)) 0 72057594037927936))))) (nbB:=6) (by kernel_rfl) (fun dead=>sBR dead h p f q r e i) rfl rfl rfl ?_ (jr rfl (mOF (mOC 300 (mOC 576 (mOC 24 (mOC 300 (mOC 48 jH))))))) (Nat.le_refl _) hC⟩
 have lnp:=hp.len
 have lnf:=hf.len
 have lnq:=hq.len
 have lnr:=hr.len
 have lne:=he.len
 have e24:wr .i64 (24+(i:Int))=((24+i:Nat):Int):=by
  show w64 (24+(i:Int))=_
  rw [q9 (by omega) (by omega)];omega
 simp only [e24]
 repeat' first | exact jd | apply ja
 all_goals first
  | (with_reducible refine decide_eq_true ?_;(try simp only [Int.toNat_natCast,List.length_set]);omega)
  | (with_reducible refine AllI.ats (by assumption) _ ?_;simp only [Int.toNat_natCast];omega)
  | (simp only [Bool.and_eq_true,hp.part,hp.ok,hf.part,hf.ok,hq.part,hq.ok,hr.part,hr.ok,he.part,he.ok,decide_eq_true_eq,true_and,and_true];omega)
theorem sCR (dead:Nat→Value) (h:Bool) (p f q r e:List At) (i:Nat):ju [0,5,6,7,8,9,10,24,41] [0,1,2,3,4,5] (exec Tryz.prog KA2 Zl 400 (.code (c1 (c2 (c2 (c1 (c1 (c2 (c2 (c1 (c1 (c2 (c1 (c2 (c2 (c2 (jj Tryz.prog 93)))))))))))))))) (Kst.st ⟨[(0,A0),(5,PX 1),(6,PX 2),(7,PX 3),(8,PP 4),(9,PX 5),(10,IK i),(24,IK i)],(qo h p f q r e),6⟩ 147 dead []))=some (Ex.normal,[PP 0,PX 1,PX 2,PX 3,PP 4,PX 5,I (i:Int),I (i:Int),I 0],(jaF h p f q r e),[]):=by kernel_rfl
theorem sC (h:Bool) (p f q r e:List At) (i:Nat) (hp:AllI p 300) (hf:AllI f 576) (hq:AllI q 24) (hr:AllI r 300) (he:AllI e 48):∃ (h':Bool) (p' f' q' r' e':List At),AllI p' 300∧AllI f' 576∧AllI q' 24∧AllI r' 300∧AllI e' 48∧To Tryz.prog 147 (c1 (c2 (c2 (c1 (c1 (c2 (c2 (c1 (c1 (c2 (c1 (c2 (c2 (c2 (jj Tryz.prog 93))))))))))))))) ⟨[(0,A0),(5,PX 1),(6,PX 2),(7,PX 3),(8,PP 4),(9,PX 5),(10,IK i),(24,IK i)],(qo h p f q r e),6⟩ .normal ⟨[(0,A0),(5,PX 1),(6,PX 2),(7,PX 3),(8,PP 4),(9,PX 5),(10,IK i),(24,IK i),(41,IK 0)],(qo h' p' f' q' r' e'),6⟩:=by
 refine ⟨(h),(p),(f),(q),(r),(e),aS,aS,aS,aS,aS,To.run (z:=Zl) jN (slots:=[0,5,6,7,8,9,10,24,41]) (blks:=[0,1,2,3,4,5]) (vs:=[A0,PX 1,PX 2,PX 3,PP 4,PX 5,IK i,IK i,IK 0]) (bs:=(jaE (h) p f q r e)) (nbB:=6) (fun dead=>sCR dead h p f q r e i) rfl rfl rfl ?_ (jr rfl (mOF (mOC 300 (mOC 576 (mOC 24 (mOC 300 (mOC 48 jH))))))) (Nat.le_refl _)⟩
 have lnp:=hp.len
 have lnf:=hf.len
 have lnq:=hq.len
 have lnr:=hr.len
 have lne:=he.len
 repeat' first | exact jd | apply ja
theorem sDR (dead:Nat→Value) (h:Bool) (p f q r e:List At) (i k:Nat):ju [0,5,6,7,8,9,10,24,41] [0,1,2,3,4,5] (exec Tryz.prog KA2 Zl 400 (.code (c1 (c1 (c2 (c2 (c2 (c1 (c1 (c2 (c2 (c1 (c1 (c2 (c1 (c2 (c2 (c2 (jj Tryz.prog 93)))))))))))))))))) (Kst.st ⟨[(0,A0),(5,PX 1),(6,PX 2),(7,PX 3),(8,PP 4),(9,PX 5),(10,IK i),(24,IK i),(41,IK k)],(qo h p f q r e),6⟩ 147 dead [some true]))=some (Ex.normal,[PP 0,PX 1,PX 2,PX 3,PP 4,PX 5,I (i:Int),I (i:Int),I (wr .i64 ((k:Int)+1))],(jaF (h||jL (intAt f (0+(i:Int).toNat*24+(k:Int).toNat*1))) p ((List.set f) (0+(i:Int).toNat*24+(k:Int).toNat*1) (At.int .i64 (jf (intAt f (0+(i:Int).toNat*24+(k:Int).toNat*1))))) q r e),[(decide (0+(i:Int).toNat*24+(k:Int).toNat*1<f.length),true),(decide (0≤(k:Int))&&decide ((k:Int)<24),true),(decide (0≤(i:Int))&&decide ((i:Int)<24),true),(isIntAt IntKind.i64 f (0+(i:Int).toNat*24+(k:Int).toNat*1),true),(decide (0≤(k:Int))&&decide ((k:Int)<24),true),(decide (0≤(i:Int))&&decide ((i:Int)<24),true),(decide ((k:Int)<24),true)]):=by kernel_rfl
theorem sD (h:Bool) (p f q r e:List At) (i k:Nat) (hp:AllI p 300) (hf:AllI f 576) (hq:AllI q 24) (hr:AllI r 300) (he:AllI e 48) (hi:i<24) (hk:k<24):∃ (h':Bool) (p' f' q' r' e':List At),AllI p' 300∧AllI f' 576∧AllI q' 24∧AllI r' 300∧AllI e' 48∧To Tryz.prog 147 (c1 (c1 (c2 (c2 (c2 (c1 (c1 (c2 (c2 (c1 (c1 (c2 (c1 (c2 (c2 (c2 (jj Tryz.prog 93))))))))))))))))) ⟨[(0,A0),(5,PX 1),(6,PX 2),(7,PX 3),(8,PP 4),(9,PX 5),(10,IK i),(24,IK i),(41,IK k)],(qo h p f q r e),6⟩ .normal ⟨[(0,A0),(5,PX 1),(6,PX 2),(7,PX 3),(8,PP 4),(9,PX 5),(10,IK i),(24,IK i),(41,IK (k+1))],(qo h' p' f' q' r' e'),6⟩:=by
 refine ⟨((h||jL (intAt f (0+(i:Int).toNat*24+(k:Int).toNat*1)))),(p),((List.set f) (0+(i:Int).toNat*24+(k:Int).toNat*1) (At.int .i64 (jf (intAt f (0+(i:Int).toNat*24+(k:Int).toNat*1))))),(q),(r),(e),aS,aS,aS,aS,aS,To.run (z:=Zl) jN (slots:=[0,5,6,7,8,9,10,24,41]) (blks:=[0,1,2,3,4,5]) (vs:=[A0,PX 1,PX 2,PX 3,PP 4,PX 5,IK i,IK i,IK (k+1)]) (bs:=(jaE ((h||jL (intAt f (0+(i:Int).toNat*24+(k:Int).toNat*1)))) p ((List.set f) (0+(i:Int).toNat*24+(k:Int).toNat*1) (At.int .i64 (jf (intAt f (0+(i:Int).toNat*24+(k:Int).toNat*1))))) q r e)) (nbB:=6) (fun dead=>sDR dead h p f q r e i k) rfl (by rw [wk k (by omega)];rfl) rfl ?_ (jr rfl (mOF (mOC 300 (mOC 576 (mOC 24 (mOC 300 (mOC 48 jH))))))) (Nat.le_refl _)⟩
 have lnp:=hp.len
 have lnf:=hf.len
 have lnq:=hq.len
 have lnr:=hr.len
 have lne:=he.len
 repeat' first | exact jd | apply ja
 all_goals first
  | (with_reducible refine AllI.ats (by assumption) _ ?_;simp only [Int.toNat_natCast];omega)
  | (simp only [Bool.and_eq_true,hp.part,hp.ok,hf.part,hf.ok,hq.part,hq.ok,hr.part,hr.ok,he.part,he.ok,decide_eq_true_eq,true_and,and_true];omega)
theorem jxj (dead:Nat→Value) (h:Bool) (p f q r e:List At) (i:Nat):ju [0,5,6,7,8,9,10,24] [0,1,2,3,4,5] (exec Tryz.prog KA2 Zl 400 (.code (c1 (c1 (c2 (c2 (c2 (c1 (c1 (c2 (c2 (c1 (c1 (c2 (c1 (c2 (c2 (c2 (jj Tryz.prog 93)))))))))))))))))) (Kst.st ⟨[(0,A0),(5,PX 1),(6,PX 2),(7,PX 3),(8,PP 4),(9,PX 5),(10,IK i),(24,IK i),(41,IK 24)],(qo h p f q r e),6⟩ 147 dead []))=some (Ex.exit 2,[PP 0,PX 1,PX 2,PX 3,PP 4,PX 5,I (i:Int),I (i:Int)],(jaF h p f q r e),[]):=by kernel_rfl
theorem sDe (h:Bool) (p f q r e:List At) (i:Nat) (hp:AllI p 300) (hf:AllI f 576) (hq:AllI q 24) (hr:AllI r 300) (he:AllI e 48):∃ (h':Bool) (p' f' q' r' e':List At),AllI p' 300∧AllI f' 576∧AllI q' 24∧AllI r' 300∧AllI e' 48∧To Tryz.prog 147 (c1 (c1 (c2 (c2 (c2 (c1 (c1 (c2 (c2 (c1 (c1 (c2 (c1 (c2 (c2 (c2 (jj Tryz.prog 93))))))))))))))))) ⟨[(0,A0),(5,PX 1),(6,PX 2),(7,PX 3),(8,PP 4),(9,PX 5),(10,IK i),(24,IK i),(41,IK 24)],(qo h p f q r e),6⟩ (.exit 2) ⟨[(0,A0),(5,PX 1),(6,PX 2),(7,PX 3),(8,PP 4),(9,PX 5),(10,IK i),(24,IK i)],(qo h' p' f' q' r' e'),6⟩:=by
 refine ⟨(h),(p),(f),(q),(r),(e),aS,aS,aS,aS,aS,To.run (z:=Zl) jN (slots:=[0,5,6,7,8,9,10,24]) (blks:=[0,1,2,3,4,5]) (vs:=[A0,PX 1,PX 2,PX 3,PP 4,PX 5,IK i,IK i]) (bs:=(jaE (h) p f q r e)) (nbB:=6) (fun dead=>jxj dead h p f q r e i) rfl rfl rfl ?_ (jr rfl (mOF (mOC 300 (mOC 576 (mOC 24 (mOC 300 (mOC 48 jH))))))) (Nat.le_refl _)⟩
 have lnp:=hp.len
 have lnf:=hf.len
 have lnq:=hq.len
 have lnr:=hr.len
 have lne:=he.len
 repeat' first | exact jd | apply ja
theorem sER (dead:Nat→Value) (h:Bool) (p f q r e:List At) (i:Nat):ju [0,5,6,7,8,9,24] [0,1,2,3,4,5] (exec Tryz.prog KA2 Zl 400 (.code (c2 (c2 (c2 (c1 (c1 (c2 (c1 (c2 (c2 (c2 (jj Tryz.prog 93)))))))))))) (Kst.st ⟨[(0,A0),(5,PX 1),(6,PX 2),(7,PX 3),(8,PP 4),(9,PX 5),(10,IK i),(24,IK i)],(qo h p f q r e),6⟩ 147 dead []))=some (Ex.normal,[PP 0,PX 1,PX 2,PX 3,PP 4,PX 5,I (wr .i64 ((i:Int)+1))],(jaF h p f q r e),[]):=by kernel_rfl
theorem sE (h:Bool) (p f q r e:List At) (i:Nat) (hp:AllI p 300) (hf:AllI f 576) (hq:AllI q 24) (hr:AllI r 300) (he:AllI e 48) (hi:i<24):∃ (h':Bool) (p' f' q' r' e':List At),AllI p' 300∧AllI f' 576∧AllI q' 24∧AllI r' 300∧AllI e' 48∧To Tryz.prog 147 (c2 (c2 (c2 (c1 (c1 (c2 (c1 (c2 (c2 (c2 (jj Tryz.prog 93))))))))))) ⟨[(0,A0),(5,PX 1),(6,PX 2),(7,PX 3),(8,PP 4),(9,PX 5),(10,IK i),(24,IK i)],(qo h p f q r e),6⟩ .normal ⟨[(0,A0),(5,PX 1),(6,PX 2),(7,PX 3),(8,PP 4),(9,PX 5),(24,IK (i+1))],(qo h' p' f' q' r' e'),6⟩:=by
 refine ⟨(h),(p),(f),(q),(r),(e),aS,aS,aS,aS,aS,To.run (z:=Zl) jN (slots:=[0,5,6,7,8,9,24]) (blks:=[0,1,2,3,4,5]) (vs:=[A0,PX 1,PX 2,PX 3,PP 4,PX 5,IK (i+1)]) (bs:=(jaE (h) p f q r e)) (nbB:=6) (fun dead=>sER dead h p f q r e i) rfl (by rw [wk i (by omega)];rfl) rfl ?_ (jr rfl (mOF (mOC 300 (mOC 576 (mOC 24 (mOC 300 (mOC 48 jH))))))) (Nat.le_refl _)⟩
 have lnp:=hp.len
 have lnf:=hf.len
 have lnq:=hq.len
 have lnr:=hr.len
 have lne:=he.len
 repeat' first | exact jd | apply ja
theorem mNR (dead:Nat→Value) (h:Bool) (r e w:List At):ju [0,8,9,12,13] [0,4,5,6,7] (exec Tryz.prog KA2 Zl 400 (.code (c1 (c2 (c2 (c2 (c2 (c2 (jj Tryz.prog 93)))))))) (Kst.st ⟨[(0,A0),(8,PP 4),(9,PX 5),(12,PX 6)],[(0,flag 63 h),(4,⟨67,(0,0),0,r⟩),(5,⟨259,(0,0),0,e⟩),(6,⟨320,(0,0),0,w⟩)],7⟩ 147 dead []))=some (Ex.normal,[PP 0,PP 4,PX 5,PX 6,PP 7],[some { ty:=63,fr:=(0,0),es:=0,cells:=[At.bool h] },some { ty:=67,fr:=(0,0),es:=0,cells:=r },some { ty:=259,fr:=(0,0),es:=0,cells:=e },some { ty:=320,fr:=(0,0),es:=0,cells:=w },some ⟨67,(0,0),0,zc 67⟩],[]):=by kernel_rfl
theorem mN (h:Bool) (r e w:List At) (hr:AllI r 300) (he:AllI e 48) (hw:AllI w 1152):∃ (h':Bool) (r' e' w' o':List At),AllI r' 300∧AllI e' 48∧AllI w' 1152∧AllI o' 300∧To Tryz.prog 147 (c1 (c2 (c2 (c2 (c2 (c2 (jj Tryz.prog 93))))))) ⟨[(0,A0),(8,PP 4),(9,PX 5),(12,PX 6)],[(0,flag 63 h),(4,⟨67,(0,0),0,r⟩),(5,⟨259,(0,0),0,e⟩),(6,⟨320,(0,0),0,w⟩)],7⟩ .normal ⟨[(0,A0),(8,PP 4),(9,PX 5),(12,PX 6),(13,PP 7)],(KN h' r' e' w' o'),8⟩:=by
 refine ⟨(h),(r),(e),(w),(zc 67),aS,aS,aS,(by repeat' first | assumption | apply AllI.set | exact AllI.ints _ _ _ | exact AllI.mkF _ _ _ | exact jez | exact Zc | exact jiP | exact yK),To.run (z:=Zl) jN (slots:=[0,8,9,12,13]) (blks:=[0,4,5,6,7]) (vs:=[A0,PP 4,PX 5,PX 6,PP 7]) (bs:=(jiO (h) r e w (zc 67))) (nbB:=8) (fun dead=>mNR dead h r e w) rfl rfl rfl ?_ (jr rfl (mOF (mOC 300 (mOC 48 (mOC 1152 (jE (Nat.lt_of_sub_eq_succ rfl) (AllI.okb (n:=300) (by repeat' first | assumption | apply AllI.set | exact AllI.ints _ _ _ | exact AllI.mkF _ _ _ | exact jez | exact Zc | exact jiP | exact yK) _) rfl jH)))))) (Nat.le_of_ble_eq_true rfl)⟩
 have lnr:=hr.len
 have lne:=he.len
 have lnw:=hw.len
 repeat' first | exact jd | apply ja
theorem mIR (dead:Nat→Value) (h:Bool) (r e w o:List At):ju [0,8,9,12,13,14] [0,4,5,6,7] (exec Tryz.prog KA2 Zl 400 (.code (c1 (c1 (c2 (c2 (c2 (c2 (c2 (c2 (jj Tryz.prog 93)))))))))) (Kst.st ⟨[(0,A0),(8,PP 4),(9,PX 5),(12,PX 6),(13,PX 7)],(KN h r e w o),8⟩ 147 dead []))=some (Ex.normal,[PP 0,PP 4,PX 5,PX 6,PX 7,I 23],(jl5 h r e w o),[]):=by kernel_rfl
theorem mI (h:Bool) (r e w o:List At) (hr:AllI r 300) (he:AllI e 48) (hw:AllI w 1152) (ho:AllI o 300):∃ (h':Bool) (r' e' w' o':List At),AllI r' 300∧AllI e' 48∧AllI w' 1152∧AllI o' 300∧To Tryz.prog 147 (c1 (c1 (c2 (c2 (c2 (c2 (c2 (c2 (jj Tryz.prog 93))))))))) ⟨[(0,A0),(8,PP 4),(9,PX 5),(12,PX 6),(13,PX 7)],(KN h r e w o),8⟩ .normal ⟨[(0,A0),(8,PP 4),(9,PX 5),(12,PX 6),(13,PX 7),(14,I 23)],(KN h' r' e' w' o'),8⟩:=by
 refine ⟨(h),(r),(e),(w),(o),aS,aS,aS,aS,To.run (z:=Zl) jN (slots:=[0,8,9,12,13,14]) (blks:=[0,4,5,6,7]) (vs:=[A0,PP 4,PX 5,PX 6,PX 7,I 23]) (bs:=(jiO (h) r e w o)) (nbB:=8) (fun dead=>mIR dead h r e w o) rfl rfl rfl ?_ (jr rfl (mOF (mOC 300 (mOC 48 (mOC 1152 (mOC 300 jH)))))) (Nat.le_refl _)⟩
 have lnr:=hr.len
 have lne:=he.len
 have lnw:=hw.len
 have lno:=ho.len
 repeat' first | exact jd | apply ja
theorem mAR (dead:Nat→Value) (h:Bool) (r e w o:List At) (j:Nat):ju [0,8,9,12,13,14] [0,4,5,6,7] (exec Tryz.prog KA2 Zl 400 (.code (c1 (c1 (c1 (c2 (c1 (c2 (c2 (c2 (c2 (c2 (c2 (jj Tryz.prog 93))))))))))))) (Kst.st ⟨[(0,A0),(8,PP 4),(9,PX 5),(12,PX 6),(13,PX 7),(14,IK j)],(KN h r e w o),8⟩ 147 dead [some true]))=some (Ex.normal,[PP 0,PP 4,PX 5,PX 6,PX 7,I (j:Int)],(jl5 h r e w o),[(decide ((j:Int)≥0),true)]):=by kernel_rfl
theorem mA (h:Bool) (r e w o:List At) (j:Nat) (hr:AllI r 300) (he:AllI e 48) (hw:AllI w 1152) (ho:AllI o 300):∃ (h':Bool) (r' e' w' o':List At),AllI r' 300∧AllI e' 48∧AllI w' 1152∧AllI o' 300∧To Tryz.prog 147 (c1 (c1 (c1 (c2 (c1 (c2 (c2 (c2 (c2 (c2 (c2 (jj Tryz.prog 93)))))))))))) ⟨[(0,A0),(8,PP 4),(9,PX 5),(12,PX 6),(13,PX 7),(14,IK j)],(KN h r e w o),8⟩ .normal ⟨[(0,A0),(8,PP 4),(9,PX 5),(12,PX 6),(13,PX 7),(14,IK j)],(KN h' r' e' w' o'),8⟩:=by
 refine ⟨(h),(r),(e),(w),(o),aS,aS,aS,aS,To.run (z:=Zl) jN (slots:=[0,8,9,12,13,14]) (blks:=[0,4,5,6,7]) (vs:=[A0,PP 4,PX 5,PX 6,PX 7,IK j]) (bs:=(jiO (h) r e w o)) (nbB:=8) (fun dead=>mAR dead h r e w o j) rfl rfl rfl ?_ (jr rfl (mOF (mOC 300 (mOC 48 (mOC 1152 (mOC 300 jH)))))) (Nat.le_refl _)⟩
 have lnr:=hr.len
 have lne:=he.len
 have lnw:=hw.len
 have lno:=ho.len
 repeat' first | exact jd | apply ja
 all_goals first
  | (simp only [Bool.and_eq_true,hr.part,hr.ok,he.part,he.ok,hw.part,hw.ok,ho.part,ho.ok,decide_eq_true_eq,true_and,and_true];omega)
theorem jxk (dead:Nat→Value) (h:Bool) (r e w o:List At):ju [0,8,9,12,13] [0,4,5,6,7] (exec Tryz.prog KA2 Zl 400 (.code (c1 (c1 (c2 (c1 (c2 (c2 (c2 (c2 (c2 (c2 (jj Tryz.prog 93)))))))))))) (Kst.st ⟨[(0,A0),(8,PP 4),(9,PX 5),(12,PX 6),(13,PX 7),(14,I (23 - ((24:Nat):Int)))],(KN h r e w o),8⟩ 147 dead []))=some (Ex.exit 4,[PP 0,PP 4,PX 5,PX 6,PX 7],(jl5 h r e w o),[]):=by kernel_rfl
theorem mAe (h:Bool) (r e w o:List At) (hr:AllI r 300) (he:AllI e 48) (hw:AllI w 1152) (ho:AllI o 300):∃ (h':Bool) (r' e' w' o':List At),AllI r' 300∧AllI e' 48∧AllI w' 1152∧AllI o' 300∧To Tryz.prog 147 (c1 (c1 (c2 (c1 (c2 (c2 (c2 (c2 (c2 (c2 (jj Tryz.prog 93))))))))))) ⟨[(0,A0),(8,PP 4),(9,PX 5),(12,PX 6),(13,PX 7),(14,I (23 - ((24:Nat):Int)))],(KN h r e w o),8⟩ (.exit 4) ⟨[(0,A0),(8,PP 4),(9,PX 5),(12,PX 6),(13,PX 7)],(KN h' r' e' w' o'),8⟩:=by
 refine ⟨(h),(r),(e),(w),(o),aS,aS,aS,aS,To.run (z:=Zl) jN (slots:=[0,8,9,12,13]) (blks:=[0,4,5,6,7]) (vs:=[A0,PP 4,PX 5,PX 6,PX 7]) (bs:=(jiO (h) r e w o)) (nbB:=8) (fun dead=>jxk dead h r e w o) rfl rfl rfl ?_ (jr rfl (mOF (mOC 300 (mOC 48 (mOC 1152 (mOC 300 jH)))))) (Nat.le_refl _)⟩
 have lnr:=hr.len
 have lne:=he.len
 have lnw:=hw.len
 have lno:=ho.len
 repeat' first | exact jd | apply ja
theorem mBR (dead:Nat→Value) (h:Bool) (r e w o:List At) (j:Nat):ju [0,8,9,12,13,14,15] [0,4,5,6,7,8] (exec Tryz.prog KA2 Zl 400 (.code (c1 (c1 (c1 (c2 (c1 (c1 (c2 (c1 (c2 (c2 (c2 (c2 (c2 (c2 (jj Tryz.prog 93)))))))))))))))) (Kst.st ⟨[(0,A0),(8,PP 4),(9,PX 5),(12,PX 6),(13,PX 7),(14,IK j)],(KN h r e w o),8⟩ 147 dead []))=some (Ex.normal,[PP 0,PP 4,PX 5,PX 6,PX 7,I (j:Int),PP 8],[some { ty:=63,fr:=(0,0),es:=0,cells:=[At.bool h] },some { ty:=67,fr:=(0,0),es:=0,cells:=r },some { ty:=259,fr:=(0,0),es:=0,cells:=e },some { ty:=320,fr:=(0,0),es:=0,cells:=w },some { ty:=67,fr:=(0,0),es:=0,cells:=o },some ⟨259,(0,0),0,zc 259⟩],[]):=by kernel_rfl
theorem mB (h:Bool) (r e w o:List At) (j:Nat) (hr:AllI r 300) (he:AllI e 48) (hw:AllI w 1152) (ho:AllI o 300):∃ (h':Bool) (r' e' w' o' y':List At),AllI r' 300∧AllI e' 48∧AllI w' 1152∧AllI o' 300∧AllI y' 48∧To Tryz.prog 147 (c1 (c1 (c1 (c2 (c1 (c1 (c2 (c1 (c2 (c2 (c2 (c2 (c2 (c2 (jj Tryz.prog 93))))))))))))))) ⟨[(0,A0),(8,PP 4),(9,PX 5),(12,PX 6),(13,PX 7),(14,IK j)],(KN h r e w o),8⟩ .normal ⟨[(0,A0),(8,PP 4),(9,PX 5),(12,PX 6),(13,PX 7),(14,IK j),(15,PP 8)],(j6 h' r' e' w' o' y'),9⟩:=by
 refine ⟨(h),(r),(e),(w),(o),(zc 259),aS,aS,aS,aS,(by repeat' first | assumption | apply AllI.set | exact AllI.ints _ _ _ | exact AllI.mkF _ _ _ | exact jez | exact Zc | exact jiP | exact yK),To.run (z:=Zl) jN (slots:=[0,8,9,12,13,14,15]) (blks:=[0,4,5,6,7,8]) (vs:=[A0,PP 4,PX 5,PX 6,PX 7,IK j,PP 8]) (bs:=(JV (h) r e w o (zc 259))) (nbB:=9) (fun dead=>mBR dead h r e w o j) rfl rfl rfl ?_ (jr rfl (mOF (mOC 300 (mOC 48 (mOC 1152 (mOC 300 (jE (Nat.lt_of_sub_eq_succ rfl) (AllI.okb (n:=48) (by repeat' first | assumption | apply AllI.set | exact AllI.ints _ _ _ | exact AllI.mkF _ _ _ | exact jez | exact Zc | exact jiP | exact yK) _) rfl jH))))))) (Nat.le_of_ble_eq_true rfl)⟩
 have lnr:=hr.len
 have lne:=he.len
 have lnw:=hw.len
 have lno:=ho.len
 repeat' first | exact jd | apply ja
theorem mCR (dead:Nat→Value) (h:Bool) (r e w o y:List At) (j:Nat):ju [0,8,9,12,13,14,15,64] [0,4,5,6,7,8] (exec Tryz.prog KA2 Zl 400 (.code (c1 (c1 (c2 (c1 (c1 (c2 (c1 (c1 (c2 (c1 (c2 (c2 (c2 (c2 (c2 (c2 (jj Tryz.prog 93)))))))))))))))))) (Kst.st ⟨[(0,A0),(8,PP 4),(9,PX 5),(12,PX 6),(13,PX 7),(14,IK j),(15,PX 8)],(j6 h r e w o y),9⟩ 147 dead []))=some (Ex.normal,[PP 0,PP 4,PX 5,PX 6,PX 7,I (j:Int),PX 8,I 0],(Kk h r e w o y),[]):=by kernel_rfl
theorem mC (h:Bool) (r e w o y:List At) (j:Nat) (hr:AllI r 300) (he:AllI e 48) (hw:AllI w 1152) (ho:AllI o 300) (hy:AllI y 48):∃ (h':Bool) (r' e' w' o' y':List At),AllI r' 300∧AllI e' 48∧AllI w' 1152∧AllI o' 300∧AllI y' 48∧To Tryz.prog 147 (c1 (c1 (c2 (c1 (c1 (c2 (c1 (c1 (c2 (c1 (c2 (c2 (c2 (c2 (c2 (c2 (jj Tryz.prog 93))))))))))))))))) ⟨[(0,A0),(8,PP 4),(9,PX 5),(12,PX 6),(13,PX 7),(14,IK j),(15,PX 8)],(j6 h r e w o y),9⟩ .normal ⟨[(0,A0),(8,PP 4),(9,PX 5),(12,PX 6),(13,PX 7),(14,IK j),(15,PX 8),(64,IK 0)],(j6 h' r' e' w' o' y'),9⟩:=by
 refine ⟨(h),(r),(e),(w),(o),(y),aS,aS,aS,aS,aS,To.run (z:=Zl) jN (slots:=[0,8,9,12,13,14,15,64]) (blks:=[0,4,5,6,7,8]) (vs:=[A0,PP 4,PX 5,PX 6,PX 7,IK j,PX 8,IK 0]) (bs:=(JV (h) r e w o y)) (nbB:=9) (fun dead=>mCR dead h r e w o y j) rfl rfl rfl ?_ (jr rfl (mOF (mOC 300 (mOC 48 (mOC 1152 (mOC 300 (mOC 48 jH))))))) (Nat.le_refl _)⟩
 have lnr:=hr.len
 have lne:=he.len
 have lnw:=hw.len
 have lno:=ho.len
 have lny:=hy.len
 repeat' first | exact jd | apply ja
theorem mDR (dead:Nat→Value) (h:Bool) (r e w o y:List At) (j m:Nat):ju [0,8,9,12,13,14,15,64] [0,4,5,6,7,8] (exec Tryz.prog KA2 Zl 400 (.code (c1 (c1 (c2 (c1 (c2 (c1 (c1 (c2 (c1 (c1 (c2 (c1 (c2 (c2 (c2 (c2 (c2 (c2 (jj Tryz.prog 93)))))))))))))))))))) (Kst.st ⟨[(0,A0),(8,PP 4),(9,PX 5),(12,PX 6),(13,PX 7),(14,IK j),(15,PX 8),(64,IK m)],(j6 h r e w o y),9⟩ 147 dead [some true]))=some (Ex.normal,[PP 0,PP 4,PX 5,PX 6,PX 7,I (j:Int),PX 8,I (wr .i64 ((m:Int)+1))],(Kk (h||Xk (intAt w (0+(j:Int).toNat*48+(m:Int).toNat*1)) (intAt e (0+(m:Int).toNat*1)) 30) r e w o ((List.set y) (0+(m:Int).toNat*1) (At.int .i64 (kY (intAt w (0+(j:Int).toNat*48+(m:Int).toNat*1)) (intAt e (0+(m:Int).toNat*1)) 30)))),[(decide (0+(m:Int).toNat*1<y.length),true),(decide (0≤(m:Int))&&decide ((m:Int)<48),true),(isIntAt IntKind.i64 e (0+(m:Int).toNat*1),true),(decide (0≤(m:Int))&&decide ((m:Int)<48),true),(isIntAt IntKind.i64 w (0+(j:Int).toNat*48+(m:Int).toNat*1),true),(decide (0≤(m:Int))&&decide ((m:Int)<48),true),(decide (0≤(j:Int))&&decide ((j:Int)<24),true),(decide ((m:Int)<48),true)]):=by kernel_rfl
theorem mD (h:Bool) (r e w o y:List At) (j m:Nat) (hr:AllI r 300) (he:AllI e 48) (hw:AllI w 1152) (ho:AllI o 300) (hy:AllI y 48) (hj:j<24) (hm:m<48):∃ (h':Bool) (r' e' w' o' y':List At),AllI r' 300∧AllI e' 48∧AllI w' 1152∧AllI o' 300∧AllI y' 48∧To Tryz.prog 147 (c1 (c1 (c2 (c1 (c2 (c1 (c1 (c2 (c1 (c1 (c2 (c1 (c2 (c2 (c2 (c2 (c2 (c2 (jj Tryz.prog 93))))))))))))))))))) ⟨[(0,A0),(8,PP 4),(9,PX 5),(12,PX 6),(13,PX 7),(14,IK j),(15,PX 8),(64,IK m)],(j6 h r e w o y),9⟩ .normal ⟨[(0,A0),(8,PP 4),(9,PX 5),(12,PX 6),(13,PX 7),(14,IK j),(15,PX 8),(64,IK (m+1))],(j6 h' r' e' w' o' y'),9⟩:=by
 refine ⟨((h||Xk (intAt w (0+(j:Int).toNat*48+(m:Int).toNat*1)) (intAt e (0+(m:Int).toNat*1)) 30)),(r),(e),(w),(o),((List.set y) (0+(m:Int).toNat*1) (At.int .i64 (kY (intAt w (0+(j:Int).toNat*48+(m:Int).toNat*1)) (intAt e (0+(m:Int).toNat*1)) 30))),aS,aS,aS,aS,aS,To.run (z:=Zl) jN (slots:=[0,8,9,12,13,14,15,64]) (blks:=[0,4,5,6,7,8]) (vs:=[A0,PP 4,PX 5,PX 6,PX 7,IK j,PX 8,IK (m+1)]) (bs:=(JV ((h||Xk (intAt w (0+(j:Int).toNat*48+(m:Int).toNat*1)) (intAt e (0+(m:Int).toNat*1)) 30)) r e w o ((List.set y) (0+(m:Int).toNat*1) (At.int .i64 (kY (intAt w (0+(j:Int).toNat*48+(m:Int).toNat*1)) (intAt e (0+(m:Int).toNat*1)) 30))))) (nbB:=9) (fun dead=>mDR dead h r e w o y j m) rfl (by rw [wk m (by omega)];rfl) rfl ?_ (jr rfl (mOF (mOC 300 (mOC 48 (mOC 1152 (mOC 300 (mOC 48 jH))))))) (Nat.le_refl _)⟩
 have lnr:=hr.len
 have lne:=he.len
 have lnw:=hw.len
 have lno:=ho.len
 have lny:=hy.len
 repeat' first | exact jd | apply ja
 all_goals first
  | (with_reducible refine AllI.ats (by assumption) _ ?_;simp only [Int.toNat_natCast];omega)
  | (simp only [Bool.and_eq_true,hr.part,hr.ok,he.part,he.ok,hw.part,hw.ok,ho.part,ho.ok,hy.part,hy.ok,decide_eq_true_eq,true_and,and_true];omega)
theorem jxl (dead:Nat→Value) (h:Bool) (r e w o y:List At) (j:Nat):ju [0,8,9,12,13,14,15] [0,4,5,6,7,8] (exec Tryz.prog KA2 Zl 400 (.code (c1 (c1 (c2 (c1 (c2 (c1 (c1 (c2 (c1 (c1 (c2 (c1 (c2 (c2 (c2 (c2 (c2 (c2 (jj Tryz.prog 93)))))))))))))))))))) (Kst.st ⟨[(0,A0),(8,PP 4),(9,PX 5),(12,PX 6),(13,PX 7),(14,IK j),(15,PX 8),(64,IK 48)],(j6 h r e w o y),9⟩ 147 dead []))=some (Ex.exit 6,[PP 0,PP 4,PX 5,PX 6,PX 7,I (j:Int),PX 8],(Kk h r e w o y),[]):=by kernel_rfl
theorem mDe (h:Bool) (r e w o y:List At) (j:Nat) (hr:AllI r 300) (he:AllI e 48) (hw:AllI w 1152) (ho:AllI o 300) (hy:AllI y 48):∃ (h':Bool) (r' e' w' o' y':List At),AllI r' 300∧AllI e' 48∧AllI w' 1152∧AllI o' 300∧AllI y' 48∧To Tryz.prog 147 (c1 (c1 (c2 (c1 (c2 (c1 (c1 (c2 (c1 (c1 (c2 (c1 (c2 (c2 (c2 (c2 (c2 (c2 (jj Tryz.prog 93))))))))))))))))))) ⟨[(0,A0),(8,PP 4),(9,PX 5),(12,PX 6),(13,PX 7),(14,IK j),(15,PX 8),(64,IK 48)],(j6 h r e w o y),9⟩ (.exit 6) ⟨[(0,A0),(8,PP 4),(9,PX 5),(12,PX 6),(13,PX 7),(14,IK j),(15,PX 8)],(j6 h' r' e' w' o' y'),9⟩:=by
 refine ⟨(h),(r),(e),(w),(o),(y),aS,aS,aS,aS,aS,To.run (z:=Zl) jN (slots:=[0,8,9,12,13,14,15]) (blks:=[0,4,5,6,7,8]) (vs:=[A0,PP 4,PX 5,PX 6,PX 7,IK j,PX 8]) (bs:=(JV (h) r e w o y)) (nbB:=9) (fun dead=>jxl dead h r e w o y j) rfl rfl rfl ?_ (jr rfl (mOF (mOC 300 (mOC 48 (mOC 1152 (mOC 300 (mOC 48 jH))))))) (Nat.le_refl _)⟩
 have lnr:=hr.len
 have lne:=he.len
 have lnw:=hw.len
 have lno:=ho.len
 have lny:=hy.len
 repeat' first | exact jd | apply ja
theorem mER (dead:Nat→Value) (h:Bool) (r e w o y:List At) (j:Nat):ju [0,8,9,12,13,14,15,17] [0,4,5,6,7,8] (exec Tryz.prog KA2 Zl 400 (.code (c1 (c2 (c2 (c1 (c1 (c2 (c1 (c1 (c2 (c1 (c2 (c2 (c2 (c2 (c2 (c2 (jj Tryz.prog 93)))))))))))))))))) (Kst.st ⟨[(0,A0),(8,PP 4),(9,PX 5),(12,PX 6),(13,PX 7),(14,IK j),(15,PX 8)],(j6 h r e w o y),9⟩ 147 dead []))=some (Ex.normal,[PP 0,PP 4,PX 5,PX 6,PX 7,I (j:Int),PX 8,I (jw (qZ 30 (qp (List.take ((48 - 0)*1) (List.drop (0+(j:Int).toNat*48+0*1) w))) (qp (List.take ((48 - 0)*1) (List.drop (0+0*1) y)))) 1 72057594037927936)],(Kk (h||yf 30 (qp (List.take ((48 - 0)*1) (List.drop (0+(j:Int).toNat*48+0*1) w))) (qp (List.take ((48 - 0)*1) (List.drop (0+0*1) y)))||jx (qZ 30 (qp (List.take ((48 - 0)*1) (List.drop (0+(j:Int).toNat*48+0*1) w))) (qp (List.take ((48 - 0)*1) (List.drop (0+0*1) y)))) 1 72057594037927936) r e w o y),[(j8 (List.take ((48 - 0)*1) (List.drop (0+(j:Int).toNat*48+0*1) w))&&(okL noP w&&(decide (0+(j:Int).toNat*48+0*1+(48 - 0)*1≤w.length)&&true)),true),(j8 (List.take ((48 - 0)*1) (List.drop (0+0*1) y))&&(okL noP y&&(decide (0+0*1+(48 - 0)*1≤y.length)&&true)),true),(decide (0≤(j:Int))&&decide ((j:Int)<24),true)]):=by kernel_rfl
theorem mE (h:Bool) (r e w o y:List At) (j:Nat) (hr:AllI r 300) (he:AllI e 48) (hw:AllI w 1152) (ho:AllI o 300) (hy:AllI y 48) (hj:j<24):∃(d:Int) (h':Bool) (r' e' w' o' y':List At),AllI r' 300∧AllI e' 48∧AllI w' 1152∧AllI o' 300∧AllI y' 48∧To Tryz.prog 147 (c1 (c2 (c2 (c1 (c1 (c2 (c1 (c1 (c2 (c1 (c2 (c2 (c2 (c2 (c2 (c2 (jj Tryz.prog 93))))))))))))))))) ⟨[(0,A0),(8,PP 4),(9,PX 5),(12,PX 6),(13,PX 7),(14,IK j),(15,PX 8)],(j6 h r e w o y),9⟩ .normal ⟨[(0,A0),(8,PP 4),(9,PX 5),(12,PX 6),(13,PX 7),(14,IK j),(15,PX 8),(17,I d)],(j6 h' r' e' w' o' y'),9⟩:=by
 refine ⟨((jw (qZ 30 (qp (List.take ((48 - 0)*1) (List.drop (0+(j:Int).toNat*48+0*1) w))) (qp (List.take ((48 - 0)*1) (List.drop (0+0*1) y)))) 1 72057594037927936)),((h||yf 30 (qp (List.take ((48 - 0)*1) (List.drop (0+(j:Int).toNat*48+0*1) w))) (qp (List.take ((48 - 0)*1) (List.drop (0+0*1) y)))||jx (qZ 30 (qp (List.take ((48 - 0)*1) (List.drop (0+(j:Int).toNat*48+0*1) w))) (qp (List.take ((48 - 0)*1) (List.drop (0+0*1) y)))) 1 72057594037927936)),(r),(e),(w),(o),(y),aS,aS,aS,aS,aS,To.run (z:=Zl) jN (slots:=[0,8,9,12,13,14,15,17]) (blks:=[0,4,5,6,7,8]) (vs:=[A0,PP 4,PX 5,PX 6,PX 7,IK j,PX 8,I ((jw (qZ 30 (qp (List.take ((48 - 0)*1) (List.drop (0+(j:Int).toNat*48+0*1) w))) (qp (List.take ((48 - 0)*1) (List.drop (0+0*1) y)))) 1 72057594037927936))]) (bs:=(JV ((h||yf 30 (qp (List.take ((48 - 0)*1) (List.drop (0+(j:Int).toNat*48+0*1) w))) (qp (List.take ((48 - 0)*1) (List.drop (0+0*1) y)))||jx (qZ 30 (qp (List.take ((48 - 0)*1) (List.drop (0+(j:Int).toNat*48+0*1) w))) (qp (List.take ((48 - 0)*1) (List.drop (0+0*1) y)))) 1 72057594037927936)) r e w o y)) (nbB:=9) (fun dead=>mER dead h r e w o y j) rfl rfl rfl ?_ (jr rfl (mOF (mOC 300 (mOC 48 (mOC 1152 (mOC 300 (mOC 48 jH))))))) (Nat.le_refl _)⟩
 have lnr:=hr.len
 have lne:=he.len
 have lnw:=hw.len
 have lno:=ho.len
 have lny:=hy.len
 repeat' first | exact jd | apply ja
 all_goals first
  | (simp only [Bool.and_eq_true,hr.part,hr.ok,he.part,he.ok,hw.part,hw.ok,ho.part,ho.ok,hy.part,hy.ok,decide_eq_true_eq,true_and,and_true];omega)
theorem mFR (dead:Nat→Value) (h:Bool) (r e w o y:List At) (j:Nat) (d:Int):ju [0,8,9,12,13,14,15,17] [0,4,5,6,7,8] (exec Tryz.prog KA2 Zl 400 (.code (c1 (c2 (c2 (c2 (c1 (c1 (c2 (c1 (c1 (c2 (c1 (c2 (c2 (c2 (c2 (c2 (c2 (jj Tryz.prog 93))))))))))))))))))) (Kst.st ⟨[(0,A0),(8,PP 4),(9,PX 5),(12,PX 6),(13,PX 7),(14,IK j),(15,PX 8),(17,I d)],(j6 h r e w o y),9⟩ 147 dead []))=some (Ex.normal,[PP 0,PP 4,PX 5,PX 6,PX 7,I (j:Int),PX 8,I d],(Kk h r e w ((List.set o) (0+276+(j:Int).toNat*1) (At.int .i64 d)) y),[(decide (0+276+(j:Int).toNat*1<o.length),true),(decide (0≤(j:Int))&&decide ((j:Int)<24),true)]):=by kernel_rfl
theorem mF (h:Bool) (r e w o y:List At) (j:Nat) (d:Int) (hr:AllI r 300) (he:AllI e 48) (hw:AllI w 1152) (ho:AllI o 300) (hy:AllI y 48) (hj:j<24):∃ (h':Bool) (r' e' w' o' y':List At),AllI r' 300∧AllI e' 48∧AllI w' 1152∧AllI o' 300∧AllI y' 48∧To Tryz.prog 147 (c1 (c2 (c2 (c2 (c1 (c1 (c2 (c1 (c1 (c2 (c1 (c2 (c2 (c2 (c2 (c2 (c2 (jj Tryz.prog 93)))))))))))))))))) ⟨[(0,A0),(8,PP 4),(9,PX 5),(12,PX 6),(13,PX 7),(14,IK j),(15,PX 8),(17,I d)],(j6 h r e w o y),9⟩ .normal ⟨[(0,A0),(8,PP 4),(9,PX 5),(12,PX 6),(13,PX 7),(14,IK j),(15,PX 8),(17,I d)],(j6 h' r' e' w' o' y'),9⟩:=by
 refine ⟨(h),(r),(e),(w),((List.set o) (0+276+(j:Int).toNat*1) (At.int .i64 d)),(y),aS,aS,aS,aS,aS,To.run (z:=Zl) jN (slots:=[0,8,9,12,13,14,15,17]) (blks:=[0,4,5,6,7,8]) (vs:=[A0,PP 4,PX 5,PX 6,PX 7,IK j,PX 8,I d]) (bs:=(JV (h) r e w ((List.set o) (0+276+(j:Int).toNat*1) (At.int .i64 d)) y)) (nbB:=9) (fun dead=>mFR dead h r e w o y j d) rfl rfl rfl ?_ (jr rfl (mOF (mOC 300 (mOC 48 (mOC 1152 (mOC 300 (mOC 48 jH))))))) (Nat.le_refl _)⟩
 have lnr:=hr.len
 have lne:=he.len
 have lnw:=hw.len
 have lno:=ho.len
 have lny:=hy.len
 repeat' first | exact jd | apply ja
 all_goals first
  | (simp only [Bool.and_eq_true,hr.part,hr.ok,he.part,he.ok,hw.part,hw.ok,ho.part,ho.ok,hy.part,hy.ok,decide_eq_true_eq,true_and,and_true];omega)
theorem mGR (dead:Nat→Value) (h:Bool) (r e w o y:List At) (j:Nat) (d:Int):ju [0,8,9,12,13,14,15,17,96,97] [0,4,5,6,7,8] (exec Tryz.prog KA2 Zl 400 (.code (c1 (c2 (c2 (c2 (c2 (c1 (c1 (c2 (c1 (c1 (c2 (c1 (c2 (c2 (c2 (c2 (c2 (c2 (jj Tryz.prog 93)))))))))))))))))))) (Kst.st ⟨[(0,A0),(8,PP 4),(9,PX 5),(12,PX 6),(13,PX 7),(14,IK j),(15,PX 8),(17,I d)],(j6 h r e w o y),9⟩ 147 dead []))=some (Ex.normal,[PP 0,PP 4,PX 5,PX 6,PX 7,I (j:Int),PX 8,I d,I (j:Int),I 0],(Kk h r e w o y),[]):=by kernel_rfl
theorem mG (h:Bool) (r e w o y:List At) (j:Nat) (d:Int) (hr:AllI r 300) (he:AllI e 48) (hw:AllI w 1152) (ho:AllI o 300) (hy:AllI y 48):∃ (h':Bool) (r' e' w' o' y':List At),AllI r' 300∧AllI e' 48∧AllI w' 1152∧AllI o' 300∧AllI y' 48∧To Tryz.prog 147 (c1 (c2 (c2 (c2 (c2 (c1 (c1 (c2 (c1 (c1 (c2 (c1 (c2 (c2 (c2 (c2 (c2 (c2 (jj Tryz.prog 93))))))))))))))))))) ⟨[(0,A0),(8,PP 4),(9,PX 5),(12,PX 6),(13,PX 7),(14,IK j),(15,PX 8),(17,I d)],(j6 h r e w o y),9⟩ .normal ⟨[(0,A0),(8,PP 4),(9,PX 5),(12,PX 6),(13,PX 7),(14,IK j),(15,PX 8),(17,I d),(96,IK j),(97,IK 0)],(j6 h' r' e' w' o' y'),9⟩:=by
 refine ⟨(h),(r),(e),(w),(o),(y),aS,aS,aS,aS,aS,To.run (z:=Zl) jN (slots:=[0,8,9,12,13,14,15,17,96,97]) (blks:=[0,4,5,6,7,8]) (vs:=[A0,PP 4,PX 5,PX 6,PX 7,IK j,PX 8,I d,IK j,IK 0]) (bs:=(JV (h) r e w o y)) (nbB:=9) (fun dead=>mGR dead h r e w o y j d) rfl rfl rfl ?_ (jr rfl (mOF (mOC 300 (mOC 48 (mOC 1152 (mOC 300 (mOC 48 jH))))))) (Nat.le_refl _)⟩
 have lnr:=hr.len
 have lne:=he.len
 have lnw:=hw.len
 have lno:=ho.len
 have lny:=hy.len
 repeat' first | exact jd | apply ja
theorem iAR (dead:Nat→Value) (h:Bool) (r e w o y:List At) (j i:Nat) (d:Int):ju [0,8,9,12,13,14,15,17,96,97] [0,4,5,6,7,8] (xg Tryz.prog KA2 Zl 400 (kJ 2 (c1 (c1 (c2 (c2 (c2 (c2 (c2 (c1 (c1 (c2 (c1 (c1 (c2 (c1 (c2 (c2 (c2 (c2 (c2 (c2 (jj Tryz.prog 93)))))))))))))))))))))) (Kst.st ⟨[(0,A0),(8,PP 4),(9,PX 5),(12,PX 6),(13,PX 7),(14,IK j),(15,PX 8),(17,I d),(96,IK j),(97,IK i)],(j6 h r e w o y),9⟩ 147 dead [some true]))=some (Ex.normal,[PP 0,PP 4,PX 5,PX 6,PX 7,I (j:Int),PX 8,I d,I (j:Int),I (i:Int)],(Kk h r e w o y),[(decide ((i:Int)<(j:Int)),true)]):=by kernel_rfl
theorem iA (h:Bool) (r e w o y:List At) (j i:Nat) (d:Int) (hr:AllI r 300) (he:AllI e 48) (hw:AllI w 1152) (ho:AllI o 300) (hy:AllI y 48) (hi:i<j):∃ (h':Bool) (r' e' w' o' y':List At),AllI r' 300∧AllI e' 48∧AllI w' 1152∧AllI o' 300∧AllI y' 48∧∀(ee:Ex) (CC:Kst),To Tryz.prog 147 (qg 2 (c1 (c1 (c2 (c2 (c2 (c2 (c2 (c1 (c1 (c2 (c1 (c1 (c2 (c1 (c2 (c2 (c2 (c2 (c2 (c2 (jj Tryz.prog 93)))))))))))))))))))))) ⟨[(0,A0),(8,PP 4),(9,PX 5),(12,PX 6),(13,PX 7),(14,IK j),(15,PX 8),(17,I d),(96,IK j),(97,IK i)],(j6 h' r' e' w' o' y'),9⟩ ee CC→To Tryz.prog 147 (c1 (c1 (c2 (c2 (c2 (c2 (c2 (c1 (c1 (c2 (c1 (c1 (c2 (c1 (c2 (c2 (c2 (c2 (c2 (c2 (jj Tryz.prog 93))))))))))))))))))))) ⟨[(0,A0),(8,PP 4),(9,PX 5),(12,PX 6),(13,PX 7),(14,IK j),(15,PX 8),(17,I d),(96,IK j),(97,IK i)],(j6 h r e w o y),9⟩ ee CC:=by
 refine ⟨(h),(r),(e),(w),(o),(y),aS,aS,aS,aS,aS,fun ee CC hC=>To.spineR (k:=2) (z:=Zl) jN (slots:=[0,8,9,12,13,14,15,17,96,97]) (blks:=[0,4,5,6,7,8]) (vs:=[A0,PP 4,PX 5,PX 6,PX 7,IK j,PX 8,I d,IK j,IK i]) (bs:=(JV (h) r e w o y)) (nbB:=9) (by kernel_rfl) (fun dead=>iAR dead h r e w o y j i d) rfl rfl rfl ?_ (jr rfl (mOF (mOC 300 (mOC 48 (mOC 1152 (mOC 300 (mOC 48 jH))))))) (Nat.le_refl _) hC⟩
 have lnr:=hr.len
 have lne:=he.len
 have lnw:=hw.len
 have lno:=ho.len
 have lny:=hy.len
 repeat' first | exact jd | apply ja
 all_goals first
  | (simp only [Bool.and_eq_true,hr.part,hr.ok,he.part,he.ok,hw.part,hw.ok,ho.part,ho.ok,hy.part,hy.ok,decide_eq_true_eq,true_and,and_true];omega)
theorem jxm (dead:Nat→Value) (h:Bool) (r e w o y:List At) (j:Nat) (d:Int):ju [0,8,9,12,13,14] [0,4,5,6,7,8] (exec Tryz.prog KA2 Zl 400 (.code (c1 (c1 (c2 (c2 (c2 (c2 (c2 (c1 (c1 (c2 (c1 (c1 (c2 (c1 (c2 (c2 (c2 (c2 (c2 (c2 (jj Tryz.prog 93)))))))))))))))))))))) (Kst.st ⟨[(0,A0),(8,PP 4),(9,PX 5),(12,PX 6),(13,PX 7),(14,IK j),(15,PX 8),(17,I d),(96,IK j),(97,IK j)],(j6 h r e w o y),9⟩ 147 dead [some false]))=some (Ex.exit 8,[PP 0,PP 4,PX 5,PX 6,PX 7,I (j:Int)],(Kk h r e w o y),[(decide ((j:Int)<(j:Int)),false)]):=by kernel_rfl
theorem iAe (h:Bool) (r e w o y:List At) (j:Nat) (d:Int) (hr:AllI r 300) (he:AllI e 48) (hw:AllI w 1152) (ho:AllI o 300) (hy:AllI y 48):∃ (h':Bool) (r' e' w' o' y':List At),AllI r' 300∧AllI e' 48∧AllI w' 1152∧AllI o' 300∧AllI y' 48∧To Tryz.prog 147 (c1 (c1 (c2 (c2 (c2 (c2 (c2 (c1 (c1 (c2 (c1 (c1 (c2 (c1 (c2 (c2 (c2 (c2 (c2 (c2 (jj Tryz.prog 93))))))))))))))))))))) ⟨[(0,A0),(8,PP 4),(9,PX 5),(12,PX 6),(13,PX 7),(14,IK j),(15,PX 8),(17,I d),(96,IK j),(97,IK j)],(j6 h r e w o y),9⟩ (.exit 8) ⟨[(0,A0),(8,PP 4),(9,PX 5),(12,PX 6),(13,PX 7),(14,IK j)],(j6 h' r' e' w' o' y'),9⟩:=by
 refine ⟨(h),(r),(e),(w),(o),(y),aS,aS,aS,aS,aS,To.run (z:=Zl) jN (slots:=[0,8,9,12,13,14]) (blks:=[0,4,5,6,7,8]) (vs:=[A0,PP 4,PX 5,PX 6,PX 7,IK j]) (bs:=(JV (h) r e w o y)) (nbB:=9) (fun dead=>jxm dead h r e w o y j d) rfl rfl rfl ?_ (jr rfl (mOF (mOC 300 (mOC 48 (mOC 1152 (mOC 300 (mOC 48 jH))))))) (Nat.le_refl _)⟩
 have lnr:=hr.len
 have lne:=he.len
 have lnw:=hw.len
 have lno:=ho.len
 have lny:=hy.len
 repeat' first | exact jd | apply ja
 all_goals first
  | (with_reducible refine decide_eq_false ?_;omega)
theorem iBR (dead:Nat→Value) (h:Bool) (r e w o y:List At) (j i:Nat) (d:Int):ju [0,8,9,12,13,14,15,17,96,97,18,19] [0,4,5,6,7,8] (xg Tryz.prog KA2 Zl 400 (kJ 2 (c1 (c1 (c2 (c2 (c1 (c1 (c2 (c2 (c2 (c2 (c2 (c1 (c1 (c2 (c1 (c1 (c2 (c1 (c2 (c2 (c2 (c2 (c2 (c2 (jj Tryz.prog 93)))))))))))))))))))))))))) (Kst.st ⟨[(0,A0),(8,PP 4),(9,PX 5),(12,PX 6),(13,PX 7),(14,IK j),(15,PX 8),(17,I d),(96,IK j),(97,IK i)],(j6 h r e w o y),9⟩ 147 dead []))=some (Ex.normal,[PP 0,PP 4,PX 5,PX 6,PX 7,I (j:Int),PX 8,I d,I (j:Int),I (i:Int),I (i:Int),I (kV (qZ 30 (qp (List.take ((48 - 0)*1) (List.drop (0+(i:Int).toNat*48+0*1) w))) (qp (List.take ((48 - 0)*1) (List.drop (0+0*1) y)))) d 30)],(Kk (h||yf 30 (qp (List.take ((48 - 0)*1) (List.drop (0+(i:Int).toNat*48+0*1) w))) (qp (List.take ((48 - 0)*1) (List.drop (0+0*1) y)))||xD (qZ 30 (qp (List.take ((48 - 0)*1) (List.drop (0+(i:Int).toNat*48+0*1) w))) (qp (List.take ((48 - 0)*1) (List.drop (0+0*1) y)))) d 30) r e w o y),[(j8 (List.take ((48 - 0)*1) (List.drop (0+(i:Int).toNat*48+0*1) w))&&(okL noP w&&(decide (0+(i:Int).toNat*48+0*1+(48 - 0)*1≤w.length)&&true)),true),(j8 (List.take ((48 - 0)*1) (List.drop (0+0*1) y))&&(okL noP y&&(decide (0+0*1+(48 - 0)*1≤y.length)&&true)),true),(decide (0≤(i:Int))&&decide ((i:Int)<24),true)]):=by kernel_rfl
theorem iB (h:Bool) (r e w o y:List At) (j i:Nat) (d:Int) (hr:AllI r 300) (he:AllI e 48) (hw:AllI w 1152) (ho:AllI o 300) (hy:AllI y 48) (hj:j<24) (hi:i<j):∃(u:Int) (h':Bool) (r' e' w' o' y':List At),AllI r' 300∧AllI e' 48∧AllI w' 1152∧AllI o' 300∧AllI y' 48∧∀(ee:Ex) (CC:Kst),To Tryz.prog 147 (qg 2 (c1 (c1 (c2 (c2 (c1 (c1 (c2 (c2 (c2 (c2 (c2 (c1 (c1 (c2 (c1 (c1 (c2 (c1 (c2 (c2 (c2 (c2 (c2 (c2 (jj Tryz.prog 93)))))))))))))))))))))))))) ⟨[(0,A0),(8,PP 4),(9,PX 5),(12,PX 6),(13,PX 7),(14,IK j),(15,PX 8),(17,I d),(96,IK j),(97,IK i),(18,IK i),(19,I u)],(j6 h' r' e' w' o' y'),9⟩ ee CC→To Tryz.prog 147 (c1 (c1 (c2 (c2 (c1 (c1 (c2 (c2 (c2 (c2 (c2 (c1 (c1 (c2 (c1 (c1 (c2 (c1 (c2 (c2 (c2 (c2 (c2 (c2 (jj Tryz.prog 93))))))))))))))))))))))))) ⟨[(0,A0),(8,PP 4),(9,PX 5),(12,PX 6),(13,PX 7),(14,IK j),(15,PX 8),(17,I d),(96,IK j),(97,IK i)],(j6 h r e w o y),9⟩ ee CC:=by
 refine ⟨((kV (qZ 30 (qp (List.take ((48 - 0)*1) (List.drop (0+(i:Int).toNat*48+0*1) w))) (qp (List.take ((48 - 0)*1) (List.drop (0+0*1) y)))) d 30)),((h||yf 30 (qp (List.take ((48 - 0)*1) (List.drop (0+(i:Int).toNat*48+0*1) w))) (qp (List.take ((48 - 0)*1) (List.drop (0+0*1) y)))||xD (qZ 30 (qp (List.take ((48 - 0)*1) (List.drop (0+(i:Int).toNat*48+0*1) w))) (qp (List.take ((48 - 0)*1) (List.drop (0+0*1) y)))) d 30)),(r),(e),(w),(o),(y),aS,aS,aS,aS,aS,fun ee CC hC=>To.spineR (k:=2) (z:=Zl) jN (slots:=[0,8,9,12,13,14,15,17,96,97,18,19]) (blks:=[0,4,5,6,7,8]) (vs:=[A0,PP 4,PX 5,PX 6,PX 7,IK j,PX 8,I d,IK j,IK i,IK i,I ((kV (qZ 30 (qp (List.take ((48 - 0)*1) (List.drop (0+(i:Int).toNat*48+0*1) w))) (qp (List.take ((48 - 0)*1) (List.drop (0+0*1) y)))) d 30))]) (bs:=(JV ((h||yf 30 (qp (List.take ((48 - 0)*1) (List.drop (0+(i:Int).toNat*48+0*1) w))) (qp (List.take ((48 - 0)*1) (List.drop (0+0*1) y)))||xD (qZ 30 (qp (List.take ((48 - 0)*1) (List.drop (0+(i:Int).toNat*48+0*1) w))) (qp (List.take ((48 - 0)*1) (List.drop (0+0*1) y)))) d 30)) r e w o y)) (nbB:=9) (by kernel_rfl) (fun dead=>iBR dead h r e w o y j i d) rfl rfl rfl ?_ (jr rfl (mOF (mOC 300 (mOC 48 (mOC 1152 (mOC 300 (mOC 48 jH))))))) (Nat.le_refl _) hC⟩
 have lnr:=hr.len
 have lne:=he.len
 have lnw:=hw.len
 have lno:=ho.len
 have lny:=hy.len
 repeat' first | exact jd | apply ja
 all_goals first
  | (simp only [Bool.and_eq_true,hr.part,hr.ok,he.part,he.ok,hw.part,hw.ok,ho.part,ho.ok,hy.part,hy.ok,decide_eq_true_eq,true_and,and_true];omega)
theorem iDR (dead:Nat→Value) (h:Bool) (r e w o y:List At) (j i:Nat) (d u:Int):ju [0,8,9,12,13,14,15,17,96,97,18,19,116] [0,4,5,6,7,8] (exec Tryz.prog KA2 Zl 400 (.code (c1 (c2 (c2 (c2 (c1 (c1 (c2 (c2 (c1 (c1 (c2 (c2 (c2 (c2 (c2 (c1 (c1 (c2 (c1 (c1 (c2 (c1 (c2 (c2 (c2 (c2 (c2 (c2 (jj Tryz.prog 93)))))))))))))))))))))))))))))) (Kst.st ⟨[(0,A0),(8,PP 4),(9,PX 5),(12,PX 6),(13,PX 7),(14,IK j),(15,PX 8),(17,I d),(96,IK j),(97,IK i),(18,IK i),(19,I u)],(j6 h r e w o y),9⟩ 147 dead []))=some (Ex.normal,[PP 0,PP 4,PX 5,PX 6,PX 7,I (j:Int),PX 8,I d,I (j:Int),I (i:Int),I (i:Int),I u,I 0],(Kk h r e w o y),[]):=by kernel_rfl
theorem iD (h:Bool) (r e w o y:List At) (j i:Nat) (d u:Int) (hr:AllI r 300) (he:AllI e 48) (hw:AllI w 1152) (ho:AllI o 300) (hy:AllI y 48):∃ (h':Bool) (r' e' w' o' y':List At),AllI r' 300∧AllI e' 48∧AllI w' 1152∧AllI o' 300∧AllI y' 48∧To Tryz.prog 147 (c1 (c2 (c2 (c2 (c1 (c1 (c2 (c2 (c1 (c1 (c2 (c2 (c2 (c2 (c2 (c1 (c1 (c2 (c1 (c1 (c2 (c1 (c2 (c2 (c2 (c2 (c2 (c2 (jj Tryz.prog 93))))))))))))))))))))))))))))) ⟨[(0,A0),(8,PP 4),(9,PX 5),(12,PX 6),(13,PX 7),(14,IK j),(15,PX 8),(17,I d),(96,IK j),(97,IK i),(18,IK i),(19,I u)],(j6 h r e w o y),9⟩ .normal ⟨[(0,A0),(8,PP 4),(9,PX 5),(12,PX 6),(13,PX 7),(14,IK j),(15,PX 8),(17,I d),(96,IK j),(97,IK i),(18,IK i),(19,I u),(116,IK 0)],(j6 h' r' e' w' o' y'),9⟩:=by
 refine ⟨(h),(r),(e),(w),(o),(y),aS,aS,aS,aS,aS,To.run (z:=Zl) jN (slots:=[0,8,9,12,13,14,15,17,96,97,18,19,116]) (blks:=[0,4,5,6,7,8]) (vs:=[A0,PP 4,PX 5,PX 6,PX 7,IK j,PX 8,I d,IK j,IK i,IK i,I u,IK 0]) (bs:=(JV (h) r e w o y)) (nbB:=9) (fun dead=>iDR dead h r e w o y j i d u) rfl rfl rfl ?_ (jr rfl (mOF (mOC 300 (mOC 48 (mOC 1152 (mOC 300 (mOC 48 jH))))))) (Nat.le_refl _)⟩
 have lnr:=hr.len
 have lne:=he.len
 have lnw:=hw.len
 have lno:=ho.len
 have lny:=hy.len
 repeat' first | exact jd | apply ja
theorem iER (dead:Nat→Value) (h:Bool) (r e w o y:List At) (j i:Nat) (d u:Int) (k:Nat):ju [0,8,9,12,13,14,15,17,96,97,18,19,116] [0,4,5,6,7,8] (exec Tryz.prog KA2 Zl 400 (.code (c1 (c1 (c2 (c2 (c2 (c2 (c1 (c1 (c2 (c2 (c1 (c1 (c2 (c2 (c2 (c2 (c2 (c1 (c1 (c2 (c1 (c1 (c2 (c1 (c2 (c2 (c2 (c2 (c2 (c2 (jj Tryz.prog 93)))))))))))))))))))))))))))))))) (Kst.st ⟨[(0,A0),(8,PP 4),(9,PX 5),(12,PX 6),(13,PX 7),(14,IK j),(15,PX 8),(17,I d),(96,IK j),(97,IK i),(18,IK i),(19,I u),(116,IK k)],(j6 h r e w o y),9⟩ 147 dead [some true]))=some (Ex.normal,[PP 0,PP 4,PX 5,PX 6,PX 7,I (j:Int),PX 8,I d,I (j:Int),I (i:Int),I (i:Int),I u,I (wr .i64 ((k:Int)+1))],(Kk (h||Xk u (intAt w (0+(j:Int).toNat*48+(k:Int).toNat*1)) 30||jg7 (intAt w (0+(i:Int).toNat*48+(k:Int).toNat*1)) (kY u (intAt w (0+(j:Int).toNat*48+(k:Int).toNat*1)) 30)) r e ((List.set w) (0+(i:Int).toNat*48+(k:Int).toNat*1) (At.int .i64 (ZE (intAt w (0+(i:Int).toNat*48+(k:Int).toNat*1)) (kY u (intAt w (0+(j:Int).toNat*48+(k:Int).toNat*1)) 30)))) o y),[(decide (0+(i:Int).toNat*48+(k:Int).toNat*1<w.length),true),(decide (0≤(k:Int))&&decide ((k:Int)<48),true),(decide (0≤(i:Int))&&decide ((i:Int)<24),true),(isIntAt IntKind.i64 w (0+(j:Int).toNat*48+(k:Int).toNat*1),true),(decide (0≤(k:Int))&&decide ((k:Int)<48),true),(decide (0≤(j:Int))&&decide ((j:Int)<24),true),(isIntAt IntKind.i64 w (0+(i:Int).toNat*48+(k:Int).toNat*1),true),(decide (0≤(k:Int))&&decide ((k:Int)<48),true),(decide (0≤(i:Int))&&decide ((i:Int)<24),true),(decide ((k:Int)<48),true)]):=by kernel_rfl
theorem iE (h:Bool) (r e w o y:List At) (j i:Nat) (d u:Int) (k:Nat) (hr:AllI r 300) (he:AllI e 48) (hw:AllI w 1152) (ho:AllI o 300) (hy:AllI y 48) (hj:j<24) (hi:i<j) (hk:k<48):∃ (h':Bool) (r' e' w' o' y':List At),AllI r' 300∧AllI e' 48∧AllI w' 1152∧AllI o' 300∧AllI y' 48∧To Tryz.prog 147 (c1 (c1 (c2 (c2 (c2 (c2 (c1 (c1 (c2 (c2 (c1 (c1 (c2 (c2 (c2 (c2 (c2 (c1 (c1 (c2 (c1 (c1 (c2 (c1 (c2 (c2 (c2 (c2 (c2 (c2 (jj Tryz.prog 93))))))))))))))))))))))))))))))) ⟨[(0,A0),(8,PP 4),(9,PX 5),(12,PX 6),(13,PX 7),(14,IK j),(15,PX 8),(17,I d),(96,IK j),(97,IK i),(18,IK i),(19,I u),(116,IK k)],(j6 h r e w o y),9⟩ .normal ⟨[(0,A0),(8,PP 4),(9,PX 5),(12,PX 6),(13,PX 7),(14,IK j),(15,PX 8),(17,I d),(96,IK j),(97,IK i),(18,IK i),(19,I u),(116,IK (k+1))],(j6 h' r' e' w' o' y'),9⟩:=by
 refine ⟨((h||Xk u (intAt w (0+(j:Int).toNat*48+(k:Int).toNat*1)) 30||jg7 (intAt w (0+(i:Int).toNat*48+(k:Int).toNat*1)) (kY u (intAt w (0+(j:Int).toNat*48+(k:Int).toNat*1)) 30))),(r),(e),((List.set w) (0+(i:Int).toNat*48+(k:Int).toNat*1) (At.int .i64 (ZE (intAt w (0+(i:Int).toNat*48+(k:Int).toNat*1)) (kY u (intAt w (0+(j:Int).toNat*48+(k:Int).toNat*1)) 30)))),(o),(y),aS,aS,aS,aS,aS,To.run (z:=Zl) jN (slots:=[0,8,9,12,13,14,15,17,96,97,18,19,116]) (blks:=[0,4,5,6,7,8]) (vs:=[A0,PP 4,PX 5,PX 6,PX 7,IK j,PX 8,I d,IK j,IK i,IK i,I u,IK (k+1)]) (bs:=(JV ((h||Xk u (intAt w (0+(j:Int).toNat*48+(k:Int).toNat*1)) 30||jg7 (intAt w (0+(i:Int).toNat*48+(k:Int).toNat*1)) (kY u (intAt w (0+(j:Int).toNat*48+(k:Int).toNat*1)) 30))) r e ((List.set w) (0+(i:Int).toNat*48+(k:Int).toNat*1) (At.int .i64 (ZE (intAt w (0+(i:Int).toNat*48+(k:Int).toNat*1)) (kY u (intAt w (0+(j:Int).toNat*48+(k:Int).toNat*1)) 30)))) o y)) (nbB:=9) (fun dead=>iER dead h r e w o y j i d u k) rfl (by rw [wk k (by omega)];rfl) rfl ?_ (jr rfl (mOF (mOC 300 (mOC 48 (mOC 1152 (mOC 300 (mOC 48 jH))))))) (Nat.le_refl _)⟩
 have lnr:=hr.len
 have lne:=he.len
 have lnw:=hw.len
 have lno:=ho.len
 have lny:=hy.len
 repeat' first | exact jd | apply ja
 all_goals first
  | (with_reducible refine AllI.ats (by assumption) _ ?_;simp only [Int.toNat_natCast];omega)
  | (simp only [Bool.and_eq_true,hr.part,hr.ok,he.part,he.ok,hw.part,hw.ok,ho.part,ho.ok,hy.part,hy.ok,decide_eq_true_eq,true_and,and_true];omega)
theorem jxn (dead:Nat→Value) (h:Bool) (r e w o y:List At) (j i:Nat) (d u:Int):ju [0,8,9,12,13,14,15,17,96,97,18,19] [0,4,5,6,7,8] (exec Tryz.prog KA2 Zl 400 (.code (c1 (c1 (c2 (c2 (c2 (c2 (c1 (c1 (c2 (c2 (c1 (c1 (c2 (c2 (c2 (c2 (c2 (c1 (c1 (c2 (c1 (c1 (c2 (c1 (c2 (c2 (c2 (c2 (c2 (c2 (jj Tryz.prog 93)))))))))))))))))))))))))))))))) (Kst.st ⟨[(0,A0),(8,PP 4),(9,PX 5),(12,PX 6),(13,PX 7),(14,IK j),(15,PX 8),(17,I d),(96,IK j),(97,IK i),(18,IK i),(19,I u),(116,IK 48)],(j6 h r e w o y),9⟩ 147 dead []))=some (Ex.exit 10,[PP 0,PP 4,PX 5,PX 6,PX 7,I (j:Int),PX 8,I d,I (j:Int),I (i:Int),I (i:Int),I u],(Kk h r e w o y),[]):=by kernel_rfl
theorem iEe (h:Bool) (r e w o y:List At) (j i:Nat) (d u:Int) (hr:AllI r 300) (he:AllI e 48) (hw:AllI w 1152) (ho:AllI o 300) (hy:AllI y 48):∃ (h':Bool) (r' e' w' o' y':List At),AllI r' 300∧AllI e' 48∧AllI w' 1152∧AllI o' 300∧AllI y' 48∧To Tryz.prog 147 (c1 (c1 (c2 (c2 (c2 (c2 (c1 (c1 (c2 (c2 (c1 (c1 (c2 (c2 (c2 (c2 (c2 (c1 (c1 (c2 (c1 (c1 (c2 (c1 (c2 (c2 (c2 (c2 (c2 (c2 (jj Tryz.prog 93))))))))))))))))))))))))))))))) ⟨[(0,A0),(8,PP 4),(9,PX 5),(12,PX 6),(13,PX 7),(14,IK j),(15,PX 8),(17,I d),(96,IK j),(97,IK i),(18,IK i),(19,I u),(116,IK 48)],(j6 h r e w o y),9⟩ (.exit 10) ⟨[(0,A0),(8,PP 4),(9,PX 5),(12,PX 6),(13,PX 7),(14,IK j),(15,PX 8),(17,I d),(96,IK j),(97,IK i),(18,IK i),(19,I u)],(j6 h' r' e' w' o' y'),9⟩:=by
 refine ⟨(h),(r),(e),(w),(o),(y),aS,aS,aS,aS,aS,To.run (z:=Zl) jN (slots:=[0,8,9,12,13,14,15,17,96,97,18,19]) (blks:=[0,4,5,6,7,8]) (vs:=[A0,PP 4,PX 5,PX 6,PX 7,IK j,PX 8,I d,IK j,IK i,IK i,I u]) (bs:=(JV (h) r e w o y)) (nbB:=9) (fun dead=>jxn dead h r e w o y j i d u) rfl rfl rfl ?_ (jr rfl (mOF (mOC 300 (mOC 48 (mOC 1152 (mOC 300 (mOC 48 jH))))))) (Nat.le_refl _)⟩
 have lnr:=hr.len
 have lne:=he.len
 have lnw:=hw.len
 have lno:=ho.len
 have lny:=hy.len
 repeat' first | exact jd | apply ja
theorem iFR (dead:Nat→Value) (h:Bool) (r e w o y:List At) (j i:Nat) (d u:Int):ju [0,8,9,12,13,14,15,17,96,97] [0,4,5,6,7,8] (exec Tryz.prog KA2 Zl 400 (.code (c2 (c2 (c2 (c1 (c1 (c2 (c2 (c2 (c2 (c2 (c1 (c1 (c2 (c1 (c1 (c2 (c1 (c2 (c2 (c2 (c2 (c2 (c2 (jj Tryz.prog 93))))))))))))))))))))))))) (Kst.st ⟨[(0,A0),(8,PP 4),(9,PX 5),(12,PX 6),(13,PX 7),(14,IK j),(15,PX 8),(17,I d),(96,IK j),(97,IK i),(18,IK i),(19,I u)],(j6 h r e w o y),9⟩ 147 dead []))=some (Ex.normal,[PP 0,PP 4,PX 5,PX 6,PX 7,I (j:Int),PX 8,I d,I (j:Int),I (wr .i64 ((i:Int)+1))],(Kk h r e w o y),[]):=by kernel_rfl
theorem iF (h:Bool) (r e w o y:List At) (j i:Nat) (d u:Int) (hr:AllI r 300) (he:AllI e 48) (hw:AllI w 1152) (ho:AllI o 300) (hy:AllI y 48) (hj:j<24) (hi:i<j):∃ (h':Bool) (r' e' w' o' y':List At),AllI r' 300∧AllI e' 48∧AllI w' 1152∧AllI o' 300∧AllI y' 48∧To Tryz.prog 147 (c2 (c2 (c2 (c1 (c1 (c2 (c2 (c2 (c2 (c2 (c1 (c1 (c2 (c1 (c1 (c2 (c1 (c2 (c2 (c2 (c2 (c2 (c2 (jj Tryz.prog 93)))))))))))))))))))))))) ⟨[(0,A0),(8,PP 4),(9,PX 5),(12,PX 6),(13,PX 7),(14,IK j),(15,PX 8),(17,I d),(96,IK j),(97,IK i),(18,IK i),(19,I u)],(j6 h r e w o y),9⟩ .normal ⟨[(0,A0),(8,PP 4),(9,PX 5),(12,PX 6),(13,PX 7),(14,IK j),(15,PX 8),(17,I d),(96,IK j),(97,IK (i+1))],(j6 h' r' e' w' o' y'),9⟩:=by
 refine ⟨(h),(r),(e),(w),(o),(y),aS,aS,aS,aS,aS,To.run (z:=Zl) jN (slots:=[0,8,9,12,13,14,15,17,96,97]) (blks:=[0,4,5,6,7,8]) (vs:=[A0,PP 4,PX 5,PX 6,PX 7,IK j,PX 8,I d,IK j,IK (i+1)]) (bs:=(JV (h) r e w o y)) (nbB:=9) (fun dead=>iFR dead h r e w o y j i d u) rfl (by rw [wk i (by omega)];rfl) rfl ?_ (jr rfl (mOF (mOC 300 (mOC 48 (mOC 1152 (mOC 300 (mOC 48 jH))))))) (Nat.le_refl _)⟩
 have lnr:=hr.len
 have lne:=he.len
 have lnw:=hw.len
 have lno:=ho.len
 have lny:=hy.len
 repeat' first | exact jd | apply ja
theorem sDL (h:Bool) (p f q r e:List At) (i:Nat) (hp:AllI p 300) (hf:AllI f 576) (hq:AllI q 24) (hr:AllI r 300) (he:AllI e 48) (hi:i<24):∃(h':Bool) (p' f' q' r' e':List At),AllI p' 300∧AllI f' 576∧AllI q' 24∧AllI r' 300∧AllI e' 48∧To Tryz.prog 147 (c2 (c2 (c2 (c1 (c1 (c2 (c2 (c1 (c1 (c2 (c1 (c2 (c2 (c2 (jj Tryz.prog 93))))))))))))))) ⟨[(0,A0),(5,PX 1),(6,PX 2),(7,PX 3),(8,PP 4),(9,PX 5),(10,IK i),(24,IK i),(41,IK 0)],(qo h p f q r e),6⟩ .normal ⟨[(0,A0),(5,PX 1),(6,PX 2),(7,PX 3),(8,PP 4),(9,PX 5),(10,IK i),(24,IK i)],(qo h' p' f' q' r' e'),6⟩:=by
 have round:∀(k:Nat) (s:Bool×List At×List At×List At×List At×List At),k<24→(AllI s.2.1 300∧AllI s.2.2.1 576∧AllI s.2.2.2.1 24∧AllI s.2.2.2.2.1 300∧AllI s.2.2.2.2.2 48)→∃s':Bool×List At×List At×List At×List At×List At,(AllI s'.2.1 300∧AllI s'.2.2.1 576∧AllI s'.2.2.2.1 24∧AllI s'.2.2.2.2.1 300∧AllI s'.2.2.2.2.2 48)∧To Tryz.prog 147 (c1 (c1 (c2 (c2 (c2 (c1 (c1 (c2 (c2 (c1 (c1 (c2 (c1 (c2 (c2 (c2 (jj Tryz.prog 93))))))))))))))))) ((fun (k:Nat) (s:Bool×List At×List At×List At×List At×List At)=>(⟨[(0,A0),(5,PX 1),(6,PX 2),(7,PX 3),(8,PP 4),(9,PX 5),(10,IK i),(24,IK i),(41,IK k)],(qo (s.1) (s.2.1) (s.2.2.1) (s.2.2.2.1) (s.2.2.2.2.1) (s.2.2.2.2.2)),6⟩:Kst)) k s) .normal ((fun (k:Nat) (s:Bool×List At×List At×List At×List At×List At)=>(⟨[(0,A0),(5,PX 1),(6,PX 2),(7,PX 3),(8,PP 4),(9,PX 5),(10,IK i),(24,IK i),(41,IK k)],(qo (s.1) (s.2.1) (s.2.2.1) (s.2.2.2.1) (s.2.2.2.2.1) (s.2.2.2.2.2)),6⟩:Kst)) (k+1) s'):=by
  rintro k ⟨h,p,f,q,r,e⟩ hlt ⟨k0,k1,k2,k3,k4⟩
  obtain ⟨h',p',f',q',r',e',q0,q1,q2,q3,q4,hT⟩:=sD h p f q r e i k k0 k1 k2 k3 k4 hi hlt
  exact ⟨(h',p',f',q',r',e'),⟨q0,q1,q2,q3,q4⟩,hT⟩
 have last:∀(s:Bool×List At×List At×List At×List At×List At),(AllI s.2.1 300∧AllI s.2.2.1 576∧AllI s.2.2.2.1 24∧AllI s.2.2.2.2.1 300∧AllI s.2.2.2.2.2 48)→∃s':Bool×List At×List At×List At×List At×List At,(AllI s'.2.1 300∧AllI s'.2.2.1 576∧AllI s'.2.2.2.1 24∧AllI s'.2.2.2.2.1 300∧AllI s'.2.2.2.2.2 48)∧To Tryz.prog 147 (c1 (c1 (c2 (c2 (c2 (c1 (c1 (c2 (c2 (c1 (c1 (c2 (c1 (c2 (c2 (c2 (jj Tryz.prog 93))))))))))))))))) ((fun (k:Nat) (s:Bool×List At×List At×List At×List At×List At)=>(⟨[(0,A0),(5,PX 1),(6,PX 2),(7,PX 3),(8,PP 4),(9,PX 5),(10,IK i),(24,IK i),(41,IK k)],(qo (s.1) (s.2.1) (s.2.2.1) (s.2.2.2.1) (s.2.2.2.2.1) (s.2.2.2.2.2)),6⟩:Kst)) (24) s) (.exit 2) ((fun (s:Bool×List At×List At×List At×List At×List At)=>(⟨[(0,A0),(5,PX 1),(6,PX 2),(7,PX 3),(8,PP 4),(9,PX 5),(10,IK i),(24,IK i)],(qo (s.1) (s.2.1) (s.2.2.1) (s.2.2.2.1) (s.2.2.2.2.1) (s.2.2.2.2.2)),6⟩:Kst)) s'):=by
  rintro ⟨h,p,f,q,r,e⟩ ⟨k0,k1,k2,k3,k4⟩
  obtain ⟨h',p',f',q',r',e',q0,q1,q2,q3,q4,hT⟩:=sDe h p f q r e i k0 k1 k2 k3 k4
  exact ⟨(h',p',f',q',r',e'),⟨q0,q1,q2,q3,q4⟩,hT⟩
 obtain ⟨⟨h',p',f',q',r',e'⟩,⟨q0,q1,q2,q3,q4⟩,hT⟩:=qQ (id:=2) (by kernel_rfl) (by kernel_rfl) round last (h,p,f,q,r,e) ⟨hp,hf,hq,hr,he⟩
 exact ⟨h',p',f',q',r',e',q0,q1,q2,q3,q4,hT⟩
theorem mDL (h:Bool) (r e w o y:List At) (j:Nat) (hr:AllI r 300) (he:AllI e 48) (hw:AllI w 1152) (ho:AllI o 300) (hy:AllI y 48) (hj:j<24):∃(h':Bool) (r' e' w' o' y':List At),AllI r' 300∧AllI e' 48∧AllI w' 1152∧AllI o' 300∧AllI y' 48∧To Tryz.prog 147 (c2 (c1 (c2 (c1 (c1 (c2 (c1 (c1 (c2 (c1 (c2 (c2 (c2 (c2 (c2 (c2 (jj Tryz.prog 93))))))))))))))))) ⟨[(0,A0),(8,PP 4),(9,PX 5),(12,PX 6),(13,PX 7),(14,IK j),(15,PX 8),(64,IK 0)],(j6 h r e w o y),9⟩ .normal ⟨[(0,A0),(8,PP 4),(9,PX 5),(12,PX 6),(13,PX 7),(14,IK j),(15,PX 8)],(j6 h' r' e' w' o' y'),9⟩:=by
 have round:∀(m:Nat) (s:Bool×List At×List At×List At×List At×List At),m<48→(AllI s.2.1 300∧AllI s.2.2.1 48∧AllI s.2.2.2.1 1152∧AllI s.2.2.2.2.1 300∧AllI s.2.2.2.2.2 48)→∃s':Bool×List At×List At×List At×List At×List At,(AllI s'.2.1 300∧AllI s'.2.2.1 48∧AllI s'.2.2.2.1 1152∧AllI s'.2.2.2.2.1 300∧AllI s'.2.2.2.2.2 48)∧To Tryz.prog 147 (c1 (c1 (c2 (c1 (c2 (c1 (c1 (c2 (c1 (c1 (c2 (c1 (c2 (c2 (c2 (c2 (c2 (c2 (jj Tryz.prog 93))))))))))))))))))) ((fun (m:Nat) (s:Bool×List At×List At×List At×List At×List At)=>(⟨[(0,A0),(8,PP 4),(9,PX 5),(12,PX 6),(13,PX 7),(14,IK j),(15,PX 8),(64,IK m)],(j6 (s.1) (s.2.1) (s.2.2.1) (s.2.2.2.1) (s.2.2.2.2.1) (s.2.2.2.2.2)),9⟩:Kst)) m s) .normal ((fun (m:Nat) (s:Bool×List At×List At×List At×List At×List At)=>(⟨[(0,A0),(8,PP 4),(9,PX 5),(12,PX 6),(13,PX 7),(14,IK j),(15,PX 8),(64,IK m)],(j6 (s.1) (s.2.1) (s.2.2.1) (s.2.2.2.1) (s.2.2.2.2.1) (s.2.2.2.2.2)),9⟩:Kst)) (m+1) s'):=by
  rintro m ⟨h,r,e,w,o,y⟩ hlt ⟨k0,k1,k2,k3,k4⟩
  obtain ⟨h',r',e',w',o',y',q0,q1,q2,q3,q4,hT⟩:=mD h r e w o y j m k0 k1 k2 k3 k4 hj hlt
  exact ⟨(h',r',e',w',o',y'),⟨q0,q1,q2,q3,q4⟩,hT⟩
 have last:∀(s:Bool×List At×List At×List At×List At×List At),(AllI s.2.1 300∧AllI s.2.2.1 48∧AllI s.2.2.2.1 1152∧AllI s.2.2.2.2.1 300∧AllI s.2.2.2.2.2 48)→∃s':Bool×List At×List At×List At×List At×List At,(AllI s'.2.1 300∧AllI s'.2.2.1 48∧AllI s'.2.2.2.1 1152∧AllI s'.2.2.2.2.1 300∧AllI s'.2.2.2.2.2 48)∧To Tryz.prog 147 (c1 (c1 (c2 (c1 (c2 (c1 (c1 (c2 (c1 (c1 (c2 (c1 (c2 (c2 (c2 (c2 (c2 (c2 (jj Tryz.prog 93))))))))))))))))))) ((fun (m:Nat) (s:Bool×List At×List At×List At×List At×List At)=>(⟨[(0,A0),(8,PP 4),(9,PX 5),(12,PX 6),(13,PX 7),(14,IK j),(15,PX 8),(64,IK m)],(j6 (s.1) (s.2.1) (s.2.2.1) (s.2.2.2.1) (s.2.2.2.2.1) (s.2.2.2.2.2)),9⟩:Kst)) (48) s) (.exit 6) ((fun (s:Bool×List At×List At×List At×List At×List At)=>(⟨[(0,A0),(8,PP 4),(9,PX 5),(12,PX 6),(13,PX 7),(14,IK j),(15,PX 8)],(j6 (s.1) (s.2.1) (s.2.2.1) (s.2.2.2.1) (s.2.2.2.2.1) (s.2.2.2.2.2)),9⟩:Kst)) s'):=by
  rintro ⟨h,r,e,w,o,y⟩ ⟨k0,k1,k2,k3,k4⟩
  obtain ⟨h',r',e',w',o',y',q0,q1,q2,q3,q4,hT⟩:=mDe h r e w o y j k0 k1 k2 k3 k4
  exact ⟨(h',r',e',w',o',y'),⟨q0,q1,q2,q3,q4⟩,hT⟩
 obtain ⟨⟨h',r',e',w',o',y'⟩,⟨q0,q1,q2,q3,q4⟩,hT⟩:=qQ (id:=6) (by kernel_rfl) (by kernel_rfl) round last (h,r,e,w,o,y) ⟨hr,he,hw,ho,hy⟩
 exact ⟨h',r',e',w',o',y',q0,q1,q2,q3,q4,hT⟩
theorem iEL (h:Bool) (r e w o y:List At) (j i:Nat) (d u:Int) (hr:AllI r 300) (he:AllI e 48) (hw:AllI w 1152) (ho:AllI o 300) (hy:AllI y 48) (hj:j<24) (hi:i<j):∃(h':Bool) (r' e' w' o' y':List At),AllI r' 300∧AllI e' 48∧AllI w' 1152∧AllI o' 300∧AllI y' 48∧To Tryz.prog 147 (c2 (c2 (c2 (c2 (c1 (c1 (c2 (c2 (c1 (c1 (c2 (c2 (c2 (c2 (c2 (c1 (c1 (c2 (c1 (c1 (c2 (c1 (c2 (c2 (c2 (c2 (c2 (c2 (jj Tryz.prog 93))))))))))))))))))))))))))))) ⟨[(0,A0),(8,PP 4),(9,PX 5),(12,PX 6),(13,PX 7),(14,IK j),(15,PX 8),(17,I d),(96,IK j),(97,IK i),(18,IK i),(19,I u),(116,IK 0)],(j6 h r e w o y),9⟩ .normal ⟨[(0,A0),(8,PP 4),(9,PX 5),(12,PX 6),(13,PX 7),(14,IK j),(15,PX 8),(17,I d),(96,IK j),(97,IK i),(18,IK i),(19,I u)],(j6 h' r' e' w' o' y'),9⟩:=by
 have round:∀(k:Nat) (s:Bool×List At×List At×List At×List At×List At),k<48→(AllI s.2.1 300∧AllI s.2.2.1 48∧AllI s.2.2.2.1 1152∧AllI s.2.2.2.2.1 300∧AllI s.2.2.2.2.2 48)→∃s':Bool×List At×List At×List At×List At×List At,(AllI s'.2.1 300∧AllI s'.2.2.1 48∧AllI s'.2.2.2.1 1152∧AllI s'.2.2.2.2.1 300∧AllI s'.2.2.2.2.2 48)∧To Tryz.prog 147 (c1 (c1 (c2 (c2 (c2 (c2 (c1 (c1 (c2 (c2 (c1 (c1 (c2 (c2 (c2 (c2 (c2 (c1 (c1 (c2 (c1 (c1 (c2 (c1 (c2 (c2 (c2 (c2 (c2 (c2 (jj Tryz.prog 93))))))))))))))))))))))))))))))) ((fun (k:Nat) (s:Bool×List At×List At×List At×List At×List At)=>(⟨[(0,A0),(8,PP 4),(9,PX 5),(12,PX 6),(13,PX 7),(14,IK j),(15,PX 8),(17,I d),(96,IK j),(97,IK i),(18,IK i),(19,I u),(116,IK k)],(j6 (s.1) (s.2.1) (s.2.2.1) (s.2.2.2.1) (s.2.2.2.2.1) (s.2.2.2.2.2)),9⟩:Kst)) k s) .normal ((fun (k:Nat) (s:Bool×List At×List At×List At×List At×List At)=>(⟨[(0,A0),(8,PP 4),(9,PX 5),(12,PX 6),(13,PX 7),(14,IK j),(15,PX 8),(17,I d),(96,IK j),(97,IK i),(18,IK i),(19,I u),(116,IK k)],(j6 (s.1) (s.2.1) (s.2.2.1) (s.2.2.2.1) (s.2.2.2.2.1) (s.2.2.2.2.2)),9⟩:Kst)) (k+1) s'):=by
  rintro k ⟨h,r,e,w,o,y⟩ hlt ⟨k0,k1,k2,k3,k4⟩
  obtain ⟨h',r',e',w',o',y',q0,q1,q2,q3,q4,hT⟩:=iE h r e w o y j i d u k k0 k1 k2 k3 k4 hj hi hlt
  exact ⟨(h',r',e',w',o',y'),⟨q0,q1,q2,q3,q4⟩,hT⟩
 have last:∀(s:Bool×List At×List At×List At×List At×List At),(AllI s.2.1 300∧AllI s.2.2.1 48∧AllI s.2.2.2.1 1152∧AllI s.2.2.2.2.1 300∧AllI s.2.2.2.2.2 48)→∃s':Bool×List At×List At×List At×List At×List At,(AllI s'.2.1 300∧AllI s'.2.2.1 48∧AllI s'.2.2.2.1 1152∧AllI s'.2.2.2.2.1 300∧AllI s'.2.2.2.2.2 48)∧To Tryz.prog 147 (c1 (c1 (c2 (c2 (c2 (c2 (c1 (c1 (c2 (c2 (c1 (c1 (c2 (c2 (c2 (c2 (c2 (c1 (c1 (c2 (c1 (c1 (c2 (c1 (c2 (c2 (c2 (c2 (c2 (c2 (jj Tryz.prog 93))))))))))))))))))))))))))))))) ((fun (k:Nat) (s:Bool×List At×List At×List At×List At×List At)=>(⟨[(0,A0),(8,PP 4),(9,PX 5),(12,PX 6),(13,PX 7),(14,IK j),(15,PX 8),(17,I d),(96,IK j),(97,IK i),(18,IK i),(19,I u),(116,IK k)],(j6 (s.1) (s.2.1) (s.2.2.1) (s.2.2.2.1) (s.2.2.2.2.1) (s.2.2.2.2.2)),9⟩:Kst)) (48) s) (.exit 10) ((fun (s:Bool×List At×List At×List At×List At×List At)=>(⟨[(0,A0),(8,PP 4),(9,PX 5),(12,PX 6),(13,PX 7),(14,IK j),(15,PX 8),(17,I d),(96,IK j),(97,IK i),(18,IK i),(19,I u)],(j6 (s.1) (s.2.1) (s.2.2.1) (s.2.2.2.1) (s.2.2.2.2.1) (s.2.2.2.2.2)),9⟩:Kst)) s'):=by
  rintro ⟨h,r,e,w,o,y⟩ ⟨k0,k1,k2,k3,k4⟩
  obtain ⟨h',r',e',w',o',y',q0,q1,q2,q3,q4,hT⟩:=iEe h r e w o y j i d u k0 k1 k2 k3 k4
  exact ⟨(h',r',e',w',o',y'),⟨q0,q1,q2,q3,q4⟩,hT⟩
 obtain ⟨⟨h',r',e',w',o',y'⟩,⟨q0,q1,q2,q3,q4⟩,hT⟩:=qQ (id:=10) (by kernel_rfl) (by kernel_rfl) round last (h,r,e,w,o,y) ⟨hr,he,hw,ho,hy⟩
 exact ⟨h',r',e',w',o',y',q0,q1,q2,q3,q4,hT⟩
end Go.Proofs.YtbpfipbhaagllaaGreat

/- thornton.Step: its loops together; its summary: numbers, whatever they are. -/
namespace Go.Proofs.YtbpfipbhaagllaaGreat
open Go.Lr
set_option maxRecDepth 20000
abbrev zm (h:Bool) (x0 x1 x2 x3 x4:List At):Mem:=[(0,flag 63 h),(4,⟨67,(0,0),0,x0⟩),(5,⟨259,(0,0),0,x1⟩),(6,⟨320,(0,0),0,x2⟩),(7,⟨67,(0,0),0,x3⟩),(8,⟨259,(0,0),0,x4⟩)]
abbrev jt6 (h:Bool) (x0 x1 x2 x3 x4:List At):List Blk:=[flag 63 h,⟨67,(0,0),0,x0⟩,⟨259,(0,0),0,x1⟩,⟨320,(0,0),0,x2⟩,⟨67,(0,0),0,x3⟩,⟨259,(0,0),0,x4⟩]
abbrev Y9 (h:Bool) (x0 x1 x2 x3 x4:List At):Mem:=[(0,flag 63 h),(1,⟨67,(0,0),0,x0⟩),(2,⟨196,(0,0),0,x1⟩),(3,⟨25,(0,0),0,x2⟩),(4,⟨67,(0,0),0,x3⟩),(5,⟨259,(0,0),0,x4⟩)]
abbrev Zb (h:Bool) (x0 x1 x2 x3:List At):Mem:=[(0,flag 63 h),(4,⟨67,(0,0),0,x0⟩),(5,⟨259,(0,0),0,x1⟩),(6,⟨320,(0,0),0,x2⟩),(7,⟨67,(0,0),0,x3⟩)]
abbrev jt7 (h:Bool) (x0 x1 x2 x3:List At):List Blk:=[flag 63 h,⟨67,(0,0),0,x0⟩,⟨259,(0,0),0,x1⟩,⟨320,(0,0),0,x2⟩,⟨67,(0,0),0,x3⟩]
theorem ok1 {nb:Nat} (hnb:9≤nb+3) {h:Bool} {p f q r e:List At} (hp:AllI p 300) (hf:AllI f 576) (hq:AllI q 24) (hr:AllI r 300) (he:AllI e 48):jY nb (Y9 h p f q r e)=true:=
 jE (by omega) rfl rfl (jE (by omega) (hp.okb _) rfl (jE (by omega) (hf.okb _) rfl (jE (by omega) (hq.okb _) rfl (jE (by omega) (hr.okb _) rfl (jE (by omega) (he.okb _) rfl jH)))))
theorem ok3 {nb:Nat} (hnb:9≤nb+1) {h:Bool} {r e w o:List At} (hr:AllI r 300) (he:AllI e 48) (hw:AllI w 1152) (ho:AllI o 300):jY nb (Zb h r e w o)=true:=
 jE (by omega) rfl rfl (jE (by omega) (hr.okb _) rfl (jE (by omega) (he.okb _) rfl (jE (by omega) (hw.okb _) rfl (jE (by omega) (ho.okb _) rfl jH))))
theorem ok4 {nb:Nat} (hnb:9≤nb+0) {h:Bool} {r e w o y:List At} (hr:AllI r 300) (he:AllI e 48) (hw:AllI w 1152) (ho:AllI o 300) (hy:AllI y 48):jY nb (zm h r e w o y)=true:=
 jE (by omega) rfl rfl (jE (by omega) (hr.okb _) rfl (jE (by omega) (he.okb _) rfl (jE (by omega) (hw.okb _) rfl (jE (by omega) (ho.okb _) rfl (jE (by omega) (hy.okb _) rfl jH)))))
theorem sO (h:Bool) (p f q r e:List At) (i:Nat) (hp:AllI p 300) (hf:AllI f 576) (hq:AllI q 24) (hr:AllI r 300) (he:AllI e 48) (hi:i<24):∃(h':Bool) (p' f' q' r' e':List At),AllI p' 300∧AllI f' 576∧AllI q' 24∧AllI r' 300∧AllI e' 48∧To Tryz.prog 147 (c1 (c1 (c2 (c1 (c2 (c2 (c2 (jj Tryz.prog 93)))))))) ⟨[(0,A0),(5,PX 1),(6,PX 2),(7,PX 3),(8,PP 4),(9,PX 5),(24,IK i)],(Y9 h p f q r e),6⟩ .normal ⟨[(0,A0),(5,PX 1),(6,PX 2),(7,PX 3),(8,PP 4),(9,PX 5),(24,IK (i+1))],(Y9 h' p' f' q' r' e'),6⟩:=by
 obtain ⟨h1,p1,f1,q1,r1,e1,zp1,zf1,zq1,zr1,ze1,t1⟩:=sA h p f q r e i hp hf hq hr he hi
 obtain ⟨h2,p2,f2,q2,r2,e2,zp2,zf2,zq2,zr2,ze2,t2⟩:=sB h1 p1 f1 q1 r1 e1 i zp1 zf1 zq1 zr1 ze1 hi
 obtain ⟨h3,p3,f3,q3,r3,e3,zp3,zf3,zq3,zr3,ze3,t3⟩:=sC h2 p2 f2 q2 r2 e2 i zp2 zf2 zq2 zr2 ze2
 obtain ⟨h4,p4,f4,q4,r4,e4,zp4,zf4,zq4,zr4,ze4,t4⟩:=sDL h3 p3 f3 q3 r3 e3 i zp3 zf3 zq3 zr3 ze3 hi
 obtain ⟨h5,p5,f5,q5,r5,e5,zp5,zf5,zq5,zr5,ze5,t5⟩:=sE h4 p4 f4 q4 r4 e4 i zp4 zf4 zq4 zr4 ze4 hi
 exact ⟨h5,p5,f5,q5,r5,e5,zp5,zf5,zq5,zr5,ze5,t1 _ _ (To.seq (by kernel_rfl) (To.block (id:=1) (by kernel_rfl) (t2 _ _ (To.seq (by kernel_rfl) t3 t4)) (.inr rfl)) t5)⟩
theorem sOL (h:Bool) (p f q r e:List At) (hp:AllI p 300) (hf:AllI f 576) (hq:AllI q 24) (hr:AllI r 300) (he:AllI e 48):∃(h':Bool) (p' f' q' r' e':List At),AllI p' 300∧AllI f' 576∧AllI q' 24∧AllI r' 300∧AllI e' 48∧To Tryz.prog 147 (c2 (c1 (c2 (c2 (c2 (jj Tryz.prog 93)))))) ⟨[(0,A0),(5,PX 1),(6,PX 2),(7,PX 3),(8,PP 4),(9,PX 5),(24,IK 0)],(Y9 h p f q r e),6⟩ .normal ⟨[(0,A0),(5,PX 1),(6,PX 2),(7,PX 3),(8,PP 4),(9,PX 5)],(Y9 h' p' f' q' r' e'),6⟩:=by
 have round:∀(i:Nat) (s:Bool×List At×List At×List At×List At×List At),i<24→(AllI s.2.1 300∧AllI s.2.2.1 576∧AllI s.2.2.2.1 24∧AllI s.2.2.2.2.1 300∧AllI s.2.2.2.2.2 48)→∃s':Bool×List At×List At×List At×List At×List At,(AllI s'.2.1 300∧AllI s'.2.2.1 576∧AllI s'.2.2.2.1 24∧AllI s'.2.2.2.2.1 300∧AllI s'.2.2.2.2.2 48)∧To Tryz.prog 147 (c1 (c1 (c2 (c1 (c2 (c2 (c2 (jj Tryz.prog 93)))))))) ((fun (i:Nat) (s:Bool×List At×List At×List At×List At×List At)=>(⟨[(0,A0),(5,PX 1),(6,PX 2),(7,PX 3),(8,PP 4),(9,PX 5),(24,IK i)],(Y9 (s.1) (s.2.1) (s.2.2.1) (s.2.2.2.1) (s.2.2.2.2.1) (s.2.2.2.2.2)),6⟩:Kst)) i s) .normal ((fun (i:Nat) (s:Bool×List At×List At×List At×List At×List At)=>(⟨[(0,A0),(5,PX 1),(6,PX 2),(7,PX 3),(8,PP 4),(9,PX 5),(24,IK i)],(Y9 (s.1) (s.2.1) (s.2.2.1) (s.2.2.2.1) (s.2.2.2.2.1) (s.2.2.2.2.2)),6⟩:Kst)) (i+1) s'):=by
  rintro i ⟨h,p,f,q,r,e⟩ hlt ⟨k0,k1,k2,k3,k4⟩
  obtain ⟨h',p',f',q',r',e',q0,q1,q2,q3,q4,hT⟩:=sO h p f q r e i k0 k1 k2 k3 k4 hlt
  exact ⟨(h',p',f',q',r',e'),⟨q0,q1,q2,q3,q4⟩,hT⟩
 have last:∀(s:Bool×List At×List At×List At×List At×List At),(AllI s.2.1 300∧AllI s.2.2.1 576∧AllI s.2.2.2.1 24∧AllI s.2.2.2.2.1 300∧AllI s.2.2.2.2.2 48)→∃s':Bool×List At×List At×List At×List At×List At,(AllI s'.2.1 300∧AllI s'.2.2.1 576∧AllI s'.2.2.2.1 24∧AllI s'.2.2.2.2.1 300∧AllI s'.2.2.2.2.2 48)∧To Tryz.prog 147 (c1 (c1 (c2 (c1 (c2 (c2 (c2 (jj Tryz.prog 93)))))))) ((fun (i:Nat) (s:Bool×List At×List At×List At×List At×List At)=>(⟨[(0,A0),(5,PX 1),(6,PX 2),(7,PX 3),(8,PP 4),(9,PX 5),(24,IK i)],(Y9 (s.1) (s.2.1) (s.2.2.1) (s.2.2.2.1) (s.2.2.2.2.1) (s.2.2.2.2.2)),6⟩:Kst)) (24) s) (.exit 0) ((fun (s:Bool×List At×List At×List At×List At×List At)=>(⟨[(0,A0),(5,PX 1),(6,PX 2),(7,PX 3),(8,PP 4),(9,PX 5)],(Y9 (s.1) (s.2.1) (s.2.2.1) (s.2.2.2.1) (s.2.2.2.2.1) (s.2.2.2.2.2)),6⟩:Kst)) s'):=by
  rintro ⟨h,p,f,q,r,e⟩ ⟨k0,k1,k2,k3,k4⟩
  obtain ⟨h',p',f',q',r',e',q0,q1,q2,q3,q4,hT⟩:=sAe h p f q r e k0 k1 k2 k3 k4
  exact ⟨(h',p',f',q',r',e'),⟨q0,q1,q2,q3,q4⟩,hT⟩
 obtain ⟨⟨h',p',f',q',r',e'⟩,⟨q0,q1,q2,q3,q4⟩,hT⟩:=qQ (id:=0) (by kernel_rfl) (by kernel_rfl) round last (h,p,f,q,r,e) ⟨hp,hf,hq,hr,he⟩
 exact ⟨h',p',f',q',r',e',q0,q1,q2,q3,q4,hT⟩
theorem iCR (dead:Nat→Value) (h:Bool) (r e w o y:List At) (j i:Nat) (d u:Int):ju [0,8,9,12,13,14,15,17,96,97,18,19] [0,4,5,6,7,8] (exec Tryz.prog KA2 Zl 400 (.code (c1 (c2 (c2 (c1 (c1 (c2 (c2 (c1 (c1 (c2 (c2 (c2 (c2 (c2 (c1 (c1 (c2 (c1 (c1 (c2 (c1 (c2 (c2 (c2 (c2 (c2 (c2 (jj Tryz.prog 93))))))))))))))))))))))))))))) (Kst.st ⟨[(0,A0),(8,PP 4),(9,PX 5),(12,PX 6),(13,PP 7),(14,IK j),(15,PX 8),(17,I d),(96,IK j),(97,IK i),(18,IK i),(19,I u)],(zm h r e w (jp o 0 300) y),9⟩ 147 dead []))=some (.normal,[A0,PP 4,PX 5,PX 6,PP 7,IK j,PX 8,I d,IK j,IK i,IK i,I u],[some (flag 63 h),some ⟨67,(0,0),0,r⟩,some ⟨259,(0,0),0,e⟩,some ⟨320,(0,0),0,w⟩,some ⟨67,(0,0),0,jp ((jp o 0 300).set (0+0+(plV (i:Int) (j:Int)).toNat*1) (.int .i64 u)) 0 300⟩,some ⟨259,(0,0),0,y⟩],[(decide (0≤(i:Int)),true),(decide ((i:Int)<(j:Int)),true),(decide ((j:Int)<24),true)]):=by kernel_rfl
theorem iC (h:Bool) (r e w o y:List At) (j i:Nat) (d u:Int) (hr:AllI r 300) (he:AllI e 48) (hw:AllI w 1152) (ho:AllI o 300) (hy:AllI y 48) (hj:j<24) (hi:i<j):∃(h':Bool) (r' e' w' o' y':List At),AllI r' 300∧AllI e' 48∧AllI w' 1152∧AllI o' 300∧AllI y' 48∧To Tryz.prog 147 (c1 (c2 (c2 (c1 (c1 (c2 (c2 (c1 (c1 (c2 (c2 (c2 (c2 (c2 (c1 (c1 (c2 (c1 (c1 (c2 (c1 (c2 (c2 (c2 (c2 (c2 (c2 (jj Tryz.prog 93)))))))))))))))))))))))))))) ⟨[(0,A0),(8,PP 4),(9,PX 5),(12,PX 6),(13,PX 7),(14,IK j),(15,PX 8),(17,I d),(96,IK j),(97,IK i),(18,IK i),(19,I u)],(zm h r e w o y),9⟩ .normal ⟨[(0,A0),(8,PP 4),(9,PX 5),(12,PX 6),(13,PX 7),(14,IK j),(15,PX 8),(17,I d),(96,IK j),(97,IK i),(18,IK i),(19,I u)],(zm h' r' e' w' o' y'),9⟩:=by
 have ho2:AllI (jp ((jp o 0 300).set (0+0+(plV (i:Int) (j:Int)).toNat*1) (.int .i64 u)) 0 300) 300:=AllI.ints _ _ _
 refine ⟨h,r,e,w,(jp ((jp o 0 300).set (0+0+(plV (i:Int) (j:Int)).toNat*1) (.int .i64 u)) 0 300),y,hr,he,hw,ho2,hy, ?_⟩
 have hio:=AllI.ints o 0 300
 have key:To Tryz.prog 147 (c1 (c2 (c2 (c1 (c1 (c2 (c2 (c1 (c1 (c2 (c2 (c2 (c2 (c2 (c1 (c1 (c2 (c1 (c1 (c2 (c1 (c2 (c2 (c2 (c2 (c2 (c2 (jj Tryz.prog 93)))))))))))))))))))))))))))) ⟨[(0,A0),(8,PP 4),(9,PX 5),(12,PX 6),(13,PX 7),(14,IK j),(15,PX 8),(17,I d),(96,IK j),(97,IK i),(18,IK i),(19,I u)],(zm h r e w (jp o 0 300) y),9⟩ .normal ⟨[(0,A0),(8,PP 4),(9,PX 5),(12,PX 6),(13,PX 7),(14,IK j),(15,PX 8),(17,I d),(96,IK j),(97,IK i),(18,IK i),(19,I u)],(zm h r e w (jp ((jp o 0 300).set (0+0+(plV (i:Int) (j:Int)).toNat*1) (.int .i64 u)) 0 300) y),9⟩:=by
  refine To.post (B:=⟨[(0,A0),(8,PP 4),(9,PX 5),(12,PX 6),(13,PP 7),(14,IK j),(15,PX 8),(17,I d),(96,IK j),(97,IK i),(18,IK i),(19,I u)],(zm h r e w (jp ((jp o 0 300).set (0+0+(plV (i:Int) (j:Int)).toNat*1) (.int .i64 u)) 0 300) y),9⟩) (To.pre (B:=⟨[(0,A0),(8,PP 4),(9,PX 5),(12,PX 6),(13,PP 7),(14,IK j),(15,PX 8),(17,I d),(96,IK j),(97,IK i),(18,IK i),(19,I u)],(zm h r e w (jp o 0 300) y),9⟩) (To.exec (z:=Zl) jN (slots:=[0,8,9,12,13,14,15,17,96,97,18,19]) (blks:=[0,4,5,6,7,8]) (vs:=[A0,PP 4,PX 5,PX 6,PP 7,IK j,PX 8,I d,IK j,IK i,IK i,I u]) (bs:=(jt6 h r e w (jp ((jp o 0 300).set (0+0+(plV (i:Int) (j:Int)).toNat*1) (.int .i64 u)) 0 300) y)) (nbB:=9) (fun dead=>iCR dead h r e w o y j i d u) (ja (decide_eq_true (by omega)) (ja (decide_eq_true (by omega)) (ja (decide_eq_true (by omega)) jd))) (jr rfl (ok4 (by omega) hr he hw ho2 hy)) (Nat.le_refl _)) (jr rfl (ok4 (by omega) hr he hw hio hy)) (fun q hq=>by
   simp only [List.mem_cons,List.not_mem_nil,or_false] at hq
   rcases hq with rfl | rfl | rfl | rfl | rfl | rfl | rfl | rfl | rfl | rfl | rfl | rfl
   ·exact ⟨A0,by simp,fun _=>rfl⟩
   ·exact ⟨PP 4,by simp,fun _=>rfl⟩
   ·exact ⟨PX 5,by simp,fun _=>rfl⟩
   ·exact ⟨PX 6,by simp,fun _=>rfl⟩
   ·exact ⟨PX 7,by simp,fun _=>rfl⟩
   ·exact ⟨IK j,by simp,fun _=>rfl⟩
   ·exact ⟨PX 8,by simp,fun _=>rfl⟩
   ·exact ⟨I d,by simp,fun _=>rfl⟩
   ·exact ⟨IK j,by simp,fun _=>rfl⟩
   ·exact ⟨IK i,by simp,fun _=>rfl⟩
   ·exact ⟨IK i,by simp,fun _=>rfl⟩
   ·exact ⟨I u,by simp,fun _=>rfl⟩
   ) rfl rfl) (jr rfl (ok4 (by omega) hr he hw ho2 hy)) (fun q hq=>by
   simp only [List.mem_cons,List.not_mem_nil,or_false] at hq
   rcases hq with rfl | rfl | rfl | rfl | rfl | rfl | rfl | rfl | rfl | rfl | rfl | rfl
   ·exact ⟨A0,by simp,fun _=>rfl⟩
   ·exact ⟨PP 4,by simp,fun _=>rfl⟩
   ·exact ⟨PX 5,by simp,fun _=>rfl⟩
   ·exact ⟨PX 6,by simp,fun _=>rfl⟩
   ·exact ⟨PP 7,by simp,fun _=>rfl⟩
   ·exact ⟨IK j,by simp,fun _=>rfl⟩
   ·exact ⟨PX 8,by simp,fun _=>rfl⟩
   ·exact ⟨I d,by simp,fun _=>rfl⟩
   ·exact ⟨IK j,by simp,fun _=>rfl⟩
   ·exact ⟨IK i,by simp,fun _=>rfl⟩
   ·exact ⟨IK i,by simp,fun _=>rfl⟩
   ·exact ⟨I u,by simp,fun _=>rfl⟩
   ) rfl rfl
 have eo:jp o 0 300=o:=ho.eq.symm
 generalize jp ((jp o 0 300).set (0+0+(plV (i:Int) (j:Int)).toNat*1) (.int .i64 u)) 0 300=o2 at key ho2 ⊢
 rw [eo] at key
 exact key
theorem iO (h:Bool) (r e w o y:List At) (j:Nat) (d:Int) (i:Nat) (hr:AllI r 300) (he:AllI e 48) (hw:AllI w 1152) (ho:AllI o 300) (hy:AllI y 48) (hj:j<24) (hi:i<j):∃(h':Bool) (r' e' w' o' y':List At),AllI r' 300∧AllI e' 48∧AllI w' 1152∧AllI o' 300∧AllI y' 48∧To Tryz.prog 147 (c1 (c1 (c2 (c2 (c2 (c2 (c2 (c1 (c1 (c2 (c1 (c1 (c2 (c1 (c2 (c2 (c2 (c2 (c2 (c2 (jj Tryz.prog 93))))))))))))))))))))) ⟨[(0,A0),(8,PP 4),(9,PX 5),(12,PX 6),(13,PX 7),(14,IK j),(15,PX 8),(17,I d),(96,IK j),(97,IK i)],(zm h r e w o y),9⟩ .normal ⟨[(0,A0),(8,PP 4),(9,PX 5),(12,PX 6),(13,PX 7),(14,IK j),(15,PX 8),(17,I d),(96,IK j),(97,IK (i+1))],(zm h' r' e' w' o' y'),9⟩:=by
 obtain ⟨h1,r1,e1,w1,o1,y1,zr1,ze1,zw1,zo1,zy1,t1⟩:=iA h r e w o y j i d hr he hw ho hy hi
 obtain ⟨u,h2,r2,e2,w2,o2,y2,zr2,ze2,zw2,zo2,zy2,t2⟩:=iB h1 r1 e1 w1 o1 y1 j i d zr1 ze1 zw1 zo1 zy1 hj hi
 obtain ⟨h3,r3,e3,w3,o3,y3,zr3,ze3,zw3,zo3,zy3,t3⟩:=iC h2 r2 e2 w2 o2 y2 j i d u zr2 ze2 zw2 zo2 zy2 hj hi
 obtain ⟨h4,r4,e4,w4,o4,y4,zr4,ze4,zw4,zo4,zy4,t4⟩:=iD h3 r3 e3 w3 o3 y3 j i d u zr3 ze3 zw3 zo3 zy3
 obtain ⟨h5,r5,e5,w5,o5,y5,zr5,ze5,zw5,zo5,zy5,t5⟩:=iEL h4 r4 e4 w4 o4 y4 j i d u zr4 ze4 zw4 zo4 zy4 hj hi
 obtain ⟨h6,r6,e6,w6,o6,y6,zr6,ze6,zw6,zo6,zy6,t6⟩:=iF h5 r5 e5 w5 o5 y5 j i d u zr5 ze5 zw5 zo5 zy5 hj hi
 exact ⟨h6,r6,e6,w6,o6,y6,zr6,ze6,zw6,zo6,zy6,t1 _ _ (To.seq (by kernel_rfl) (To.block (id:=9) (by kernel_rfl) (t2 _ _ (To.seq (by kernel_rfl) t3 (To.seq (by kernel_rfl) t4 t5))) (.inr rfl)) t6)⟩
theorem iOL (h:Bool) (r e w o y:List At) (j:Nat) (d:Int) (hr:AllI r 300) (he:AllI e 48) (hw:AllI w 1152) (ho:AllI o 300) (hy:AllI y 48) (hj:j<24):∃(h':Bool) (r' e' w' o' y':List At),AllI r' 300∧AllI e' 48∧AllI w' 1152∧AllI o' 300∧AllI y' 48∧To Tryz.prog 147 (c2 (c2 (c2 (c2 (c2 (c1 (c1 (c2 (c1 (c1 (c2 (c1 (c2 (c2 (c2 (c2 (c2 (c2 (jj Tryz.prog 93))))))))))))))))))) ⟨[(0,A0),(8,PP 4),(9,PX 5),(12,PX 6),(13,PX 7),(14,IK j),(15,PX 8),(17,I d),(96,IK j),(97,IK 0)],(zm h r e w o y),9⟩ .normal ⟨[(0,A0),(8,PP 4),(9,PX 5),(12,PX 6),(13,PX 7),(14,IK j)],(zm h' r' e' w' o' y'),9⟩:=by
 have round:∀(i:Nat) (s:Bool×List At×List At×List At×List At×List At),i<j→(AllI s.2.1 300∧AllI s.2.2.1 48∧AllI s.2.2.2.1 1152∧AllI s.2.2.2.2.1 300∧AllI s.2.2.2.2.2 48)→∃s':Bool×List At×List At×List At×List At×List At,(AllI s'.2.1 300∧AllI s'.2.2.1 48∧AllI s'.2.2.2.1 1152∧AllI s'.2.2.2.2.1 300∧AllI s'.2.2.2.2.2 48)∧To Tryz.prog 147 (c1 (c1 (c2 (c2 (c2 (c2 (c2 (c1 (c1 (c2 (c1 (c1 (c2 (c1 (c2 (c2 (c2 (c2 (c2 (c2 (jj Tryz.prog 93))))))))))))))))))))) ((fun (i:Nat) (s:Bool×List At×List At×List At×List At×List At)=>(⟨[(0,A0),(8,PP 4),(9,PX 5),(12,PX 6),(13,PX 7),(14,IK j),(15,PX 8),(17,I d),(96,IK j),(97,IK i)],(zm (s.1) (s.2.1) (s.2.2.1) (s.2.2.2.1) (s.2.2.2.2.1) (s.2.2.2.2.2)),9⟩:Kst)) i s) .normal ((fun (i:Nat) (s:Bool×List At×List At×List At×List At×List At)=>(⟨[(0,A0),(8,PP 4),(9,PX 5),(12,PX 6),(13,PX 7),(14,IK j),(15,PX 8),(17,I d),(96,IK j),(97,IK i)],(zm (s.1) (s.2.1) (s.2.2.1) (s.2.2.2.1) (s.2.2.2.2.1) (s.2.2.2.2.2)),9⟩:Kst)) (i+1) s'):=by
  rintro i ⟨h,r,e,w,o,y⟩ hlt ⟨k0,k1,k2,k3,k4⟩
  obtain ⟨h',r',e',w',o',y',q0,q1,q2,q3,q4,hT⟩:=iO h r e w o y j d i k0 k1 k2 k3 k4 hj hlt
  exact ⟨(h',r',e',w',o',y'),⟨q0,q1,q2,q3,q4⟩,hT⟩
 have last:∀(s:Bool×List At×List At×List At×List At×List At),(AllI s.2.1 300∧AllI s.2.2.1 48∧AllI s.2.2.2.1 1152∧AllI s.2.2.2.2.1 300∧AllI s.2.2.2.2.2 48)→∃s':Bool×List At×List At×List At×List At×List At,(AllI s'.2.1 300∧AllI s'.2.2.1 48∧AllI s'.2.2.2.1 1152∧AllI s'.2.2.2.2.1 300∧AllI s'.2.2.2.2.2 48)∧To Tryz.prog 147 (c1 (c1 (c2 (c2 (c2 (c2 (c2 (c1 (c1 (c2 (c1 (c1 (c2 (c1 (c2 (c2 (c2 (c2 (c2 (c2 (jj Tryz.prog 93))))))))))))))))))))) ((fun (i:Nat) (s:Bool×List At×List At×List At×List At×List At)=>(⟨[(0,A0),(8,PP 4),(9,PX 5),(12,PX 6),(13,PX 7),(14,IK j),(15,PX 8),(17,I d),(96,IK j),(97,IK i)],(zm (s.1) (s.2.1) (s.2.2.1) (s.2.2.2.1) (s.2.2.2.2.1) (s.2.2.2.2.2)),9⟩:Kst)) (j) s) (.exit 8) ((fun (s:Bool×List At×List At×List At×List At×List At)=>(⟨[(0,A0),(8,PP 4),(9,PX 5),(12,PX 6),(13,PX 7),(14,IK j)],(zm (s.1) (s.2.1) (s.2.2.1) (s.2.2.2.1) (s.2.2.2.2.1) (s.2.2.2.2.2)),9⟩:Kst)) s'):=by
  rintro ⟨h,r,e,w,o,y⟩ ⟨k0,k1,k2,k3,k4⟩
  obtain ⟨h',r',e',w',o',y',q0,q1,q2,q3,q4,hT⟩:=iAe h r e w o y j d k0 k1 k2 k3 k4
  exact ⟨(h',r',e',w',o',y'),⟨q0,q1,q2,q3,q4⟩,hT⟩
 obtain ⟨⟨h',r',e',w',o',y'⟩,⟨q0,q1,q2,q3,q4⟩,hT⟩:=qQ (id:=8) (by kernel_rfl) (by kernel_rfl) round last (h,r,e,w,o,y) ⟨hr,he,hw,ho,hy⟩
 exact ⟨h',r',e',w',o',y',q0,q1,q2,q3,q4,hT⟩
theorem mHR (dead:Nat→Value) (h:Bool) (r e w o y:List At) (j:Nat):ju [0,8,9,12,13,14] [0,4,5,6,7] (exec Tryz.prog KA2 Zl 400 (.code (c2 (c2 (c1 (c1 (c2 (c1 (c2 (c2 (c2 (c2 (c2 (c2 (jj Tryz.prog 93)))))))))))))) (Kst.st ⟨[(0,A0),(8,PP 4),(9,PX 5),(12,PX 6),(13,PX 7),(14,IK j)],(zm h r e w o y),9⟩ 147 dead []))=some (.normal,[A0,PP 4,PX 5,PX 6,PX 7,I (wr .i64 ((j:Int) - 1))],[some (flag 63 h),some ⟨67,(0,0),0,r⟩,some ⟨259,(0,0),0,e⟩,some ⟨320,(0,0),0,w⟩,some ⟨67,(0,0),0,o⟩],[]):=by kernel_rfl
theorem mO (h:Bool) (r e w o:List At) (k:Nat) (hr:AllI r 300) (he:AllI e 48) (hw:AllI w 1152) (ho:AllI o 300) (hk:k<24):∃(h':Bool) (r' e' w' o':List At),AllI r' 300∧AllI e' 48∧AllI w' 1152∧AllI o' 300∧To Tryz.prog 147 (c1 (c1 (c2 (c1 (c2 (c2 (c2 (c2 (c2 (c2 (jj Tryz.prog 93))))))))))) ⟨[(0,A0),(8,PP 4),(9,PX 5),(12,PX 6),(13,PX 7),(14,I (23 - (k:Int)))],(Zb h r e w o),8⟩ .normal ⟨[(0,A0),(8,PP 4),(9,PX 5),(12,PX 6),(13,PX 7),(14,I (23 - ((k+1:Nat):Int)))],(Zb h' r' e' w' o'),8⟩:=by
 have e1:(23 - (k:Int))=((23 - k:Nat):Int):=by omega
 have e2:(23 - ((k+1:Nat):Int))=wr .i64 (((23 - k:Nat):Int) - 1):=by
  show _=w64 (((23 - k:Nat):Int) - 1)
  rw [q9 (by omega) (by omega)];omega
 rw [e1,e2]
 obtain ⟨j,hj0⟩:∃j,j=23 - k:=⟨_,rfl⟩
 rw [←hj0]
 have hj:j<24:=by omega
 clear e1 e2 hj0
 obtain ⟨h1,r1,e1,w1,o1,zr1,ze1,zw1,zo1,t1⟩:=mA h r e w o j hr he hw ho
 obtain ⟨h2,r2,e2,w2,o2,y2,zr2,ze2,zw2,zo2,zy2,t2⟩:=mB h1 r1 e1 w1 o1 j zr1 ze1 zw1 zo1
 obtain ⟨h3,r3,e3,w3,o3,y3,zr3,ze3,zw3,zo3,zy3,t3⟩:=mC h2 r2 e2 w2 o2 y2 j zr2 ze2 zw2 zo2 zy2
 obtain ⟨h4,r4,e4,w4,o4,y4,zr4,ze4,zw4,zo4,zy4,t4⟩:=mDL h3 r3 e3 w3 o3 y3 j zr3 ze3 zw3 zo3 zy3 hj
 obtain ⟨d,h5,r5,e5,w5,o5,y5,zr5,ze5,zw5,zo5,zy5,t5⟩:=mE h4 r4 e4 w4 o4 y4 j zr4 ze4 zw4 zo4 zy4 hj
 obtain ⟨h6,r6,e6,w6,o6,y6,zr6,ze6,zw6,zo6,zy6,t6⟩:=mF h5 r5 e5 w5 o5 y5 j d zr5 ze5 zw5 zo5 zy5 hj
 obtain ⟨h7,r7,e7,w7,o7,y7,zr7,ze7,zw7,zo7,zy7,t7⟩:=mG h6 r6 e6 w6 o6 y6 j d zr6 ze6 zw6 zo6 zy6
 obtain ⟨h8,r8,e8,w8,o8,y8,zr8,ze8,zw8,zo8,zy8,t8⟩:=iOL h7 r7 e7 w7 o7 y7 j d zr7 ze7 zw7 zo7 zy7 hj
 refine ⟨h8,r8,e8,w8,o8,zr8,ze8,zw8,zo8,To.lower (n:=9) (To.seq (by kernel_rfl) t1 (To.seq (by kernel_rfl) (To.block (id:=5) (by kernel_rfl) (To.seq (by kernel_rfl) t2 (To.pre (To.seq (by kernel_rfl) (To.seq (by kernel_rfl) t3 t4) (To.seq (by kernel_rfl) t5 (To.seq (by kernel_rfl) t6 (To.seq (by kernel_rfl) t7 t8)))) (jr rfl (ok4 (by omega) zr2 ze2 zw2 zo2 zy2)) (fun q hq=>by
   simp only [List.mem_cons,List.not_mem_nil,or_false] at hq
   rcases hq with rfl | rfl | rfl | rfl | rfl | rfl | rfl
   ·exact ⟨A0,by simp,fun _=>rfl⟩
   ·exact ⟨PP 4,by simp,fun _=>rfl⟩
   ·exact ⟨PX 5,by simp,fun _=>rfl⟩
   ·exact ⟨PX 6,by simp,fun _=>rfl⟩
   ·exact ⟨PX 7,by simp,fun _=>rfl⟩
   ·exact ⟨IK j,by simp,fun _=>rfl⟩
   ·exact ⟨PP 8,by simp,fun _=>rfl⟩
   ) rfl rfl)) (.inr rfl)) (To.exec (z:=Zl) jN (slots:=[0,8,9,12,13,14]) (blks:=[0,4,5,6,7]) (vs:=[A0,PP 4,PX 5,PX 6,PX 7,I (wr .i64 ((j:Int) - 1))]) (bs:=(jt7 h8 r8 e8 w8 o8)) (nbB:=9) (fun dead=>mHR dead h8 r8 e8 w8 o8 y8 j) jd (jr rfl (ok3 (by omega) zr8 ze8 zw8 zo8)) (Nat.le_refl _)))) (Nat.le_refl _) (jr rfl (ok3 (by omega) zr8 ze8 zw8 zo8))⟩
theorem mOL (h:Bool) (r e w o:List At) (hr:AllI r 300) (he:AllI e 48) (hw:AllI w 1152) (ho:AllI o 300):∃(h':Bool) (r' e' w' o':List At),AllI r' 300∧AllI e' 48∧AllI w' 1152∧AllI o' 300∧To Tryz.prog 147 (c2 (c1 (c2 (c2 (c2 (c2 (c2 (c2 (jj Tryz.prog 93))))))))) ⟨[(0,A0),(8,PP 4),(9,PX 5),(12,PX 6),(13,PX 7),(14,I (23 - (0:Int)))],(Zb h r e w o),8⟩ .normal ⟨[(0,A0),(8,PP 4),(9,PX 5),(12,PX 6),(13,PX 7)],(Zb h' r' e' w' o'),8⟩:=by
 have round:∀(k:Nat) (s:Bool×List At×List At×List At×List At),k<24→(AllI s.2.1 300∧AllI s.2.2.1 48∧AllI s.2.2.2.1 1152∧AllI s.2.2.2.2 300)→∃s':Bool×List At×List At×List At×List At,(AllI s'.2.1 300∧AllI s'.2.2.1 48∧AllI s'.2.2.2.1 1152∧AllI s'.2.2.2.2 300)∧To Tryz.prog 147 (c1 (c1 (c2 (c1 (c2 (c2 (c2 (c2 (c2 (c2 (jj Tryz.prog 93))))))))))) ((fun (k:Nat) (s:Bool×List At×List At×List At×List At)=>(⟨[(0,A0),(8,PP 4),(9,PX 5),(12,PX 6),(13,PX 7),(14,I (23 - (k:Int)))],(Zb (s.1) (s.2.1) (s.2.2.1) (s.2.2.2.1) (s.2.2.2.2)),8⟩:Kst)) k s) .normal ((fun (k:Nat) (s:Bool×List At×List At×List At×List At)=>(⟨[(0,A0),(8,PP 4),(9,PX 5),(12,PX 6),(13,PX 7),(14,I (23 - (k:Int)))],(Zb (s.1) (s.2.1) (s.2.2.1) (s.2.2.2.1) (s.2.2.2.2)),8⟩:Kst)) (k+1) s'):=by
  rintro k ⟨h,r,e,w,o⟩ hlt ⟨k0,k1,k2,k3⟩
  obtain ⟨h',r',e',w',o',q0,q1,q2,q3,hT⟩:=mO h r e w o k k0 k1 k2 k3 hlt
  exact ⟨(h',r',e',w',o'),⟨q0,q1,q2,q3⟩,hT⟩
 have last:∀(s:Bool×List At×List At×List At×List At),(AllI s.2.1 300∧AllI s.2.2.1 48∧AllI s.2.2.2.1 1152∧AllI s.2.2.2.2 300)→∃s':Bool×List At×List At×List At×List At,(AllI s'.2.1 300∧AllI s'.2.2.1 48∧AllI s'.2.2.2.1 1152∧AllI s'.2.2.2.2 300)∧To Tryz.prog 147 (c1 (c1 (c2 (c1 (c2 (c2 (c2 (c2 (c2 (c2 (jj Tryz.prog 93))))))))))) ((fun (k:Nat) (s:Bool×List At×List At×List At×List At)=>(⟨[(0,A0),(8,PP 4),(9,PX 5),(12,PX 6),(13,PX 7),(14,I (23 - (k:Int)))],(Zb (s.1) (s.2.1) (s.2.2.1) (s.2.2.2.1) (s.2.2.2.2)),8⟩:Kst)) (24) s) (.exit 4) ((fun (s:Bool×List At×List At×List At×List At)=>(⟨[(0,A0),(8,PP 4),(9,PX 5),(12,PX 6),(13,PX 7)],(Zb (s.1) (s.2.1) (s.2.2.1) (s.2.2.2.1) (s.2.2.2.2)),8⟩:Kst)) s'):=by
  rintro ⟨h,r,e,w,o⟩ ⟨k0,k1,k2,k3⟩
  obtain ⟨h',r',e',w',o',q0,q1,q2,q3,hT⟩:=mAe h r e w o k0 k1 k2 k3
  exact ⟨(h',r',e',w',o'),⟨q0,q1,q2,q3⟩,hT⟩
 obtain ⟨⟨h',r',e',w',o'⟩,⟨q0,q1,q2,q3⟩,hT⟩:=qQ (id:=4) (by kernel_rfl) (by kernel_rfl) round last (h,r,e,w,o) ⟨hr,he,hw,ho⟩
 exact ⟨h',r',e',w',o',q0,q1,q2,q3,hT⟩
end Go.Proofs.YtbpfipbhaagllaaGreat

/- thornton.Step: the whole; its summary: three hundred numbers, whatever they are. -/
namespace Go.Proofs.YtbpfipbhaagllaaGreat
open Go.Lr
set_option maxRecDepth 20000
abbrev jl2 (h:Bool) (x0 x1 x2 x3 x4:List At):Mem:=[(0,flag 63 h),(1,⟨67,(0,0),0,x0⟩),(2,⟨196,(0,0),0,x1⟩),(3,⟨25,(0,0),0,x2⟩),(4,⟨67,(0,0),0,x3⟩),(5,⟨259,(0,0),0,x4⟩)]
abbrev jt8 (h:Bool) (x0 x1 x2 x3 x4:List At):List Blk:=[flag 63 h,⟨67,(0,0),0,x0⟩,⟨196,(0,0),0,x1⟩,⟨25,(0,0),0,x2⟩,⟨67,(0,0),0,x3⟩,⟨259,(0,0),0,x4⟩]
abbrev jl3 (h:Bool) (x0 x1 x2 x3:List At):Mem:=[(0,flag 63 h),(4,⟨67,(0,0),0,x0⟩),(5,⟨259,(0,0),0,x1⟩),(6,⟨320,(0,0),0,x2⟩),(7,⟨67,(0,0),0,x3⟩)]
theorem jxg (dead:Nat→Value) (h:Bool) (p f q:List At):ju [0,5,6,7,8,9] [0,1,2,3,4,5] (xg Tryz.prog KA2 Zl 400 (kJ 3 (jj Tryz.prog 93)) (Kst.st ⟨jS 0 [A0,.v (.agg (jp p 0 300)),.v (.agg (jp f 0 576)),.v (.agg (jp q 0 24))],[(0,flag 63 h)],1⟩ 147 dead []))=some (.normal,[A0,PP 1,PP 2,PP 3,PP 4,PP 5],[some (flag 63 (Go.Lr.exH Tryz.prog 148 63 300 [.v (.agg (jp p 0 300))] h)),some ⟨67,(0,0),0,(mkI (Go.Lr.exN Tryz.prog 148 63 300 [.v (.agg (jp p 0 300))] h) 0 300)⟩,some ⟨196,(0,0),0,jp f 0 576⟩,some ⟨25,(0,0),0,jp q 0 24⟩,some ⟨67,(0,0),0,zc 67⟩,some ⟨259,(0,0),0,zc 259⟩],[]):=by kernel_rfl
theorem jt9 (dead:Nat→Value) (h:Bool) (p f q r e:List At):ju [0,8,9,12] [0,4,5,6] (exec Tryz.prog KA2 Zl 400 (.code (c1 (c2 (c2 (c2 (c2 (jj Tryz.prog 93))))))) (Kst.st ⟨[(0,A0),(5,PX 1),(6,PP 2),(8,PP 4),(9,PX 5)],(jl2 h p (jp f 0 576) q r e),6⟩ 147 dead []))=some (.normal,[A0,PP 4,PX 5,PP 6],[some (flag 63 (jbC (jp p 0 300) (jp f 0 576) h).2.2),some ⟨67,(0,0),0,r⟩,some ⟨259,(0,0),0,e⟩,some ⟨320,(0,0),0,mkI (intAt (jbC (jp p 0 300) (jp f 0 576) h).2.1) 0 1152⟩],[(jV p 0 300&&decide (300≠0),true)]):=by kernel_rfl
theorem jl4 (h:Bool) (p f q r e:List At) (hp:AllI p 300) (hf:AllI f 576) (hq:AllI q 24) (hr:AllI r 300) (he:AllI e 48):∃(h':Bool) (w':List At),AllI w' 1152∧To Tryz.prog 147 (c1 (c2 (c2 (c2 (c2 (jj Tryz.prog 93)))))) ⟨[(0,A0),(5,PX 1),(6,PP 2),(8,PP 4),(9,PX 5)],(jl2 h p f q r e),6⟩ .normal ⟨[(0,A0),(8,PP 4),(9,PX 5),(12,PP 6)],[(0,flag 63 h'),(4,⟨67,(0,0),0,r⟩),(5,⟨259,(0,0),0,e⟩),(6,⟨320,(0,0),0,w'⟩)],7⟩:=by
 have hif:=AllI.ints f 0 576
 have hwq:AllI (mkI (intAt (jbC (jp p 0 300) (jp f 0 576) h).2.1) 0 1152) 1152:=AllI.mkF _ _ _
 refine ⟨(jbC (jp p 0 300) (jp f 0 576) h).2.2,mkI (intAt (jbC (jp p 0 300) (jp f 0 576) h).2.1) 0 1152,hwq, ?_⟩
 have key:To Tryz.prog 147 (c1 (c2 (c2 (c2 (c2 (jj Tryz.prog 93)))))) ⟨[(0,A0),(5,PX 1),(6,PP 2),(8,PP 4),(9,PX 5)],(jl2 h p (jp f 0 576) q r e),6⟩ .normal ⟨[(0,A0),(8,PP 4),(9,PX 5),(12,PP 6)],[(0,flag 63 (jbC (jp p 0 300) (jp f 0 576) h).2.2),(4,⟨67,(0,0),0,r⟩),(5,⟨259,(0,0),0,e⟩),(6,⟨320,(0,0),0,mkI (intAt (jbC (jp p 0 300) (jp f 0 576) h).2.1) 0 1152⟩)],7⟩:=
  To.exec (z:=Zl) jN (slots:=[0,8,9,12]) (blks:=[0,4,5,6]) (vs:=[A0,PP 4,PX 5,PP 6]) (bs:=[flag 63 (jbC (jp p 0 300) (jp f 0 576) h).2.2,⟨67,(0,0),0,r⟩,⟨259,(0,0),0,e⟩,⟨320,(0,0),0,mkI (intAt (jbC (jp p 0 300) (jp f 0 576) h).2.1) 0 1152⟩]) (nbB:=7) (fun dead=>jt9 dead h p f q r e) (ja (by rw [hp.areI 300 0 (Nat.le_refl _)];rfl) jd) (jr rfl (jE (by omega) rfl rfl (jE (by omega) (hr.okb _) rfl (jE (by omega) (he.okb _) rfl (jE (by omega) (hwq.okb _) rfl jH))))) (Nat.le_of_ble_eq_true rfl)
 have eo:jp f 0 576=f:=hf.eq.symm
 generalize jbC (jp p 0 300) (jp f 0 576) h=qq at key hwq ⊢
 rw [eo] at key
 exact key
theorem stZ (dead:Nat→Value) (h:Bool) (r e w o:List At):ju [8] [0,4] (exec Tryz.prog KA2 Zl 400 (.code (c2 (c2 (c2 (c2 (c2 (c2 (c2 (jj Tryz.prog 93))))))))) (Kst.st ⟨[(0,A0),(8,PP 4),(9,PX 5),(12,PX 6),(13,PX 7)],(jl3 h (jp r 0 300) e w o),8⟩ 147 dead []))=some (.ret,[PP 4],[some (flag 63 h),some ⟨67,(0,0),0,jp o 0 300⟩],[(jV o 0 300&&decide (300≠0),true)]):=by kernel_rfl
theorem jua (h:Bool) (r e w o:List At) (hr:AllI r 300) (he:AllI e 48) (hw:AllI w 1152) (ho:AllI o 300):To Tryz.prog 147 (c2 (c2 (c2 (c2 (c2 (c2 (c2 (jj Tryz.prog 93)))))))) ⟨[(0,A0),(8,PP 4),(9,PX 5),(12,PX 6),(13,PX 7)],(jl3 h r e w o),8⟩ .ret ⟨[(8,PP 4)],[(0,flag 63 h),(4,⟨67,(0,0),0,jp o 0 300⟩)],8⟩:=by
 have hir:=AllI.ints r 0 300
 have key:To Tryz.prog 147 (c2 (c2 (c2 (c2 (c2 (c2 (c2 (jj Tryz.prog 93)))))))) ⟨[(0,A0),(8,PP 4),(9,PX 5),(12,PX 6),(13,PX 7)],(jl3 h (jp r 0 300) e w o),8⟩ .ret ⟨[(8,PP 4)],[(0,flag 63 h),(4,⟨67,(0,0),0,jp o 0 300⟩)],8⟩:=
  To.exec (z:=Zl) jN (slots:=[8]) (blks:=[0,4]) (vs:=[PP 4]) (bs:=[flag 63 h,⟨67,(0,0),0,jp o 0 300⟩]) (nbB:=8) (fun dead=>stZ dead h r e w o) (ja (by rw [ho.areI 300 0 (Nat.le_refl _)];rfl) jd) (jr rfl (jE (by omega) rfl rfl (jE (by omega) ((AllI.ints o 0 300).okb _) rfl jH))) (Nat.le_refl _)
 have eo:jp r 0 300=r:=hr.eq.symm
 rw [eo] at key
 exact key
theorem jxh (h:Bool) (p f q:List At) (hp:AllI p 300) (hf:AllI f 576) (hq:AllI q 24):∃l h',AllI l 300∧ExA Tryz.prog 93 63 [.v (.agg p),.v (.agg f),.v (.agg q)] h (.v (.agg l)) h':=by
 rw [hp.eq,hf.eq,hq.eq]
 have zp0:AllI (mkI (Go.Lr.exN Tryz.prog 148 63 300 [.v (.agg (jp p 0 300))] h) 0 300) 300:=AllI.mkF _ _ _
 have zf0:=AllI.ints f 0 576
 have zq0:=AllI.ints q 0 24
 obtain ⟨h1,p1,f1,q1,r1,e1,zp1,zf1,zq1,zr1,ze1,t1⟩:=sI (Go.Lr.exH Tryz.prog 148 63 300 [.v (.agg (jp p 0 300))] h) (mkI (Go.Lr.exN Tryz.prog 148 63 300 [.v (.agg (jp p 0 300))] h) 0 300) (jp f 0 576) (jp q 0 24) (zc 67) (zc 259) zp0 zf0 zq0 yK Zc
 obtain ⟨h2,p2,f2,q2,r2,e2,zp2,zf2,zq2,zr2,ze2,t2⟩:=sOL h1 p1 f1 q1 r1 e1 zp1 zf1 zq1 zr1 ze1
 obtain ⟨h3,w3,zw3,t3⟩:=jl4 h2 p2 f2 q2 r2 e2 zp2 zf2 zq2 zr2 ze2
 obtain ⟨h4,r4,e4,w4,o4,zr4,ze4,zw4,zo4,t4⟩:=mN h3 r2 e2 w3 zr2 ze2 zw3
 obtain ⟨h5,r5,e5,w5,o5,zr5,ze5,zw5,zo5,t5⟩:=mI h4 r4 e4 w4 o4 zr4 ze4 zw4 zo4
 obtain ⟨h6,r6,e6,w6,o6,zr6,ze6,zw6,zo6,t6⟩:=mOL h5 r5 e5 w5 o5 zr5 ze5 zw5 zo5
 have t7:=jua h6 r6 e6 w6 o6 zr6 ze6 zw6 zo6
 refine ⟨jp o6 0 300,h6,AllI.ints _ _ _,ZL (B:=⟨[(8,PP 4)],[(0,flag 63 h6),(4,⟨67,(0,0),0,jp o6 0 300⟩)],8⟩) (e:= .ret) (c:=jj Tryz.prog 93) Tryz.func93 (by kernel_rfl) (Nat.le_of_ble_eq_true (by kernel_rfl)) (Nat.le_of_ble_eq_true (by kernel_rfl)) (plainVs_iff.2 fun v hv=> ?_) ?_ (.inr rfl) (fun dead=>by kernel_rfl) ((AllI.ints o6 0 300).ok) rfl⟩
 ·simp only [List.mem_cons,List.not_mem_nil,or_false] at hv
  rcases hv with rfl | rfl | rfl
  ·exact (AllI.ints p 0 300).ok
  ·exact zf0.ok
  ·exact zq0.ok
 ·refine To.spine (z:=Zl) jN (k:=3) (slots:=[0,5,6,7,8,9]) (blks:=[0,1,2,3,4,5]) (vs:=[A0,PP 1,PP 2,PP 3,PP 4,PP 5]) (bs:=(jt8 (Go.Lr.exH Tryz.prog 148 63 300 [.v (.agg (jp p 0 300))] h) (mkI (Go.Lr.exN Tryz.prog 148 63 300 [.v (.agg (jp p 0 300))] h) 0 300) (jp f 0 576) (jp q 0 24) (zc 67) (zc 259))) (nbB:=6) (by kernel_rfl) (fun dead=>jxg dead h p f q) jd (jr rfl (ok1 (by omega) zp0 zf0 zq0 yK Zc)) (Nat.le_of_ble_eq_true rfl) ?_
  refine To.pre (To.seq (by kernel_rfl) (To.seq (by kernel_rfl) t1 t2) (To.seq (by kernel_rfl) (To.pre t3 (jr rfl (ok1 (by omega) zp2 zf2 zq2 zr2 ze2)) (fun q hq=>by
   simp only [List.mem_cons,List.not_mem_nil,or_false] at hq
   rcases hq with rfl | rfl | rfl | rfl | rfl
   ·exact ⟨A0,by simp,fun _=>rfl⟩
   ·exact ⟨PX 1,by simp,fun _=>rfl⟩
   ·exact ⟨PX 2,by simp,fun _=>rfl⟩
   ·exact ⟨PP 4,by simp,fun _=>rfl⟩
   ·exact ⟨PX 5,by simp,fun _=>rfl⟩
   ) rfl rfl) (To.seq (by kernel_rfl) (To.pre t4 (jr rfl (jE (by omega) rfl rfl (jE (by omega) (zr2.okb _) rfl (jE (by omega) (ze2.okb _) rfl (jE (by omega) (zw3.okb _) rfl jH))))) (fun q hq=>by
   simp only [List.mem_cons,List.not_mem_nil,or_false] at hq
   rcases hq with rfl | rfl | rfl | rfl
   ·exact ⟨A0,by simp,fun _=>rfl⟩
   ·exact ⟨PP 4,by simp,fun _=>rfl⟩
   ·exact ⟨PX 5,by simp,fun _=>rfl⟩
   ·exact ⟨PP 6,by simp,fun _=>rfl⟩
   ) rfl rfl) (To.seq (by kernel_rfl) (To.pre (To.seq (by kernel_rfl) t5 t6) (jr rfl (ok3 (by omega) zr4 ze4 zw4 zo4)) (fun q hq=>by
   simp only [List.mem_cons,List.not_mem_nil,or_false] at hq
   rcases hq with rfl | rfl | rfl | rfl | rfl
   ·exact ⟨A0,by simp,fun _=>rfl⟩
   ·exact ⟨PP 4,by simp,fun _=>rfl⟩
   ·exact ⟨PX 5,by simp,fun _=>rfl⟩
   ·exact ⟨PX 6,by simp,fun _=>rfl⟩
   ·exact ⟨PP 7,by simp,fun _=>rfl⟩
   ) rfl rfl) t7)))) (jr rfl (ok1 (by omega) zp0 zf0 zq0 yK Zc)) (fun q hq=>by
   simp only [List.mem_cons,List.not_mem_nil,or_false] at hq
   rcases hq with rfl | rfl | rfl | rfl | rfl | rfl
   ·exact ⟨A0,by simp,fun _=>rfl⟩
   ·exact ⟨PP 1,by simp,fun _=>rfl⟩
   ·exact ⟨PP 2,by simp,fun _=>rfl⟩
   ·exact ⟨PP 3,by simp,fun _=>rfl⟩
   ·exact ⟨PP 4,by simp,fun _=>rfl⟩
   ·exact ⟨PP 5,by simp,fun _=>rfl⟩
   ) rfl rfl
noncomputable def thS:List LV→Bool→Option (LV×Bool×List (Bool×Bool)):=exF Tryz.prog 93 63 (fun args=>match args with | [.v (.agg p),.v (.agg f),.v (.agg q)]=>yl p 300&&yl f 576&&yl q 24 | _=>false) 300
theorem jub:SumOK Tryz.prog 93 (js 63 thS):=by
 refine jfI (jl jN Tryz.func93 (by kernel_rfl)) fun args hb hok _=> ?_
 split at hok
 ·simp only [Bool.and_eq_true] at hok
  exact jxh hb _ _ _ (j7 hok.1.1) (j7 hok.1.2) (j7 hok.2)
 ·cases hok
end Go.Proofs.YtbpfipbhaagllaaGreat

/- still: its summary at closed lengths. -/
namespace Go.Proofs.YtbpfipbhaagllaaGreat
open Go.Lr
noncomputable def KR0:FuncId→Option SumK:=S47
theorem soundKR0:Sound Tryz.prog KR0:=sound47
noncomputable def KR1:FuncId→Option SumK:=more KR0 123 (Ja Tryz.prog KR0 Zl 9000 123)
theorem soundKR1:Sound Tryz.prog KR1:=soundKR0.more (kI soundKR0 (jl soundKR0 Tryz.func123 (by kernel_rfl)))
noncomputable def KR2:FuncId→Option SumK:=more KR1 122 (Ja Tryz.prog KR1 Zl 9000 122)
theorem soundKR2:Sound Tryz.prog KR2:=soundKR1.more (kI soundKR1 (jl soundKR1 Tryz.func122 (by kernel_rfl)))
noncomputable def KR3:FuncId→Option SumK:=more KR2 118 (js 100 (zU Tryz.prog KR2 Zl 9000 118 100))
theorem soundKR3:Sound Tryz.prog KR3:=soundKR2.more (kO soundKR2 (jl soundKR2 Tryz.func118 (by kernel_rfl)))
noncomputable def KR4:FuncId→Option SumK:=more KR3 30 (js 100 (zU Tryz.prog KR3 Zl 9000 30 100))
theorem soundKR4:Sound Tryz.prog KR4:=soundKR3.more (kO soundKR3 (jl soundKR3 Tryz.func30 (by kernel_rfl)))
noncomputable def KR5:FuncId→Option SumK:=more KR4 29 (js 100 (zU Tryz.prog KR4 Zl 9000 29 100))
theorem jcH:Sound Tryz.prog KR5:=soundKR4.more (kO soundKR4 (jl soundKR4 Tryz.func29 (by kernel_rfl)))
theorem joV (t:Int):jsZ (jG Tryz.prog KR5 Zl 9000 12 [I t,I 8000] [] 0 [])=some (.v (.agg [.int .i64 t,.int .i64 8000,.int .i64 0,.int .i64 0,.int .i64 0,.int .i64 0,.int .i64 0,.int .i64 (-84238486)]),true):=by kernel_rfl
def jfD:List LV→Option (LV×List (Bool×Bool))
 | [.v (.one (.int .i64 t)),.v (.one (.int .i64 us))]=>some (.v (.agg [.int .i64 t,.int .i64 8000,.int .i64 0,.int .i64 0,.int .i64 0,.int .i64 0,.int .i64 0,.int .i64 (-84238486)]),[(decide (us=8000),true)])
 | _=>none
theorem jh2:SumOK Tryz.prog 12 (jq jfD):=by
 refine jC (z:=Zl) jcH (jl jcH Tryz.func12 (by kernel_rfl)) fun args v cs hF hc=> ?_
 unfold jfD at hF
 split at hF
 ·rename_i t us
  cases hF
  have hu:us=8000:=of_decide_eq_true (jt hc)
  subst hu
  obtain ⟨cs',h1,h2⟩:=jlj (joV t)
  exact ⟨9000,[],cs',h1,h2⟩
 ·cases hF
end Go.Proofs.YtbpfipbhaagllaaGreat

/- A function that is handed a flag that lies in a greater block: what it is told of is the flag alone. -/
namespace Go.Lr
open Go.RowKit
def KK:Nat→List LV→Option (Nat×Nat)
 | 0,.v (.one (.ptr c o))::_=>some (c,o)
 | n+1,_::l=>KK n l
 | _,_=>none
def Xn:Nat→List LV→LV→List LV
 | 0,_::l,v=>v::l
 | n+1,a::l,v=>a::Xn n l v
 | _,[],_=>[]
def ZQ:Nat→List LV→List LV
 | 0,_::l=>l
 | n+1,a::l=>a::ZQ n l
 | _,[]=>[]
def YE:List Nat→List Blk→Nat→Option Blk
 | i::l,k::ks,j=>match Nat.beq i j with
  | true=>some k
  | false=>YE l ks j
 | _,_,_=>none
def jqX (c:Nat) (f:Blk) (seen:List Nat) (ks:List Blk) (i:Nat):Option Blk:=
 match Nat.beq i c with
 | true=>some f
 | false=>YE seen ks i
def YF (c i:Nat):Bool:=match Nat.beq i c with
 | true=>false
 | false=>true
def Jz (c:Nat):List (Nat×Option Blk)→List (Nat×Option Blk)
 | []=>[]
 | (i,s)::l=>match Nat.beq i c with
  | true=>Jz c l
  | false=>(i,s)::Jz c l
def ZR (ty:TypeId) (c:Nat) (h:Bool):List (Nat×Option Blk)→Option Bool
 | []=>some h
 | (i,s)::l=>match Nat.beq i c with
  | true=>match s with
   | some ⟨t,(0,0),0,[.bool h']⟩=>match Nat.beq t ty with
    | true=>some h'
    | false=>none
   | _=>none
  | false=>ZR ty c h l
def jhd (j:Nat) (ty:TypeId) (s:List LV→List Nat→List Blk→Nat→Option Dl):List LV→List Nat→List Blk→Nat→Option Dl:=fun args seen ks nb=>
 match KK j args with
 | some (c,o)=>match YE seen ks c with
  | some ⟨tt,(0,0),es,l⟩=>match atL l o with
   | some (.bool h)=>match Km (YF c) (ZQ j args),JY (jqX c ⟨ty,(0,0),0,[.bool h]⟩ seen ks) 20000 (jaR (Xn j args (.v (.one (.ptr c 0))))) [] with
    | true,some seen'=>match jz (jqX c ⟨ty,(0,0),0,[.bool h]⟩ seen ks) seen' with
     | some ks'=>match okBs (YF c) ks',s (Xn j args (.v (.one (.ptr c 0)))) seen' ks' nb with
      | true,some d=>match d.val.ok (YF c),okBs (YF c) d.nw,jkp (YF c) d.wr,ZR ty c h d.wr with
       | true,true,true,some h'=>match xV (Xj d.wr),Zu (Xj d.wr) seen' with
        | true,true=>some ⟨d.val,(c,some ⟨tt,(0,0),es,l.set o (.bool h')⟩)::Jz c d.wr,d.nw,d.rd,d.cs⟩
        | _,_=>none
       | _,_,_,_=>none
      | _,_=>none
     | none=>none
    | _,_=>none
   | _=>none
  | _=>none
 | none=>none
theorem okNC_iff {c i:Nat}:YF c i=true↔i≠c:=by
 unfold YF
 rw [kX]
 by_cases h:i=c
 ·simp [h]
 ·simp [h]
theorem zz {g:Nat→Option Blk}:∀{seen:List Nat} {ks:List Blk} {i:Nat} {b:Blk},jz g seen=some ks→YE seen ks i=some b→g i=some b
 | [],ks,i,b,_,h=>by simp [YE] at h
 | a::l,ks,i,b,hl,h=>by
  obtain ⟨k,r,h1,h2,rfl⟩:=jT hl
  simp only [YE,kX] at h
  by_cases e:a=i
  ·subst e
   simp only [decide_true] at h
   cases h
   exact h1
  ·simp only [e,decide_false] at h
   exact zz h2 h
open Classical in
noncomputable def gX (g:Nat→Option Blk) (c:Nat) (k:Blk):Nat→Option Blk:=fun i=>if i=c then some k else match g i with
 | some b=>if okL (YF c) b.cells=true then some b else none
 | none=>none
theorem jfN {g:Nat→Option Blk} {c i:Nat} {k b:Blk} (h:gX g c k i=some b) (hi:i≠c):g i=some b∧okL (YF c) b.cells=true:=by
 unfold gX at h
 rw [if_neg hi] at h
 split at h
 ·rename_i b' hb
  split at h
  ·rename_i ho;cases h;exact ⟨hb,ho⟩
  ·cases h
 ·cases h
theorem jpc {g:Nat→Option Blk} {c i:Nat} {k b:Blk} (h:g i=some b) (ho:okL (YF c) b.cells=true) (hi:i≠c):gX g c k i=some b:=by
 unfold gX
 rw [if_neg hi,h]
 simp only [ho,if_true]
theorem jtu {g:Nat→Option Blk} {c i:Nat} {k b:Blk} (h:g i=some b) (ho:¬okL (YF c) b.cells=true) (hi:i≠c):gX g c k i=none:=by
 unfold gX
 rw [if_neg hi,h]
 show (if okL (YF c) b.cells=true then some b else none)=none
 rw [if_neg ho]
theorem jpd {g:Nat→Option Blk} {c:Nat} {k:Blk}:gX g c k c=some k:=by unfold gX;rw [if_pos rfl]
theorem zY {g:Nat→Option Blk} {c i:Nat} {k kc:Blk} (hc:g c=some kc) (h:(gX g c k i).isSome):(g i).isSome:=by
 by_cases hi:i=c
 ·rw [hi,hc];rfl
 ·obtain ⟨b,hb⟩:=Option.isSome_iff_exists.1 h
  rw [(jfN hb hi).1];rfl
theorem zA {p:Nat→Bool} {E E':Env} {i:Nat} {b:Blk} {w:World} (h:∀q,p q=true→E' q=E q) (hb:okL p b.cells=true) (he:E' i=E i) (k:blkAt E i b w):blkAt E' i b w:=by
 obtain ⟨r,h1,h2,h3⟩:=k
 refine ⟨r, ?_,h2,fun hne=>by rw [he];exact h3 hne⟩
 rw [he,h1,jX (E:=E) (E':=E') h hb]
theorem YG {g:Nat→Option Blk} {c k:Nat} (hk:k≠c):∀(l:List (Nat×Option Blk)) (g:Nat→Option Blk),wrG g (Jz c l) k=wrG g l k
 | [],g=>rfl
 | (i,s)::l,g=>by
  simp only [Jz,kX]
  by_cases h:i=c
  ·simp only [h,decide_true]
   rw [YG (g:=g) hk l g]
   simp only [wrG]
   exact JS l k (.inr (by rw [if_neg hk]))
  ·simp only [h,decide_false,wrG]
   exact YG (g:=g) hk l _
theorem JA {c:Nat}:∀{l:List (Nat×Option Blk)} {x:Nat×Option Blk},x∈Jz c l→x∈l∧x.1≠c
 | [],x,h=>by simp [Jz] at h
 | (i,s)::l,x,h=>by
  simp only [Jz,kX] at h
  by_cases e:i=c
  ·simp only [e,decide_true] at h
   obtain ⟨h1,h2⟩:=JA h
   exact ⟨List.mem_cons_of_mem _ h1,h2⟩
  ·simp only [e,decide_false] at h
   rcases List.mem_cons.1 h with rfl | h
   ·exact ⟨List.mem_cons_self ..,e⟩
   ·obtain ⟨h1,h2⟩:=JA h
    exact ⟨List.mem_cons_of_mem _ h1,h2⟩
theorem QD {ty:TypeId} {c:Nat} {h h':Bool}:∀{l:List (Nat×Option Blk)} {g:Nat→Option Blk},ZR ty c h l=some h'→(l.map (·.1)).Nodup→g c=some ⟨ty,(0,0),0,[.bool h]⟩→wrG g l c=some ⟨ty,(0,0),0,[.bool h']⟩
 | [],g,hf,_,hg=>by
  simp only [ZR,Option.some.injEq] at hf
  subst hf
  exact hg
 | (i,s)::l,g,hf,hn,hg=>by
  simp only [List.map_cons,List.nodup_cons] at hn
  simp only [ZR,kX] at hf
  by_cases e:i=c
  ·subst e
   simp only [decide_true] at hf
   split at hf
   ·rename_i t h2
    split at hf
    ·rename_i ht
     cases hf
     have:t=ty:=of_decide_eq_true ht
     subst this
     simp only [wrG]
     rw [qA l i fun x hx e=>hn.1 (by rw [←e];exact List.mem_map_of_mem hx),if_pos rfl]
    ·cases hf
   ·cases hf
  ·simp only [e,decide_false] at hf
   simp only [wrG]
   exact QD hf hn.2 (by rw [if_neg (Ne.symm e)];exact hg)
theorem ZS {c o:Nat} {E E':Env} (h:∀i,YF c i=true→E' i=E i) (he:(LV.v (.one (.ptr c 0))).den E'=(LV.v (.one (.ptr c o))).den E):
  ∀{j:Nat} {args:List LV},KK j args=some (c,o)→Km (YF c) (ZQ j args)=true→(Xn j args (.v (.one (.ptr c 0)))).map (LV.den E')=args.map (LV.den E)
 | 0,[],hp,_=>by simp [KK] at hp
 | 0,a::l,hp,hr=>by
  unfold KK at hp
  split at hp
  ·rename_i heq
   cases heq
   cases hp
   simp only [ZQ] at hr
   simp only [Xn,List.map_cons,he]
   congr 1
   exact List.map_congr_left fun u hu=>LV.den_congr h (zo hr u hu)
  ·rename_i heq _;cases heq
  ·cases hp
 | j+1,[],hp,_=>by simp [KK] at hp
 | j+1,a::l,hp,hr=>by
  simp only [KK] at hp
  simp only [ZQ,Km] at hr
  split at hr
  ·rename_i ha
   simp only [Xn,List.map_cons]
   rw [ZS h he hp hr,LV.den_congr h ha]
  ·cases hr
theorem ZT {c o:Nat}:∀{j:Nat} {args:List LV} {u:LV},KK j args=some (c,o)→u∈Xn j args (.v (.one (.ptr c 0)))→u∈args∨u = .v (.one (.ptr c 0))∧(.v (.one (.ptr c o)):LV)∈args
 | 0,[],u,hp,_=>by simp [KK] at hp
 | 0,a::l,u,hp,hu=>by
  unfold KK at hp
  split at hp
  ·rename_i heq
   cases heq
   cases hp
   simp only [Xn,List.mem_cons] at hu
   rcases hu with rfl | hu
   ·exact .inr ⟨rfl,List.mem_cons_self ..⟩
   ·exact .inl (List.mem_cons_of_mem _ hu)
  ·rename_i heq _;cases heq
  ·cases hp
 | j+1,[],u,hp,_=>by simp [KK] at hp
 | j+1,a::l,u,hp,hu=>by
  simp only [KK] at hp
  simp only [Xn,List.mem_cons] at hu
  rcases hu with rfl | hu
  ·exact .inl (List.mem_cons_self ..)
  ·rcases ZT hp hu with h | ⟨h1,h2⟩
   ·exact .inl (List.mem_cons_of_mem _ h)
   ·exact .inr ⟨h1,List.mem_cons_of_mem _ h2⟩
theorem yY {P:Program} {f:FuncId} {j:Nat} {ty:TypeId} {s:List LV→List Nat→List Blk→Nat→Option Dl} (hS:Ke P f s):Ke P f (jhd j ty s):=by
 intro args seen ks g nb p d E w hl hd hnd hcs hrel hg hargs hn
 unfold jhd at hd
 split at hd
 ·rename_i c o hptr
  split at hd
  ·rename_i tt es l hlook
   split at hd
   ·rename_i h hat
    split at hd
    ·rename_i seen' hrest hreach
     split at hd
     ·rename_i ks' hks'
      split at hd
      ·rename_i d0 hokb hs0
       split at hd
       ·rename_i h' hval hnw hwr hfl
        split at hd
        ·rename_i hnd0 hin0
         cases hd
         have hnd0:=nodupB_iff.1 hnd0
         have hin0:=Q5 hin0
         rw [JP] at hnd0 hin0
         have hkc:g c=some ⟨tt,(0,0),es,l⟩:=zz hl hlook
         obtain ⟨r,g1,g2,g3⟩:=hrel.blk c _ hkc
         have hlt:o<l.length:=jal hat
         generalize hL:qf (E c) E tt l r o=L
         have hLb:L.blk=(E c).blk:=by rw [←hL];rfl
         have hEb:∀i,(eW E c L i).1=(E i).1:=fun i=>by rw [←hL];exact jjC
         have hEi:∀i,i≠c→eW E c L i=E i:=fun i hi=>by unfold eW;rw [if_neg hi]
         have hEc:eW E c L c=L:=by unfold eW;rw [if_pos rfl]
         have hEn:∀i,YF c i=true→eW E c L i=E i:=fun i hi=>hEi i (okNC_iff.1 hi)
         have hrelW:Rel (eW E c L) (gX g c (flag ty h)) w:=by
          refine ⟨fun i b hb=> ?_,fun i j hi hj he=>hrel.inj i j (zY hkc hi) (zY hkc hj) (by rw [←hEb i,←hEb j];exact he)⟩
          by_cases hi:i=c
          ·subst hi
           rw [jpd] at hb
           cases hb
           refine ⟨[], ?_,fun _=>rfl,fun hne=>absurd rfl hne⟩
           rw [hEc]
           have e:=xj (L:=E i) (E:=E) (t:=tt) (l:=l) (r:=r) (o:=o) ty (h:=h) hlt
           rw [YX hat,hL] at e
           show w.heap[L.blk]? = some (JI L ty h)
           rw [e,hLb];exact g1
          ·obtain ⟨q1,q2⟩:=jfN hb hi
           exact zA hEn q2 (hEi i hi) (hrel.blk i b q1)
         have hargs':(Xn j args (.v (.one (.ptr c 0)))).map (LV.den (eW E c L))=args.map (LV.den E):=by
          refine ZS hEn ?_ hptr hrest
          show Value.pointer (some ⟨(eW E c L c).1,0+(eW E c L c).pre.length,none⟩)=Value.pointer (some ⟨(E c).1,o+(E c).pre.length,none⟩)
          have e:(eW E c L c).pre.length=o+(E c).pre.length:=by
           rw [hEc,←hL];unfold qf;simp;omega
          rw [e,hEb,Nat.zero_add]
         have hnarX:∀i b,okL (YF c) b.cells=true→jqX c ⟨ty,(0,0),0,[.bool h]⟩ seen ks i=some b→gX g c (flag ty h) i=some b:=by
          intro i b hb hi
          unfold jqX at hi
          rw [kX] at hi
          by_cases e:i=c
          ·subst e
           simp only [decide_true] at hi
           cases hi
           exact jpd
          ·simp only [e,decide_false] at hi
           exact jpc (zz hl hi) hb e
         have hliveX:jz (gX g c (flag ty h)) seen'=some ks':=xc hks' fun i b _ hb hi=>hnarX i b (okBs_iff.1 hokb b hb) hi
         have hpc:p c=true:=(hg c _ hkc).1
         have hnc:c<nb∨nb+d0.nw.length≤c:=by
          by_cases e:c<nb
          ·exact .inl e
          ·by_cases e2:nb+d0.nw.length≤c
           ·exact .inr e2
           ·have:=hn c (by omega) (by show c<nb+d0.nw.length;omega)
            rw [hpc] at this;cases this
         have main:=hS _ seen' ks' (gX g c (flag ty h)) nb p d0 (eW E c L) w hliveX hs0 (by rw [JP];exact hnd0) hcs hrelW
          (fun i b hb=>by
           by_cases hi:i=c
           ·subst hi;rw [jpd] at hb;cases hb;exact ⟨hpc,rfl⟩
           ·exact hg i b (jfN hb hi).1)
          (fun u hu=>by
           rcases ZT hptr hu with hu2 | ⟨e2,hu2⟩
           ·exact hargs u hu2
           ·rw [e2];exact hpc) hn
         have hkeyX:∀i,i∈d0.wr.map (·.1)→(gX g c (flag ty h) i).isSome:=fun i hi=>kh hliveX i (hin0 i hi)
         have conv:∀(E':Env) (w':World),Post w (eW E c L) (gX g c (flag ty h)) nb ⟨d0.val,d0.wr,d0.nw,[],[]⟩ E' w'→
           (d0.val.den E'=d0.val.den fun i=>if i=c then E c else E' i)∧
           Post w E g nb ⟨d0.val,(c,some ⟨tt,(0,0),es,l.set o (.bool h')⟩)::Jz c d0.wr,d0.nw,[],[]⟩ (fun i=>if i=c then E c else E' i) w':=by
          intro E' w' hp
          have hEc':E' c=L:=by rw [hp.agree c hnc,hEc]
          have hN:∀i,YF c i=true→(fun i=>if i=c then E c else E' i) i=E' i:=fun i hi=>if_neg (okNC_iff.1 hi)
          have hN1:∀i,((fun i=>if i=c then E c else E' i) i).1=(E' i).1:=by
           intro i
           by_cases hi:i=c
           ·subst hi
            show (if i=i then E i else E' i).1=_
            rw [if_pos rfl,hEc',hLb]
           ·show (if i=c then E c else E' i).1=_
            rw [if_neg hi]
          have hold:∀i,i<nb∨nb+d0.nw.length≤i→(fun i=>if i=c then E c else E' i) i=E i:=by
           intro i hi
           by_cases hic:i=c
           ·subst hic;exact if_pos rfl
           ·show (if i=c then E c else E' i)=_
            rw [if_neg hic,hp.agree i hi,hEi i hic]
          have hpo:∀q,p q=true→(fun i=>if i=c then E c else E' i) q=E q:=by
           intro q hq
           refine hold q ?_
           by_cases e:q<nb
           ·exact .inl e
           ·by_cases e2:nb+d0.nw.length≤q
            ·exact .inr e2
            ·have:=hn q (by omega) (by show q<nb+d0.nw.length;omega)
             rw [hq] at this;cases this
          have hwc:wrG g ((c,some ⟨tt,(0,0),es,l.set o (.bool h')⟩)::Jz c d0.wr) c=some ⟨tt,(0,0),es,l.set o (.bool h')⟩:=by
           simp only [wrG]
           rw [qA _ c fun x hx=>(JA hx).2,if_pos rfl]
          have hwi:∀i,i≠c→i∈d0.wr.map (·.1)→wrG g ((c,some ⟨tt,(0,0),es,l.set o (.bool h')⟩)::Jz c d0.wr) i=wrG (gX g c (flag ty h)) d0.wr i:=by
           intro i hi hm
           simp only [wrG]
           rw [YG (g:=g) hi]
           exact JS d0.wr i (.inl hm)
          have hwo:∀i,i≠c→i ∉ d0.wr.map (·.1)→wrG g ((c,some ⟨tt,(0,0),es,l.set o (.bool h')⟩)::Jz c d0.wr) i=g i:=by
           intro i hi hm
           rw [qA]
           intro x hx e
           rcases List.mem_cons.1 hx with rfl | hx
           ·exact hi e.symm
           ·exact hm (by rw [←e];exact List.mem_map_of_mem (JA hx).1)
          have hXo:∀i,i ∉ d0.wr.map (·.1)→wrG (gX g c (flag ty h)) d0.wr i=gX g c (flag ty h) i:=fun i hm=>qA _ i fun x hx e=>hm (by rw [←e];exact List.mem_map_of_mem hx)
          have hcase:∀i b,nwG (wrG g ((c,some ⟨tt,(0,0),es,l.set o (.bool h')⟩)::Jz c d0.wr)) nb d0.nw i=some b→
            (i=c∧b=⟨tt,(0,0),es,l.set o (.bool h')⟩)∨(i≠c∧okL (YF c) b.cells=true∧nwG (wrG (gX g c (flag ty h)) d0.wr) nb d0.nw i=some b)∨(i≠c∧(i<nb∨nb+d0.nw.length≤i)∧g i=some b∧gX g c (flag ty h) i=none):=by
           intro i b hb
           by_cases hic:i=c
           ·subst hic
            rw [qC _ _ _ hnc,hwc] at hb
            cases hb
            exact .inl ⟨rfl,rfl⟩
           ·right
            by_cases hnew:nb≤i∧i<nb+d0.nw.length
            ·left
             rw [jcj _ _ _ hnew.1 hnew.2] at hb
             refine ⟨hic,okBs_iff.1 hnw b (List.mem_of_getElem? hb), ?_⟩
             rw [jcj _ _ _ hnew.1 hnew.2];exact hb
            ·have hno:i<nb∨nb+d0.nw.length≤i:=by omega
             rw [qC _ _ _ hno] at hb
             by_cases hm:i∈d0.wr.map (·.1)
             ·left
              rw [hwi i hic hm] at hb
              refine ⟨hic, ?_,by rw [qC _ _ _ hno];exact hb⟩
              obtain ⟨x,hx,rfl⟩:=List.mem_map.1 hm
              rw [jeM _ hnd0 x hx] at hb
              exact Qb hwr x hx b hb
             ·rw [hwo i hic hm] at hb
              by_cases ho:okL (YF c) b.cells=true
              ·left
               exact ⟨hic,ho,by rw [qC _ _ _ hno,hXo i hm];exact jpc hb ho hic⟩
              ·right
               exact ⟨hic,hno,hb,jtu hb ho hic⟩
          refine ⟨(LV.den_congr hN hval).symm,fun i hi=>hold i hi,⟨fun i b hb=> ?_,fun i k hi hk he=> ?_⟩,hp.os,hp.tape,hp.output,hp.size,fun k hk hne=>hp.frame k hk fun i hi=>by rw [hEb];exact hne i (zY hkc hi),fun i i1 i2=> ?_⟩
          ·rcases hcase i b hb with ⟨rfl,rfl⟩ | ⟨hic,ho,hb2⟩ | ⟨hic,hno,hb2,hx⟩
           ·have hb2:=hp.rel.blk i (flag ty h') (by
             simp only
             rw [qC _ _ _ hnc]
             exact QD hfl hnd0 jpd)
            obtain ⟨r2,u1,u2,-⟩:=hb2
            rw [hEc',u2 rfl] at u1
            have e:=xj (L:=E i) (E:=E) (t:=tt) (l:=l) (r:=r) (o:=o) ty (h:=h') hlt
            rw [hL] at e
            have hn2:okL p (l.set o (.bool h'))=true:=by
             rw [okL_iff]
             intro a ha
             rcases List.mem_or_eq_of_mem_set ha with ha | rfl
             ·exact okL_iff.1 (hg i _ hkc).2 a ha
             ·rfl
            refine zA (E:=E) hpo hn2 (if_pos rfl) ⟨r, ?_,g2,fun hne=>by show (l.set o _).length+_=_;rw [List.length_set];exact g3 hne⟩
            rw [←hLb]
            exact u1.trans (congrArg some e)
           ·exact zA hN ho (if_neg hic) (hp.rel.blk i b hb2)
           ·obtain ⟨r2,u1,u2,u3⟩:=hrel.blk i b hb2
            refine zA (E:=E) hpo (hg i b hb2).2 (hold i hno) ⟨r2, ?_,u2,u3⟩
            rw [hp.frame _ (Array.getElem?_eq_some_iff.1 u1).1 fun q hq hqe=> ?_]
            ·exact u1
            ·rw [hEb] at hqe
             have:=hrel.inj q i (zY hkc hq) (by rw [hb2];rfl) hqe
             rw [this,hx] at hq
             cases hq
          ·obtain ⟨b,hb⟩:=Option.isSome_iff_exists.1 hi
           obtain ⟨b2,hb2⟩:=Option.isSome_iff_exists.1 hk
           have he':(E' i).1=(E' k).1:=by rw [←hN1 i,←hN1 k];exact he
           have dom:∀i b,nwG (wrG g ((c,some ⟨tt,(0,0),es,l.set o (.bool h')⟩)::Jz c d0.wr)) nb d0.nw i=some b→
             (nwG (wrG (gX g c (flag ty h)) d0.wr) nb d0.nw i).isSome∨((i<nb∨nb+d0.nw.length≤i)∧(g i).isSome∧gX g c (flag ty h) i=none):=by
            intro i b hb
            rcases hcase i b hb with ⟨rfl,rfl⟩ | ⟨hic,ho,hb2⟩ | ⟨hic,hno,hb2,hx⟩
            ·left;rw [qC _ _ _ hnc,QD (g:=gX g i (flag ty h)) hfl hnd0 jpd];rfl
            ·left;rw [hb2];rfl
            ·right;exact ⟨hno,by rw [hb2];rfl,hx⟩
           have mix:∀i k,(nwG (wrG (gX g c (flag ty h)) d0.wr) nb d0.nw i).isSome→(k<nb∨nb+d0.nw.length≤k)→(g k).isSome→gX g c (flag ty h) k=none→(E' i).1=(E' k).1→False:=by
            intro i k hi hno hgk hxk he
            rw [hp.agree k hno,hEb] at he
            obtain ⟨bk,hbk⟩:=Option.isSome_iff_exists.1 hgk
            obtain ⟨rk,v1,-,-⟩:=hrel.blk k bk hbk
            have hks:=(Array.getElem?_eq_some_iff.1 v1).1
            by_cases hnew:nb≤i∧i<nb+d0.nw.length
            ·rcases hp.fresh i hnew.1 hnew.2 with hf | ⟨q,q1,q2⟩
             ·omega
             ·rw [hEb] at q2
              have:=hrel.inj q k (zY hkc q1) hgk (by rw [←q2,he])
              rw [this,hxk] at q1
              cases q1
            ·have hno2:i<nb∨nb+d0.nw.length≤i:=by omega
             rw [qC _ _ _ hno2] at hi
             have hXi:(gX g c (flag ty h) i).isSome:=by
              by_cases hm:i∈d0.wr.map (·.1)
              ·exact hkeyX i hm
              ·rw [hXo i hm] at hi;exact hi
             rw [hp.agree i hno2,hEb] at he
             have:=hrel.inj i k (zY hkc hXi) hgk he
             rw [this,hxk] at hXi
             cases hXi
           rcases dom i b hb with h1 | ⟨h1,h2,h3⟩
           ·rcases dom k b2 hb2 with k1 | ⟨k1,k2,k3⟩
            ·exact hp.rel.inj i k h1 k1 he'
            ·exact absurd he' fun e=>mix i k h1 k1 k2 k3 e
           ·rcases dom k b2 hb2 with k1 | ⟨k1,k2,k3⟩
            ·exact absurd he'.symm fun e=>mix k i k1 h1 h2 h3 e
            ·rw [hp.agree i h1,hp.agree k k1,hEb,hEb] at he'
             exact hrel.inj i k h2 k2 he'
          ·rcases hp.fresh i i1 i2 with hf | ⟨q,q1,q2⟩
           ·left;rw [hN1];exact hf
           ·right;exact ⟨q,zY hkc q1,by rw [hN1,q2,hEb]⟩
         rw [hargs'] at main
         refine main.imp (fun ⟨fn,h1,h2,h3,h4⟩=>⟨fn,h1,h2,h3,h4.mono ?_⟩) (fun ⟨u,w',h1,E',h2,h3⟩=>⟨u,w',h1,_, ?_,(conv E' w' h3).2⟩)
         ·rintro e w' ⟨u,rfl,E',rfl,h3⟩
          exact ⟨_,rfl,_,(conv E' w' h3).1,(conv E' w' h3).2⟩
         ·rw [h2];exact (conv E' w' h3).1
        ·cases hd
       ·cases hd
      ·cases hd
     ·cases hd
    ·cases hd
   ·cases hd
  ·cases hd
 ·cases hd
end Go.Lr

/- Summaries by formula, of functions that are handed one block and plain values; summaries by all blocks, the one or else the other. -/
namespace Go.Lr
open Go.RowKit
def fM (F:Blk→List LV→Option (LV×Blk×List (Bool×Bool))):Sum:=fun args=>
 match args with
 | .v (.one (.ptr b 0))::rest=>match jR rest with
  | true=>some ⟨[],[b],fun _ wB _=>match wB with
   | [k]=>match F k rest with
    | some (v,k',cs)=>some ⟨v,[k'],[],cs⟩
    | none=>none
   | _=>none⟩
  | false=>none
 | _=>none
section
variable {P:Program} {S:FuncId→Option SumK} {z:Md}
theorem jph (hs:Sound P S) {f:FuncId} (ho:Own P f) {F:Blk→List LV→Option (LV×Blk×List (Bool×Bool))}
  (hF:∀k rest v k' cs,F k rest=some (v,k',cs)→(∀c∈cs,c.1=c.2)→jR rest=true→okL noP k.cells=true∧okL noP k'.cells=true∧v.ok noP=true∧k'.es=k.es∧
   ∃n dec m' nb' cs',jG P S z n f (A0::rest) [(0,k)] 1 dec=some (v,m',nb',cs')∧getM m' 0=some k'∧∀c∈cs',c.1=c.2):SumOK P f (fM F):=by
 intro args t g nb p rdB wrB ans ws E w hs' hr hw _ hgo hz hc hrel hg hargs hn
 unfold fM at hs'
 split at hs'
 ·rename_i b rest
  split at hs'
  ·rename_i hp
   cases hs'
   simp only at hgo hw
   split at hgo
   ·rename_i k
    split at hgo
    ·rename_i v k' cs hFk
     cases hgo
     obtain ⟨hk,hok',hv,hes',n,dec,m',nb',cs',hrun,hk',hc'⟩:=hF k rest v k' cs hFk hc hp
     simp only [jz] at hw
     split at hw
     ·rename_i q r hq hr'
      cases hr'
      cases hw
      simp only [Xi] at hz
      cases hz
      have hp':=plainVs_iff.1 hp
      obtain ⟨s',h1,h2,h3,h4⟩:=zf hrun
      have hget:∀i c,getM [(0,k)] i=some c→i=0∧c=k:=by
       intro i c hc
       rw [jm] at hc
       by_cases hi:i=0
       ·rw [if_pos hi] at hc;cases hc;exact ⟨hi,rfl⟩
       ·rw [if_neg hi] at hc;simp [getM] at hc
      obtain ⟨v',b1,b2,b3,b4,b5,b6,b7,b8⟩:=(ki (z9 P) hs.sums hs.mix hs.ng n).2.2.2 f (A0::rest) _ _ s' h1 (fun i c hc=>by
       obtain ⟨rfl,rfl⟩:=hget i c hc
       exact ⟨Nat.zero_lt_one,jn jo hk⟩) ⟨rfl,trivial⟩ (fun u hu=>by
       rcases List.mem_cons.1 hu with rfl | hu
       ·rfl
       ·exact LV.ok_mono jo (hp' u hu))
      cases b1
      obtain ⟨r0,g1,g2,g3⟩:=hrel.blk b k hq
      have hmr:MRel (fun _=>E b) ⟨.nil,0,[(0,k)],1,dec,[],[]⟩ w:=by
       refine ⟨⟨fun i c hc=> ?_,fun i j hi hj _=> ?_⟩,fun i c hc=> ?_,⟨rfl,trivial⟩⟩
       ·obtain ⟨rfl,rfl⟩:=hget i c hc
        exact ⟨r0,by rw [qU hk] at g1 ⊢;exact g1,g2,g3⟩
       ·obtain ⟨c,hc⟩:=Option.isSome_iff_exists.1 hi
        obtain ⟨d,hd⟩:=Option.isSome_iff_exists.1 hj
        rw [(hget i c hc).1,(hget j d hd).1]
       ·obtain ⟨rfl,rfl⟩:=hget i c hc
        exact ⟨Nat.zero_lt_one,jn jo hk⟩
      have hcall:=b8 (by rw [Good,h4];exact hc') (fun _=>E b) w hmr
      have hargs':((A0::rest).map (LV.den fun _=>E b))=((LV.v (V1.one (At.ptr b 0)))::rest).map (LV.den E):=by
       rw [List.map_cons,List.map_cons,jQ hp',jQ (E:=E) hp']
       rfl
      rw [hargs'] at hcall
      obtain ⟨fn,f1,f2,f3⟩:=ho
      refine .inl ⟨fn,f1,f2,f3,hcall.mono ?_⟩
      rintro e w' ⟨E',rfl,hmr',hx⟩
      refine ⟨_,rfl,E,by rw [kg hv,kg (E:=E) hv], ?_⟩
      obtain ⟨r',q1,q2,q3⟩:=hmr'.rel.blk 0 k' (by rw [h2];exact hk')
      rw [hx.agree 0 (by show 0<1;omega)] at q1 q3
      have hframe:∀j,j<w.heap.size→j≠(E b).1→w'.heap[j]? = w.heap[j]? :=fun j hj hne=>hx.frame j hj fun i hi he=>hne he.symm
      refine ⟨fun _ _=>rfl,⟨fun i c hic=> ?_,fun i j hi hj he=> ?_⟩,hx.os,hx.tape,hx.output,hx.size,fun j hj hne=>hframe j hj fun e=>hne b (by simp [hq]) e.symm,fun i h1 h2=>by simp at h2;omega⟩
      ·simp only [nwG,wrG] at hic
       by_cases hi:i=b
       ·subst hi
        rw [if_pos rfl] at hic
        cases hic
        exact ⟨r',by rw [qU hok'] at q1 ⊢;exact q1,q2,q3⟩
       ·rw [if_neg hi] at hic
        obtain ⟨r,u1,u2,u3⟩:=hrel.blk i c hic
        refine ⟨r, ?_,u2,u3⟩
        rw [hframe _ (Array.getElem?_eq_some_iff.1 u1).1 (fun e=>hi (hrel.inj i b (by simp [hic]) (by simp [hq]) e))]
        exact u1
      ·simp only [nwG,wrG] at hi hj
       refine hrel.inj i j ?_ ?_ he
       ·by_cases h1:i=b
        ·rw [h1];simp [hq]
        ·simpa [if_neg h1] using hi
       ·by_cases h1:j=b
        ·rw [h1];simp [hq]
        ·simpa [if_neg h1] using hj
     ·cases hw
    ·cases hgo
   ·cases hgo
  ·cases hs'
 ·cases hs'
end
def jdS (s:Sum):List LV→List Nat→List Blk→Nat→Option Dl:=fun args seen ks nb=>
 match s args with
 | some t=>match jz (YE seen ks) t.rd,jz (YE seen ks) t.wr,xV t.wr with
  | some rB,some wB,true=>match t.go rB wB nb with
   | some ans=>match Xi t.wr ans.wr with
    | some ws=>some ⟨ans.val,ws,ans.nw,[],ans.cs⟩
    | none=>none
   | none=>none
  | _,_,_=>none
 | none=>none
theorem jcT {P:Program} {f:FuncId} {s:Sum} (hS:SumOK P f s):Ke P f (jdS s):=by
 intro args seen ks g nb p d E w hl hd hnd hcs hrel hg hargs hn
 unfold jdS at hd
 split at hd
 ·rename_i t ht
  split at hd
  ·rename_i rB wB hr hw hnd2
   split at hd
   ·rename_i ans hgo
    split at hd
    ·rename_i ws hz
     cases hd
     have up:∀(l:List Nat) (r:List Blk),jz (YE seen ks) l=some r→jz g l=some r:=fun l r h=>xc h fun i b _ _ hi=>zz hl hi
     exact hS args t g nb p rB wB ans ws E w ht (up _ _ hr) (up _ _ hw) hnd2 hgo hz hcs hrel hg hargs hn
    ·cases hd
   ·cases hd
  ·cases hd
 ·cases hd
def QG (s1 s2:List LV→List Nat→List Blk→Nat→Option Dl):List LV→List Nat→List Blk→Nat→Option Dl:=fun args seen ks nb=>
 match s1 args seen ks nb with
 | some d=>some d
 | none=>s2 args seen ks nb
theorem xd {P:Program} {f:FuncId} {s1 s2:List LV→List Nat→List Blk→Nat→Option Dl} (h1:Ke P f s1) (h2:Ke P f s2):Ke P f (QG s1 s2):=by
 intro args seen ks g nb p d E w hl hd hnd hcs hrel hg hargs hn
 unfold QG at hd
 split at hd
 ·rename_i d' hd'
  cases hd
  exact h1 args seen ks g nb p _ E w hl hd' hnd hcs hrel hg hargs hn
 ·exact h2 args seen ks g nb p d E w hl hd hnd hcs hrel hg hargs hn
end Go.Lr

/- Summaries for the whole filter: the flag may lie anywhere; what the evaluator makes by running. -/
namespace Go.Proofs.YtbpfipbhaagllaaGreat
open Go.Lr
noncomputable def K0:FuncId→Option SumK:=more (more (more S47 137 (jfF 63 (x9 63 1 jcA))) 142 (jfF 63 (x9 63 1 jaY))) 70 (jfF 63 (x9 63 1 jdK))
theorem soundK0:Sound Tryz.prog K0:=((sound47.more (Yz jcB)).more (Yz jju)).more (Yz jfv)
noncomputable def K1:FuncId→Option SumK:=more K0 143 (js 63 (zU Tryz.prog K0 Zl 2000 143 63))
theorem soundK1:Sound Tryz.prog K1:=soundK0.more (kO soundK0 (jl soundK0 Tryz.func143 (by kernel_rfl)))
noncomputable def K2:FuncId→Option SumK:=more K1 115 (js 63 (zU Tryz.prog K1 Zl 2000 115 63))
theorem soundK2:Sound Tryz.prog K2:=soundK1.more (kO soundK1 (jl soundK1 Tryz.func115 (by kernel_rfl)))
noncomputable def K3:FuncId→Option SumK:=more K2 86 (js 63 (zU Tryz.prog K2 Zl 2000 86 63))
theorem soundK3:Sound Tryz.prog K3:=soundK2.more (kO soundK2 (jl soundK2 Tryz.func86 (by kernel_rfl)))
noncomputable def K4:FuncId→Option SumK:=more K3 88 (js 63 (zU Tryz.prog K3 Zl 2000 88 63))
theorem soundK4:Sound Tryz.prog K4:=soundK3.more (kO soundK3 (jl soundK3 Tryz.func88 (by kernel_rfl)))
noncomputable def K5:FuncId→Option SumK:=moreG K4 81 (QG (jhd 0 63 (qn Tryz.prog K4 Zl 4000 81)) (qn Tryz.prog K4 Zl 4000 81))
theorem soundK5:Sound Tryz.prog K5:=soundK4.moreG (xd (yY (jP soundK4 (jl soundK4 Tryz.func81 (by kernel_rfl)))) (jP soundK4 (jl soundK4 Tryz.func81 (by kernel_rfl))))
noncomputable def K6:FuncId→Option SumK:=moreG K5 87 (qn Tryz.prog K5 Zl 4000 87)
theorem soundK6:Sound Tryz.prog K6:=soundK5.moreG (jP soundK5 (jl soundK5 Tryz.func87 (by kernel_rfl)))
noncomputable def K7:FuncId→Option SumK:=more K6 36 (Ja Tryz.prog K6 Zl 2000 36)
theorem soundK7:Sound Tryz.prog K7:=soundK6.more (kI soundK6 (jl soundK6 Tryz.func36 (by kernel_rfl)))
end Go.Proofs.YtbpfipbhaagllaaGreat

/- state.unit: its summary. Plain sums of four squares. -/
namespace Go.Proofs.YtbpfipbhaagllaaGreat
open Go.Lr
def unA (q0 q1 q2 q3:Int):Int:=jc 0 0+jc (wHi (q0*q0)) (wLo (q0*q0))
def unB (q0 q1 q2 q3:Int):Int:=jc (w64 (wHi (jc 0 0+jc (wHi (q0*q0)) (wLo (q0*q0))))) (wLo (jc 0 0+jc (wHi (q0*q0)) (wLo (q0*q0))))+jc (wHi (q1*q1)) (wLo (q1*q1))
def unC (q0 q1 q2 q3:Int):Int:=jc (w64 (wHi (jc (w64 (wHi (jc 0 0+jc (wHi (q0*q0)) (wLo (q0*q0))))) (wLo (jc 0 0+jc (wHi (q0*q0)) (wLo (q0*q0))))+jc (wHi (q1*q1)) (wLo (q1*q1))))) (wLo (jc (w64 (wHi (jc 0 0+jc (wHi (q0*q0)) (wLo (q0*q0))))) (wLo (jc 0 0+jc (wHi (q0*q0)) (wLo (q0*q0))))+jc (wHi (q1*q1)) (wLo (q1*q1))))+jc (wHi (q2*q2)) (wLo (q2*q2))
def unD (q0 q1 q2 q3:Int):Int:=jc (w64 (wHi (jc (w64 (wHi (jc (w64 (wHi (jc 0 0+jc (wHi (q0*q0)) (wLo (q0*q0))))) (wLo (jc 0 0+jc (wHi (q0*q0)) (wLo (q0*q0))))+jc (wHi (q1*q1)) (wLo (q1*q1))))) (wLo (jc (w64 (wHi (jc 0 0+jc (wHi (q0*q0)) (wLo (q0*q0))))) (wLo (jc 0 0+jc (wHi (q0*q0)) (wLo (q0*q0))))+jc (wHi (q1*q1)) (wLo (q1*q1))))+jc (wHi (q2*q2)) (wLo (q2*q2))))) (wLo (jc (w64 (wHi (jc (w64 (wHi (jc 0 0+jc (wHi (q0*q0)) (wLo (q0*q0))))) (wLo (jc 0 0+jc (wHi (q0*q0)) (wLo (q0*q0))))+jc (wHi (q1*q1)) (wLo (q1*q1))))) (wLo (jc (w64 (wHi (jc 0 0+jc (wHi (q0*q0)) (wLo (q0*q0))))) (wLo (jc 0 0+jc (wHi (q0*q0)) (wLo (q0*q0))))+jc (wHi (q1*q1)) (wLo (q1*q1))))+jc (wHi (q2*q2)) (wLo (q2*q2))))+jc (wHi (q3*q3)) (wLo (q3*q3))
def unE (q0 q1 q2 q3:Int):Int:=jc (w64 (wHi (jc (w64 (wHi (jc (w64 (wHi (jc (w64 (wHi (jc 0 0+jc (wHi (q0*q0)) (wLo (q0*q0))))) (wLo (jc 0 0+jc (wHi (q0*q0)) (wLo (q0*q0))))+jc (wHi (q1*q1)) (wLo (q1*q1))))) (wLo (jc (w64 (wHi (jc 0 0+jc (wHi (q0*q0)) (wLo (q0*q0))))) (wLo (jc 0 0+jc (wHi (q0*q0)) (wLo (q0*q0))))+jc (wHi (q1*q1)) (wLo (q1*q1))))+jc (wHi (q2*q2)) (wLo (q2*q2))))) (wLo (jc (w64 (wHi (jc (w64 (wHi (jc 0 0+jc (wHi (q0*q0)) (wLo (q0*q0))))) (wLo (jc 0 0+jc (wHi (q0*q0)) (wLo (q0*q0))))+jc (wHi (q1*q1)) (wLo (q1*q1))))) (wLo (jc (w64 (wHi (jc 0 0+jc (wHi (q0*q0)) (wLo (q0*q0))))) (wLo (jc 0 0+jc (wHi (q0*q0)) (wLo (q0*q0))))+jc (wHi (q1*q1)) (wLo (q1*q1))))+jc (wHi (q2*q2)) (wLo (q2*q2))))+jc (wHi (q3*q3)) (wLo (q3*q3))))) (wLo (jc (w64 (wHi (jc (w64 (wHi (jc (w64 (wHi (jc 0 0+jc (wHi (q0*q0)) (wLo (q0*q0))))) (wLo (jc 0 0+jc (wHi (q0*q0)) (wLo (q0*q0))))+jc (wHi (q1*q1)) (wLo (q1*q1))))) (wLo (jc (w64 (wHi (jc 0 0+jc (wHi (q0*q0)) (wLo (q0*q0))))) (wLo (jc 0 0+jc (wHi (q0*q0)) (wLo (q0*q0))))+jc (wHi (q1*q1)) (wLo (q1*q1))))+jc (wHi (q2*q2)) (wLo (q2*q2))))) (wLo (jc (w64 (wHi (jc (w64 (wHi (jc 0 0+jc (wHi (q0*q0)) (wLo (q0*q0))))) (wLo (jc 0 0+jc (wHi (q0*q0)) (wLo (q0*q0))))+jc (wHi (q1*q1)) (wLo (q1*q1))))) (wLo (jc (w64 (wHi (jc 0 0+jc (wHi (q0*q0)) (wLo (q0*q0))))) (wLo (jc 0 0+jc (wHi (q0*q0)) (wLo (q0*q0))))+jc (wHi (q1*q1)) (wLo (q1*q1))))+jc (wHi (q2*q2)) (wLo (q2*q2))))+jc (wHi (q3*q3)) (wLo (q3*q3))))
theorem jsP (q0 q1 q2 q3:Int):(jG Tryz.prog (ZC K7 67) Zl 4000 34 [.v (.agg [.int .i64 q0,.int .i64 q1,.int .i64 q2,.int .i64 q3])] [] 0 (nn 1 (tt 1 []))).map (fun r=>(r.1,r.2.2.2))=some (LV.v (V1.one (At.bool false)),[(decide (jB q0>1073741840),true)]):=by kernel_rfl
theorem jsQ (q0 q1 q2 q3:Int):(jG Tryz.prog (ZC K7 67) Zl 4000 34 [.v (.agg [.int .i64 q0,.int .i64 q1,.int .i64 q2,.int .i64 q3])] [] 0 (nn 1 (ff 1 (nn 1 (tt 1 []))))).map (fun r=>(r.1,r.2.2.2))=some (LV.v (V1.one (At.bool false)),[(decide (jB q1>1073741840),true),(true&&true,true),(isI q0,true),(isI q0,true),(decide (jB q0>1073741840),false)]):=by kernel_rfl
theorem jsR (q0 q1 q2 q3:Int):(jG Tryz.prog (ZC K7 67) Zl 4000 34 [.v (.agg [.int .i64 q0,.int .i64 q1,.int .i64 q2,.int .i64 q3])] [] 0 (nn 1 (ff 1 (nn 1 (ff 1 (nn 1 (tt 1 []))))))).map (fun r=>(r.1,r.2.2.2))=some (LV.v (V1.one (At.bool false)),[(decide (jB q2>1073741840),true),(true&&true,true),(isI q1,true),(isI q1,true),(decide (jB q1>1073741840),false),(true&&true,true),(isI q0,true),(isI q0,true),(decide (jB q0>1073741840),false)]):=by kernel_rfl
theorem jsS (q0 q1 q2 q3:Int):(jG Tryz.prog (ZC K7 67) Zl 4000 34 [.v (.agg [.int .i64 q0,.int .i64 q1,.int .i64 q2,.int .i64 q3])] [] 0 (nn 1 (ff 1 (nn 1 (ff 1 (nn 1 (ff 1 (nn 1 (tt 1 []))))))))).map (fun r=>(r.1,r.2.2.2))=some (LV.v (V1.one (At.bool false)),[(decide (jB q3>1073741840),true),(true&&true,true),(isI q2,true),(isI q2,true),(decide (jB q2>1073741840),false),(true&&true,true),(isI q1,true),(isI q1,true),(decide (jB q1>1073741840),false),(true&&true,true),(isI q0,true),(isI q0,true),(decide (jB q0>1073741840),false)]):=by kernel_rfl
theorem jsT (q0 q1 q2 q3:Int):(jG Tryz.prog (ZC K7 67) Zl 4000 34 [.v (.agg [.int .i64 q0,.int .i64 q1,.int .i64 q2,.int .i64 q3])] [] 0 (nn 1 (ff 1 (nn 1 (ff 1 (nn 1 (ff 1 (nn 1 (ff 1 (nn 2 (ff 1 (nn 1 (ff 1 (nn 1 (ff 1 (nn 1 (ff 1 (nn 1 (tt 8 []))))))))))))))))))).map (fun r=>(r.1,r.2.2.2))=some (LV.v (V1.one (At.bool (decide (wr .i64 ((if isI (kZ (unE q0 q1 q2 q3) (Int.toNat 0))=true then kZ (unE q0 q1 q2 q3) (Int.toNat 0) else 0) - 1152921504606846976)≤4294967296)))),[(decide (wr .i64 ((if isI (kZ (unE q0 q1 q2 q3) (Int.toNat 0))=true then kZ (unE q0 q1 q2 q3) (Int.toNat 0) else 0) - 1152921504606846976)≥ -4294967296),true),(decide (wr .i64 ((if isI (kZ (unE q0 q1 q2 q3) (Int.toNat 0))=true then kZ (unE q0 q1 q2 q3) (Int.toNat 0) else 0) - 1152921504606846976)≥ -4294967296),true),(decide (wr .i64 ((if isI (kZ (unE q0 q1 q2 q3) (Int.toNat 0))=true then kZ (unE q0 q1 q2 q3) (Int.toNat 0) else 0) - 1152921504606846976)≥ -4294967296),true),(decide (wr .i64 ((if isI (kZ (unE q0 q1 q2 q3) (Int.toNat 0))=true then kZ (unE q0 q1 q2 q3) (Int.toNat 0) else 0) - 1152921504606846976)≥ -4294967296),true),(isI (kZ (unE q0 q1 q2 q3) 0),true),(isI (kZ (unE q0 q1 q2 q3) 0),true),(isI (kZ (unE q0 q1 q2 q3) 0),true),(isI (kZ (unE q0 q1 q2 q3) 0),true),(isI (w64 (wHi (unD q0 q1 q2 q3))),true),(isU (wLo (unD q0 q1 q2 q3)),true),(decide (0≤0)&&decide (0≤126),true),(!isW (unD q0 q1 q2 q3),false),(isI (w64 (wHi (unC q0 q1 q2 q3))),true),(isU (wLo (unC q0 q1 q2 q3)),true),(isI (wHi (q3*q3)),true),(isU (wLo (q3*q3)),true),(!isW (unC q0 q1 q2 q3),false),(isI (w64 (wHi (unB q0 q1 q2 q3))),true),(isU (wLo (unB q0 q1 q2 q3)),true),(isI (wHi (q2*q2)),true),(isU (wLo (q2*q2)),true),(!isW (unB q0 q1 q2 q3),false),(isI (w64 (wHi (unA q0 q1 q2 q3))),true),(isU (wLo (unA q0 q1 q2 q3)),true),(isI (wHi (q1*q1)),true),(isU (wLo (q1*q1)),true),(!isW (unA q0 q1 q2 q3),false),(isI 0,true),(isU 0,true),(isI (wHi (q0*q0)),true),(isU (wLo (q0*q0)),true),(true&&true,true),(isI q3,true),(isI q3,true),(decide (jB q3>1073741840),false),(true&&true,true),(isI q2,true),(isI q2,true),(decide (jB q2>1073741840),false),(true&&true,true),(isI q1,true),(isI q1,true),(decide (jB q1>1073741840),false),(true&&true,true),(isI q0,true),(isI q0,true),(decide (jB q0>1073741840),false)]):=by kernel_rfl
theorem jsU (q0 q1 q2 q3:Int):(jG Tryz.prog (ZC K7 67) Zl 4000 34 [.v (.agg [.int .i64 q0,.int .i64 q1,.int .i64 q2,.int .i64 q3])] [] 0 (nn 1 (ff 1 (nn 1 (ff 1 (nn 1 (ff 1 (nn 1 (ff 1 (nn 2 (ff 1 (nn 1 (ff 1 (nn 1 (ff 1 (nn 1 (ff 1 (nn 1 (tt 4 (ff 4 [])))))))))))))))))))).map (fun r=>(r.1,r.2.2.2))=some (LV.v (V1.one (At.bool false)),[(decide (wr .i64 ((if isI (kZ (unE q0 q1 q2 q3) (Int.toNat 0))=true then kZ (unE q0 q1 q2 q3) (Int.toNat 0) else 0) - 1152921504606846976)≥ -4294967296),false),(decide (wr .i64 ((if isI (kZ (unE q0 q1 q2 q3) (Int.toNat 0))=true then kZ (unE q0 q1 q2 q3) (Int.toNat 0) else 0) - 1152921504606846976)≥ -4294967296),false),(decide (wr .i64 ((if isI (kZ (unE q0 q1 q2 q3) (Int.toNat 0))=true then kZ (unE q0 q1 q2 q3) (Int.toNat 0) else 0) - 1152921504606846976)≥ -4294967296),false),(decide (wr .i64 ((if isI (kZ (unE q0 q1 q2 q3) (Int.toNat 0))=true then kZ (unE q0 q1 q2 q3) (Int.toNat 0) else 0) - 1152921504606846976)≥ -4294967296),false),(isI (kZ (unE q0 q1 q2 q3) 0),true),(isI (kZ (unE q0 q1 q2 q3) 0),true),(isI (kZ (unE q0 q1 q2 q3) 0),true),(isI (kZ (unE q0 q1 q2 q3) 0),true),(isI (w64 (wHi (unD q0 q1 q2 q3))),true),(isU (wLo (unD q0 q1 q2 q3)),true),(decide (0≤0)&&decide (0≤126),true),(!isW (unD q0 q1 q2 q3),false),(isI (w64 (wHi (unC q0 q1 q2 q3))),true),(isU (wLo (unC q0 q1 q2 q3)),true),(isI (wHi (q3*q3)),true),(isU (wLo (q3*q3)),true),(!isW (unC q0 q1 q2 q3),false),(isI (w64 (wHi (unB q0 q1 q2 q3))),true),(isU (wLo (unB q0 q1 q2 q3)),true),(isI (wHi (q2*q2)),true),(isU (wLo (q2*q2)),true),(!isW (unB q0 q1 q2 q3),false),(isI (w64 (wHi (unA q0 q1 q2 q3))),true),(isU (wLo (unA q0 q1 q2 q3)),true),(isI (wHi (q1*q1)),true),(isU (wLo (q1*q1)),true),(!isW (unA q0 q1 q2 q3),false),(isI 0,true),(isU 0,true),(isI (wHi (q0*q0)),true),(isU (wLo (q0*q0)),true),(true&&true,true),(isI q3,true),(isI q3,true),(decide (jB q3>1073741840),false),(true&&true,true),(isI q2,true),(isI q2,true),(decide (jB q2>1073741840),false),(true&&true,true),(isI q1,true),(isI q1,true),(decide (jB q1>1073741840),false),(true&&true,true),(isI q0,true),(isI q0,true),(decide (jB q0>1073741840),false)]):=by kernel_rfl
theorem KS {x:Int} (h:decide (jB x>1073741840)=false): -1073741840≤x∧x≤1073741840:=by
 have:=of_decide_eq_false h
 unfold jB at this
 split at this <;> rename_i h1
 ·omega
 ·split at this <;> rename_i h2
  ·omega
  ·split at this <;> omega
theorem Ks {x:Int} (h: -1073741840≤x∧x≤1073741840):0≤x*x∧x*x≤1152921538966585600:=by
 constructor
 ·by_cases h0:0≤x
  ·exact Int.mul_nonneg h0 h0
  ·have:=Int.mul_nonneg (show 0≤ -x by omega) (show 0≤ -x by omega);rwa [Int.neg_mul_neg] at this
 ·by_cases h0:0≤x
  ·have:=Int.mul_le_mul h.2 h.2 h0 (by omega);omega
  ·have:=Int.mul_le_mul (show -x≤1073741840 by omega) (show -x≤1073741840 by omega) (by omega) (by omega);rw [Int.neg_mul_neg] at this;omega
theorem Yx {x:Int} (h: -1073741840≤x∧x≤1073741840):isI x=true:=isI_iff.2 (by omega)
theorem w00:jc 0 0=0:=rfl
theorem wre {v:Int} (h0:0≤v) (h1:v<9223372036854775808*18446744073709551616):w64 (wHi v)=wHi v:=q9 (by unfold wHi;omega) (by unfold wHi;omega)
theorem jcI {v:Int} (h0:0≤v) (h1:v<9223372036854775808):isW v=true:=by
 unfold isW;simp only [Bool.and_eq_true,decide_eq_true_eq];omega
theorem yX {v:Int} (h0:0≤v) (h1:v<9223372036854775808):isI (wHi v)=true:=isI_iff.2 (by unfold wHi;omega)
theorem jwf {q0 q1 q2 q3:Int} (h0: -1073741840≤q0∧q0≤1073741840) (h1: -1073741840≤q1∧q1≤1073741840) (h2: -1073741840≤q2∧q2≤1073741840) (h3: -1073741840≤q3∧q3≤1073741840):
  unA q0 q1 q2 q3=q0*q0∧unB q0 q1 q2 q3=q0*q0+q1*q1∧unC q0 q1 q2 q3=q0*q0+q1*q1+q2*q2∧unD q0 q1 q2 q3=q0*q0+q1*q1+q2*q2+q3*q3∧unE q0 q1 q2 q3=q0*q0+q1*q1+q2*q2+q3*q3:=by
 have s0:=Ks h0
 have s1:=Ks h1
 have s2:=Ks h2
 have s3:=Ks h3
 have a:unA q0 q1 q2 q3=q0*q0:=by unfold unA;rw [jJ,w00];omega
 have b:unB q0 q1 q2 q3=q0*q0+q1*q1:=by
  have e:unB q0 q1 q2 q3=jc (w64 (wHi (unA q0 q1 q2 q3))) (wLo (unA q0 q1 q2 q3))+jc (wHi (q1*q1)) (wLo (q1*q1)):=rfl
  rw [e,a,wre (by omega) (by omega),jJ,jJ]
 have c:unC q0 q1 q2 q3=q0*q0+q1*q1+q2*q2:=by
  have e:unC q0 q1 q2 q3=jc (w64 (wHi (unB q0 q1 q2 q3))) (wLo (unB q0 q1 q2 q3))+jc (wHi (q2*q2)) (wLo (q2*q2)):=rfl
  rw [e,b,wre (by omega) (by omega),jJ,jJ]
 have d:unD q0 q1 q2 q3=q0*q0+q1*q1+q2*q2+q3*q3:=by
  have e:unD q0 q1 q2 q3=jc (w64 (wHi (unC q0 q1 q2 q3))) (wLo (unC q0 q1 q2 q3))+jc (wHi (q3*q3)) (wLo (q3*q3)):=rfl
  rw [e,c,wre (by omega) (by omega),jJ,jJ]
 refine ⟨a,b,c,d, ?_⟩
 have e:unE q0 q1 q2 q3=jc (w64 (wHi (unD q0 q1 q2 q3))) (wLo (unD q0 q1 q2 q3)):=rfl
 rw [e,d,wre (by omega) (by omega),jJ]
def Qz (q0 q1 q2 q3:Int):Bool:=bif decide (jB q0>1073741840) then false else bif decide (jB q1>1073741840) then false else bif decide (jB q2>1073741840) then false else bif decide (jB q3>1073741840) then false else
 decide (q0*q0+q1*q1+q2*q2+q3*q3 - 1152921504606846976≥ -4294967296)&&decide (q0*q0+q1*q1+q2*q2+q3*q3 - 1152921504606846976≤4294967296)
def jsV:List LV→Option (LV×List (Bool×Bool))
 | [.v (.agg [.int .i64 q0,.int .i64 q1,.int .i64 q2,.int .i64 q3])]=>some (.v (.one (.bool (Qz q0 q1 q2 q3))),[])
 | _=>none
theorem joW:SumOK Tryz.prog 34 (jq jsV):=by
 refine jC (z:=Zl) (soundK7.drop 67) (jl soundK7 Tryz.func34 (by kernel_rfl)) fun args v cs hF hc=> ?_
 unfold jsV at hF
 split at hF
 ·rename_i q0 q1 q2 q3
  cases hF
  cases c0:decide (jB q0>1073741840)
  ·have h0:=KS c0
   have b0:=Yx h0
   cases c1:decide (jB q1>1073741840)
   ·have h1:=KS c1
    have b1:=Yx h1
    cases c2:decide (jB q2>1073741840)
    ·have h2:=KS c2
     have b2:=Yx h2
     cases c3:decide (jB q3>1073741840)
     ·have h3:=KS c3
      obtain ⟨eA,eB,eC,eD,eE⟩:=jwf h0 h1 h2 h3
      have s0:=Ks h0
      have s1:=Ks h1
      have s2:=Ks h2
      have s3:=Ks h3
      have r0:isI (kZ (unE q0 q1 q2 q3) 0)=true:=by rw [eE];have:=jn4 (q0*q0+q1*q1+q2*q2+q3*q3);simp only [Int.toNat_zero] at this;rw [this];exact isI_iff.2 (by omega)
      have r1:kZ (unE q0 q1 q2 q3) (Int.toNat 0)=q0*q0+q1*q1+q2*q2+q3*q3:=by rw [eE,jn4]
      have r2:wr .i64 ((if isI (kZ (unE q0 q1 q2 q3) (Int.toNat 0))=true then kZ (unE q0 q1 q2 q3) (Int.toNat 0) else 0) - 1152921504606846976)=q0*q0+q1*q1+q2*q2+q3*q3 - 1152921504606846976:=by
       rw [if_pos (show isI (kZ (unE q0 q1 q2 q3) (Int.toNat 0))=true from r0),r1,jls,q9 (by omega) (by omega)]
      have wA:(!isW (unA q0 q1 q2 q3))=false:=by rw [eA,jcI (by omega) (by omega)];rfl
      have wB:(!isW (unB q0 q1 q2 q3))=false:=by rw [eB,jcI (by omega) (by omega)];rfl
      have wC:(!isW (unC q0 q1 q2 q3))=false:=by rw [eC,jcI (by omega) (by omega)];rfl
      have wD:(!isW (unD q0 q1 q2 q3))=false:=by rw [eD,jcI (by omega) (by omega)];rfl
      have iA:isI (w64 (wHi (unA q0 q1 q2 q3)))=true:=by rw [eA,wre (by omega) (by omega)];exact yX (by omega) (by omega)
      have iB:isI (w64 (wHi (unB q0 q1 q2 q3)))=true:=by rw [eB,wre (by omega) (by omega)];exact yX (by omega) (by omega)
      have iC:isI (w64 (wHi (unC q0 q1 q2 q3)))=true:=by rw [eC,wre (by omega) (by omega)];exact yX (by omega) (by omega)
      have iD:isI (w64 (wHi (unD q0 q1 q2 q3)))=true:=by rw [eD,wre (by omega) (by omega)];exact yX (by omega) (by omega)
      have i0:isI (wHi (q0*q0))=true:=yX (by omega) (by omega)
      have i1:isI (wHi (q1*q1))=true:=yX (by omega) (by omega)
      have i2:isI (wHi (q2*q2))=true:=yX (by omega) (by omega)
      have i3:isI (wHi (q3*q3))=true:=yX (by omega) (by omega)
      have b3:=Yx h3
      cases c4:decide (q0*q0+q1*q1+q2*q2+q3*q3 - 1152921504606846976≥ -4294967296)
      ·have e:Qz q0 q1 q2 q3=false:=by unfold Qz;rw [c0,c1,c2,c3,c4];rfl
       rw [e]
       refine ⟨4000,_,_,jsU q0 q1 q2 q3, ?_⟩
       rw [r2]
       repeat' first | exact jd | apply ja
       all_goals first | with_reducible assumption | with_reducible rfl | with_reducible exact Yb _ | rfl
      ·have e:Qz q0 q1 q2 q3=decide (q0*q0+q1*q1+q2*q2+q3*q3 - 1152921504606846976≤4294967296):=by unfold Qz;rw [c0,c1,c2,c3,c4];rfl
       rw [e,←r2]
       refine ⟨4000,_,_,jsT q0 q1 q2 q3, ?_⟩
       rw [r2]
       repeat' first | exact jd | apply ja
       all_goals first | with_reducible assumption | with_reducible rfl | with_reducible exact Yb _ | rfl
     ·have e:Qz q0 q1 q2 q3=false:=by unfold Qz;rw [c0,c1,c2,c3];rfl
      rw [e]
      refine ⟨4000,_,_,jsS q0 q1 q2 q3, ?_⟩
      repeat' first | exact jd | apply ja
      all_goals first | with_reducible assumption | with_reducible rfl | rfl
    ·have e:Qz q0 q1 q2 q3=false:=by unfold Qz;rw [c0,c1,c2];rfl
     rw [e]
     refine ⟨4000,_,_,jsR q0 q1 q2 q3, ?_⟩
     repeat' first | exact jd | apply ja
     all_goals first | with_reducible assumption | with_reducible rfl | rfl
   ·have e:Qz q0 q1 q2 q3=false:=by unfold Qz;rw [c0,c1];rfl
    rw [e]
    refine ⟨4000,_,_,jsQ q0 q1 q2 q3, ?_⟩
    repeat' first | exact jd | apply ja
    all_goals first | with_reducible assumption | with_reducible rfl | rfl
  ·have e:Qz q0 q1 q2 q3=false:=by unfold Qz;rw [c0];rfl
   rw [e]
   exact ⟨4000,_,_,jsP q0 q1 q2 q3,ja c0 jd⟩
 ·cases hF
noncomputable def K8u:FuncId→Option SumK:=more K7 34 (jq jsV)
theorem soundK8u:Sound Tryz.prog K8u:=soundK7.more joW
end Go.Proofs.YtbpfipbhaagllaaGreat

/- state.clamp: its summary. -/
namespace Go.Proofs.YtbpfipbhaagllaaGreat
open Go.Lr
noncomputable def K9u:FuncId→Option SumK:=more K8u 38 (js 63 (zU Tryz.prog K8u Zl 2000 38 63))
theorem soundK9u:Sound Tryz.prog K9u:=soundK8u.more (kO soundK8u (jl soundK8u Tryz.func38 (by kernel_rfl)))
end Go.Proofs.YtbpfipbhaagllaaGreat

/- state.Keep: its summary, number by number: it always ends. -/
namespace Go.Proofs.YtbpfipbhaagllaaGreat
open Go.Lr
def jfC (hb:Bool) (s0 s1 s2 s3 s4 s5 s6 s7 s8 s9 s10 s11 s12 s13 s14 s15 s16 s17 s18 s19 s20 s21 s22 s23:Int):Bool:=(bif Qz s0 s1 s2 s3 then hb else uFl hb s0 s1 s2 s3)||jx s4 (wr .i64 (0 - 549755813888)) 549755813888||jx s5 (wr .i64 (0 - 549755813888)) 549755813888||jx s6 (wr .i64 (0 - 549755813888)) 549755813888||jx s7 (wr .i64 (0 - 9007199254740992)) 9007199254740992||jx s8 (wr .i64 (0 - 9007199254740992)) 9007199254740992||jx s9 (wr .i64 (0 - 9007199254740992)) 9007199254740992||jx s10 (wr .i64 (0 - 134217728)) 134217728||jx s11 (wr .i64 (0 - 134217728)) 134217728||jx s12 (wr .i64 (0 - 134217728)) 134217728||jx s13 (wr .i64 (0 - 1073741824)) 1073741824||jx s14 (wr .i64 (0 - 1073741824)) 1073741824||jx s15 (wr .i64 (0 - 1073741824)) 1073741824||jx s16 (wr .i64 (0 - 2147483648)) 2147483648||jx s17 (wr .i64 (0 - 2147483648)) 2147483648||jx s18 (wr .i64 (0 - 2147483648)) 2147483648||jx s19 (wr .i64 (0 - 2147483648)) 2147483648||jx s20 (wr .i64 (0 - 2147483648)) 2147483648||jx s21 (wr .i64 (0 - 2147483648)) 2147483648||jx s22 (wr .i64 (0 - 137438953472)) 137438953472||jx s23 (wr .i64 (0 - 137438953472)) 137438953472
def jdP (s0 s1 s2 s3 s4 s5 s6 s7 s8 s9 s10 s11 s12 s13 s14 s15 s16 s17 s18 s19 s20 s21 s22 s23:Int):LV:= .v (.agg [.int .i64 (bif Qz s0 s1 s2 s3 then s0 else uV0 s0 s1 s2 s3),.int .i64 (bif Qz s0 s1 s2 s3 then s1 else uV1 s0 s1 s2 s3),.int .i64 (bif Qz s0 s1 s2 s3 then s2 else uV2 s0 s1 s2 s3),.int .i64 (bif Qz s0 s1 s2 s3 then s3 else uV3 s0 s1 s2 s3),.int .i64 (jw s4 (wr .i64 (0 - 549755813888)) 549755813888),.int .i64 (jw s5 (wr .i64 (0 - 549755813888)) 549755813888),.int .i64 (jw s6 (wr .i64 (0 - 549755813888)) 549755813888),.int .i64 (jw s7 (wr .i64 (0 - 9007199254740992)) 9007199254740992),.int .i64 (jw s8 (wr .i64 (0 - 9007199254740992)) 9007199254740992),.int .i64 (jw s9 (wr .i64 (0 - 9007199254740992)) 9007199254740992),.int .i64 (jw s10 (wr .i64 (0 - 134217728)) 134217728),.int .i64 (jw s11 (wr .i64 (0 - 134217728)) 134217728),.int .i64 (jw s12 (wr .i64 (0 - 134217728)) 134217728),.int .i64 (jw s13 (wr .i64 (0 - 1073741824)) 1073741824),.int .i64 (jw s14 (wr .i64 (0 - 1073741824)) 1073741824),.int .i64 (jw s15 (wr .i64 (0 - 1073741824)) 1073741824),.int .i64 (jw s16 (wr .i64 (0 - 2147483648)) 2147483648),.int .i64 (jw s17 (wr .i64 (0 - 2147483648)) 2147483648),.int .i64 (jw s18 (wr .i64 (0 - 2147483648)) 2147483648),.int .i64 (jw s19 (wr .i64 (0 - 2147483648)) 2147483648),.int .i64 (jw s20 (wr .i64 (0 - 2147483648)) 2147483648),.int .i64 (jw s21 (wr .i64 (0 - 2147483648)) 2147483648),.int .i64 (jw s22 (wr .i64 (0 - 137438953472)) 137438953472),.int .i64 (jw s23 (wr .i64 (0 - 137438953472)) 137438953472)])
def jlg:List LV→Bool→Option (LV×Bool×List (Bool×Bool))
 | [.v (.agg [.int .i64 s0,.int .i64 s1,.int .i64 s2,.int .i64 s3,.int .i64 s4,.int .i64 s5,.int .i64 s6,.int .i64 s7,.int .i64 s8,.int .i64 s9,.int .i64 s10,.int .i64 s11,.int .i64 s12,.int .i64 s13,.int .i64 s14,.int .i64 s15,.int .i64 s16,.int .i64 s17,.int .i64 s18,.int .i64 s19,.int .i64 s20,.int .i64 s21,.int .i64 s22,.int .i64 s23])],hb=>some (jdP s0 s1 s2 s3 s4 s5 s6 s7 s8 s9 s10 s11 s12 s13 s14 s15 s16 s17 s18 s19 s20 s21 s22 s23,jfC hb s0 s1 s2 s3 s4 s5 s6 s7 s8 s9 s10 s11 s12 s13 s14 s15 s16 s17 s18 s19 s20 s21 s22 s23,[])
 | _,_=>none
theorem joT (s0 s1 s2 s3 s4 s5 s6 s7 s8 s9 s10 s11 s12 s13 s14 s15 s16 s17 s18 s19 s20 s21 s22 s23:Int) (hb:Bool):(jG Tryz.prog K9u Zl 4000 19 [A0,.v (.agg [.int .i64 s0,.int .i64 s1,.int .i64 s2,.int .i64 s3,.int .i64 s4,.int .i64 s5,.int .i64 s6,.int .i64 s7,.int .i64 s8,.int .i64 s9,.int .i64 s10,.int .i64 s11,.int .i64 s12,.int .i64 s13,.int .i64 s14,.int .i64 s15,.int .i64 s16,.int .i64 s17,.int .i64 s18,.int .i64 s19,.int .i64 s20,.int .i64 s21,.int .i64 s22,.int .i64 s23])] [(0,flag 63 hb)] 1 (tt 1 [])).map (fun r=>(r.1,getM r.2.1 0,r.2.2.2))=some (.v (.agg [.int .i64 (uV0 s0 s1 s2 s3),.int .i64 (uV1 s0 s1 s2 s3),.int .i64 (uV2 s0 s1 s2 s3),.int .i64 (uV3 s0 s1 s2 s3),.int .i64 ((jw s4 (wr .i64 (0 - 549755813888)) 549755813888)),.int .i64 ((jw s5 (wr .i64 (0 - 549755813888)) 549755813888)),.int .i64 ((jw s6 (wr .i64 (0 - 549755813888)) 549755813888)),.int .i64 ((jw s7 (wr .i64 (0 - 9007199254740992)) 9007199254740992)),.int .i64 ((jw s8 (wr .i64 (0 - 9007199254740992)) 9007199254740992)),.int .i64 ((jw s9 (wr .i64 (0 - 9007199254740992)) 9007199254740992)),.int .i64 ((jw s10 (wr .i64 (0 - 134217728)) 134217728)),.int .i64 ((jw s11 (wr .i64 (0 - 134217728)) 134217728)),.int .i64 ((jw s12 (wr .i64 (0 - 134217728)) 134217728)),.int .i64 ((jw s13 (wr .i64 (0 - 1073741824)) 1073741824)),.int .i64 ((jw s14 (wr .i64 (0 - 1073741824)) 1073741824)),.int .i64 ((jw s15 (wr .i64 (0 - 1073741824)) 1073741824)),.int .i64 ((jw s16 (wr .i64 (0 - 2147483648)) 2147483648)),.int .i64 ((jw s17 (wr .i64 (0 - 2147483648)) 2147483648)),.int .i64 ((jw s18 (wr .i64 (0 - 2147483648)) 2147483648)),.int .i64 ((jw s19 (wr .i64 (0 - 2147483648)) 2147483648)),.int .i64 ((jw s20 (wr .i64 (0 - 2147483648)) 2147483648)),.int .i64 ((jw s21 (wr .i64 (0 - 2147483648)) 2147483648)),.int .i64 ((jw s22 (wr .i64 (0 - 137438953472)) 137438953472)),.int .i64 ((jw s23 (wr .i64 (0 - 137438953472)) 137438953472))]),some (flag 63 (uFl hb s0 s1 s2 s3||jx s4 (wr .i64 (0 - 549755813888)) 549755813888||jx s5 (wr .i64 (0 - 549755813888)) 549755813888||jx s6 (wr .i64 (0 - 549755813888)) 549755813888||jx s7 (wr .i64 (0 - 9007199254740992)) 9007199254740992||jx s8 (wr .i64 (0 - 9007199254740992)) 9007199254740992||jx s9 (wr .i64 (0 - 9007199254740992)) 9007199254740992||jx s10 (wr .i64 (0 - 134217728)) 134217728||jx s11 (wr .i64 (0 - 134217728)) 134217728||jx s12 (wr .i64 (0 - 134217728)) 134217728||jx s13 (wr .i64 (0 - 1073741824)) 1073741824||jx s14 (wr .i64 (0 - 1073741824)) 1073741824||jx s15 (wr .i64 (0 - 1073741824)) 1073741824||jx s16 (wr .i64 (0 - 2147483648)) 2147483648||jx s17 (wr .i64 (0 - 2147483648)) 2147483648||jx s18 (wr .i64 (0 - 2147483648)) 2147483648||jx s19 (wr .i64 (0 - 2147483648)) 2147483648||jx s20 (wr .i64 (0 - 2147483648)) 2147483648||jx s21 (wr .i64 (0 - 2147483648)) 2147483648||jx s22 (wr .i64 (0 - 137438953472)) 137438953472||jx s23 (wr .i64 (0 - 137438953472)) 137438953472)),[(!Qz s0 s1 s2 s3,true)]):=by kernel_rfl
theorem joU (s0 s1 s2 s3 s4 s5 s6 s7 s8 s9 s10 s11 s12 s13 s14 s15 s16 s17 s18 s19 s20 s21 s22 s23:Int) (hb:Bool):(jG Tryz.prog K9u Zl 4000 19 [A0,.v (.agg [.int .i64 s0,.int .i64 s1,.int .i64 s2,.int .i64 s3,.int .i64 s4,.int .i64 s5,.int .i64 s6,.int .i64 s7,.int .i64 s8,.int .i64 s9,.int .i64 s10,.int .i64 s11,.int .i64 s12,.int .i64 s13,.int .i64 s14,.int .i64 s15,.int .i64 s16,.int .i64 s17,.int .i64 s18,.int .i64 s19,.int .i64 s20,.int .i64 s21,.int .i64 s22,.int .i64 s23])] [(0,flag 63 hb)] 1 (ff 1 [])).map (fun r=>(r.1,getM r.2.1 0,r.2.2.2))=some (.v (.agg [.int .i64 (s0),.int .i64 (s1),.int .i64 (s2),.int .i64 (s3),.int .i64 ((jw s4 (wr .i64 (0 - 549755813888)) 549755813888)),.int .i64 ((jw s5 (wr .i64 (0 - 549755813888)) 549755813888)),.int .i64 ((jw s6 (wr .i64 (0 - 549755813888)) 549755813888)),.int .i64 ((jw s7 (wr .i64 (0 - 9007199254740992)) 9007199254740992)),.int .i64 ((jw s8 (wr .i64 (0 - 9007199254740992)) 9007199254740992)),.int .i64 ((jw s9 (wr .i64 (0 - 9007199254740992)) 9007199254740992)),.int .i64 ((jw s10 (wr .i64 (0 - 134217728)) 134217728)),.int .i64 ((jw s11 (wr .i64 (0 - 134217728)) 134217728)),.int .i64 ((jw s12 (wr .i64 (0 - 134217728)) 134217728)),.int .i64 ((jw s13 (wr .i64 (0 - 1073741824)) 1073741824)),.int .i64 ((jw s14 (wr .i64 (0 - 1073741824)) 1073741824)),.int .i64 ((jw s15 (wr .i64 (0 - 1073741824)) 1073741824)),.int .i64 ((jw s16 (wr .i64 (0 - 2147483648)) 2147483648)),.int .i64 ((jw s17 (wr .i64 (0 - 2147483648)) 2147483648)),.int .i64 ((jw s18 (wr .i64 (0 - 2147483648)) 2147483648)),.int .i64 ((jw s19 (wr .i64 (0 - 2147483648)) 2147483648)),.int .i64 ((jw s20 (wr .i64 (0 - 2147483648)) 2147483648)),.int .i64 ((jw s21 (wr .i64 (0 - 2147483648)) 2147483648)),.int .i64 ((jw s22 (wr .i64 (0 - 137438953472)) 137438953472)),.int .i64 ((jw s23 (wr .i64 (0 - 137438953472)) 137438953472))]),some (flag 63 (hb||jx s4 (wr .i64 (0 - 549755813888)) 549755813888||jx s5 (wr .i64 (0 - 549755813888)) 549755813888||jx s6 (wr .i64 (0 - 549755813888)) 549755813888||jx s7 (wr .i64 (0 - 9007199254740992)) 9007199254740992||jx s8 (wr .i64 (0 - 9007199254740992)) 9007199254740992||jx s9 (wr .i64 (0 - 9007199254740992)) 9007199254740992||jx s10 (wr .i64 (0 - 134217728)) 134217728||jx s11 (wr .i64 (0 - 134217728)) 134217728||jx s12 (wr .i64 (0 - 134217728)) 134217728||jx s13 (wr .i64 (0 - 1073741824)) 1073741824||jx s14 (wr .i64 (0 - 1073741824)) 1073741824||jx s15 (wr .i64 (0 - 1073741824)) 1073741824||jx s16 (wr .i64 (0 - 2147483648)) 2147483648||jx s17 (wr .i64 (0 - 2147483648)) 2147483648||jx s18 (wr .i64 (0 - 2147483648)) 2147483648||jx s19 (wr .i64 (0 - 2147483648)) 2147483648||jx s20 (wr .i64 (0 - 2147483648)) 2147483648||jx s21 (wr .i64 (0 - 2147483648)) 2147483648||jx s22 (wr .i64 (0 - 137438953472)) 137438953472||jx s23 (wr .i64 (0 - 137438953472)) 137438953472)),[(!Qz s0 s1 s2 s3,false)]):=by kernel_rfl
theorem jlh:SumOK Tryz.prog 19 (js 63 jlg):=by
 refine jF (z:=Zl) soundK9u (jl soundK9u Tryz.func19 (by kernel_rfl)) fun args hb v h' cs hF hc=> ?_
 unfold jlg at hF
 split at hF
 ·rename_i s0 s1 s2 s3 s4 s5 s6 s7 s8 s9 s10 s11 s12 s13 s14 s15 s16 s17 s18 s19 s20 s21 s22 s23
  cases hF
  cases c:Qz s0 s1 s2 s3
  ·refine ⟨rfl,4000,tt 1 [],_, ?_,ja (show (!Qz s0 s1 s2 s3)=true by rw [c];rfl) jd⟩
   rw [joT]
   simp only [jdP,jfC,c,cond_false]
  ·refine ⟨rfl,4000,ff 1 [],_, ?_,ja (show (!Qz s0 s1 s2 s3)=false by rw [c];rfl) jd⟩
   rw [joU]
   simp only [jdP,jfC,c,cond_true]
 ·cases hF
noncomputable def jsN:FuncId→Option SumK:=more K9u 19 (js 63 jlg)
theorem soundK10u:Sound Tryz.prog jsN:=soundK9u.more jlh
noncomputable def jsO:FuncId→Option SumK:=more jsN 89 (js 63 (zU Tryz.prog jsN Zl 2000 89 63))
theorem soundK11u:Sound Tryz.prog jsO:=soundK10u.more (kO soundK10u (jl soundK10u Tryz.func89 (by kernel_rfl)))
noncomputable def jqV:FuncId→Option SumK:=more jsO 83 (js 63 (zU Tryz.prog jsO Zl 2000 83 63))
theorem soundK12u:Sound Tryz.prog jqV:=soundK11u.more (kO soundK11u (jl soundK11u Tryz.func83 (by kernel_rfl)))
end Go.Proofs.YtbpfipbhaagllaaGreat

/- Opaque summaries, off one run that asks nothing. -/
namespace Go.Lr
open Go.RowKit
def okX (ty:TypeId) (n:Nat) (r:Option (LV×Option Blk×List (Bool×Bool))):Bool:=
 match r with
 | some (.v (.agg l),some b,cs)=>match yl l n with
  | true=>match jpl ⟨ty,(0,0),0,[.hb]⟩ b with
   | true=>QB cs
   | false=>false
  | false=>false
 | _=>false
theorem jnt {ty:TypeId} {n:Nat} {r:Option (LV×Option Blk×List (Bool×Bool))} (h:okX ty n r=true):∃l h' cs,r=some (.v (.agg l),some (flag ty h'),cs)∧AllI l n∧∀c∈cs,c.1=c.2:=by
 unfold okX at h
 split at h
 ·rename_i l b cs
  split at h
  ·rename_i h1
   split at h
   ·rename_i h2
    refine ⟨l,bA (qd b.cells 0),cs, ?_,j7 h1,xW h⟩
    have e:b=flag ty (bA (qd b.cells 0)):=jbq h2
    rw [←e]
   ·cases h
  ·cases h
 ·cases h
section
variable {P:Program} {S:FuncId→Option SumK} {z:Md}
theorem AllI.okn {l:List At} {n:Nat} (h:AllI l n):(LV.v (.agg l)).ok noP=true:=h.ok
theorem ja2 (hs:Sound P S) {f:FuncId} {ty:TypeId} {okA:List LV→Bool} {n:Nat} (ho:Own P f)
  (h:∀args hb,okA args=true→∃(k:Nat) (dec:List (Option Bool)),okX ty n ((jG P S z k f (A0::args) [(0,flag ty hb)] 1 dec).map (fun r=>(r.1,getM r.2.1 0,r.2.2.2)))=true):SumOK P f (js ty (exF P f ty okA n)):=by
 refine jfI ho fun args hb hok hp=> ?_
 obtain ⟨k,dec,hr⟩:=h args hb hok
 obtain ⟨l,h',cs,hrun,hl,hc⟩:=jnt hr
 exact ⟨l,h',hl,fun w L hL=>jbE hs hrun hc hp hl.okn w L hL⟩
end
end Go.Lr

/- strap.Step: opaque; output.Of: by formula; and the rest of the filter over them. -/
namespace Go.Proofs.YtbpfipbhaagllaaGreat
open Go.Lr
def jsu:List LV→Bool
 | [.v (.agg [.int .i64 s0,.int .i64 s1,.int .i64 s2,.int .i64 s3,.int .i64 s4,.int .i64 s5,.int .i64 s6,.int .i64 s7,.int .i64 s8,.int .i64 s9,.int .i64 s10,.int .i64 s11,.int .i64 s12,.int .i64 s13,.int .i64 s14,.int .i64 s15,.int .i64 s16,.int .i64 s17,.int .i64 s18,.int .i64 s19,.int .i64 s20,.int .i64 s21,.int .i64 s22,.int .i64 s23]),.v (.agg [.int .i64 i0,.int .i64 i1,.int .i64 i2,.int .i64 i3,.int .i64 i4,.int .i64 i5,.int .i64 i6,.int .i64 i7])]=>true
 | _=>false
theorem jsv (s0 s1 s2 s3 s4 s5 s6 s7 s8 s9 s10 s11 s12 s13 s14 s15 s16 s17 s18 s19 s20 s21 s22 s23 i0 i1 i2 i3 i4 i5 i6 i7:Int) (hb:Bool):okX 63 24 ((jG Tryz.prog jqV Zl 4000 51 [A0,.v (.agg [.int .i64 s0,.int .i64 s1,.int .i64 s2,.int .i64 s3,.int .i64 s4,.int .i64 s5,.int .i64 s6,.int .i64 s7,.int .i64 s8,.int .i64 s9,.int .i64 s10,.int .i64 s11,.int .i64 s12,.int .i64 s13,.int .i64 s14,.int .i64 s15,.int .i64 s16,.int .i64 s17,.int .i64 s18,.int .i64 s19,.int .i64 s20,.int .i64 s21,.int .i64 s22,.int .i64 s23]),.v (.agg [.int .i64 i0,.int .i64 i1,.int .i64 i2,.int .i64 i3,.int .i64 i4,.int .i64 i5,.int .i64 i6,.int .i64 i7])] [(0,flag 63 hb)] 1 []).map (fun r=>(r.1,getM r.2.1 0,r.2.2.2)))=true:=by kernel_rfl
theorem jhZ:SumOK Tryz.prog 51 (js 63 (exF Tryz.prog 51 63 jsu 24)):=by
 refine ja2 (z:=Zl) soundK12u (jl soundK12u Tryz.func51 (by kernel_rfl)) fun args hb hok=> ?_
 unfold jsu at hok
 split at hok
 ·exact ⟨4000,[],jsv _ _ _ _ _ _ _ _ _ _ _ _ _ _ _ _ _ _ _ _ _ _ _ _ _ _ _ _ _ _ _ _ hb⟩
 ·cases hok
noncomputable def jsw:FuncId→Option SumK:=more jqV 51 (js 63 (exF Tryz.prog 51 63 jsu 24))
theorem soundK13u:Sound Tryz.prog jsw:=soundK12u.more jhZ
def juQ (t:Int) (s0 s1 s2 s3 s4 s5 s6 s7 s8 s9 s10 s11 s12 s13 s14 s15 s16 s17 s18 s19 s20 s21 s22 s23:Int):LV:=match jdP s0 s1 s2 s3 s4 s5 s6 s7 s8 s9 s10 s11 s12 s13 s14 s15 s16 s17 s18 s19 s20 s21 s22 s23 with
 | .v (.agg (k0::k1::k2::k3::k4::k5::k6::k7::k8::k9::_))=> .v (.agg [.int .i64 t,k0,k1,k2,k3,k4,k5,k6,k7,k8,k9])
 | v=>v
def jfz:List LV→Bool→Option (LV×Bool×List (Bool×Bool))
 | [.v (.agg [.int .i64 s0,.int .i64 s1,.int .i64 s2,.int .i64 s3,.int .i64 s4,.int .i64 s5,.int .i64 s6,.int .i64 s7,.int .i64 s8,.int .i64 s9,.int .i64 s10,.int .i64 s11,.int .i64 s12,.int .i64 s13,.int .i64 s14,.int .i64 s15,.int .i64 s16,.int .i64 s17,.int .i64 s18,.int .i64 s19,.int .i64 s20,.int .i64 s21,.int .i64 s22,.int .i64 s23]),.v (.one (.int .i64 t))],hb=>some (juQ t s0 s1 s2 s3 s4 s5 s6 s7 s8 s9 s10 s11 s12 s13 s14 s15 s16 s17 s18 s19 s20 s21 s22 s23,jfC hb s0 s1 s2 s3 s4 s5 s6 s7 s8 s9 s10 s11 s12 s13 s14 s15 s16 s17 s18 s19 s20 s21 s22 s23,[])
 | _,_=>none
theorem joO (t s0 s1 s2 s3 s4 s5 s6 s7 s8 s9 s10 s11 s12 s13 s14 s15 s16 s17 s18 s19 s20 s21 s22 s23:Int) (hb:Bool):(jG Tryz.prog jsw Zl 4000 50 [A0,.v (.agg [.int .i64 s0,.int .i64 s1,.int .i64 s2,.int .i64 s3,.int .i64 s4,.int .i64 s5,.int .i64 s6,.int .i64 s7,.int .i64 s8,.int .i64 s9,.int .i64 s10,.int .i64 s11,.int .i64 s12,.int .i64 s13,.int .i64 s14,.int .i64 s15,.int .i64 s16,.int .i64 s17,.int .i64 s18,.int .i64 s19,.int .i64 s20,.int .i64 s21,.int .i64 s22,.int .i64 s23]),I t] [(0,flag 63 hb)] 1 []).map (fun r=>(r.1,getM r.2.1 0,r.2.2.2))=some (juQ t s0 s1 s2 s3 s4 s5 s6 s7 s8 s9 s10 s11 s12 s13 s14 s15 s16 s17 s18 s19 s20 s21 s22 s23,some (flag 63 (jfC hb s0 s1 s2 s3 s4 s5 s6 s7 s8 s9 s10 s11 s12 s13 s14 s15 s16 s17 s18 s19 s20 s21 s22 s23)),[]):=by kernel_rfl
theorem jh0:SumOK Tryz.prog 50 (js 63 jfz):=by
 refine jF (z:=Zl) soundK13u (jl soundK13u Tryz.func50 (by kernel_rfl)) fun args hb v h' cs hF hc=> ?_
 unfold jfz at hF
 split at hF
 ·cases hF
  exact ⟨rfl,4000,[],_,joO _ _ _ _ _ _ _ _ _ _ _ _ _ _ _ _ _ _ _ _ _ _ _ _ _ hb,jd⟩
 ·cases hF
noncomputable def jsx:FuncId→Option SumK:=more jsw 50 (js 63 jfz)
theorem soundK14u:Sound Tryz.prog jsx:=soundK13u.more jh0
def jbe:List LV→Option (LV×List (Bool×Bool))
 | [.v (.agg [.int .i64 s0,.int .i64 s1,.int .i64 s2,.int .i64 s3,.int .i64 s4,.int .i64 s5,.int .i64 s6,.int .i64 s7,.int .i64 s8,.int .i64 s9,.int .i64 s10,.int .i64 s11,.int .i64 s12,.int .i64 s13,.int .i64 s14,.int .i64 s15,.int .i64 s16,.int .i64 s17,.int .i64 s18,.int .i64 s19,.int .i64 s20,.int .i64 s21,.int .i64 s22,.int .i64 s23]),.v (.agg [.int .i64 o0,.int .i64 o1,.int .i64 o2,.int .i64 o3,.int .i64 o4,.int .i64 o5,.int .i64 o6,.int .i64 o7,.int .i64 o8,.int .i64 o9,.int .i64 o10])]=>some (.v (.agg [.int .i64 o1,.int .i64 o2,.int .i64 o3,.int .i64 o4,.int .i64 o5,.int .i64 o6,.int .i64 o7,.int .i64 o8,.int .i64 o9,.int .i64 o10,.int .i64 s10,.int .i64 s11,.int .i64 s12,.int .i64 s13,.int .i64 s14,.int .i64 s15,.int .i64 s16,.int .i64 s17,.int .i64 s18,.int .i64 s19,.int .i64 s20,.int .i64 s21,.int .i64 s22,.int .i64 s23]),[])
 | _=>none
theorem jle (s0 s1 s2 s3 s4 s5 s6 s7 s8 s9 s10 s11 s12 s13 s14 s15 s16 s17 s18 s19 s20 s21 s22 s23 o0 o1 o2 o3 o4 o5 o6 o7 o8 o9 o10:Int):(jG Tryz.prog jsx Zl 4000 52 [.v (.agg [.int .i64 s0,.int .i64 s1,.int .i64 s2,.int .i64 s3,.int .i64 s4,.int .i64 s5,.int .i64 s6,.int .i64 s7,.int .i64 s8,.int .i64 s9,.int .i64 s10,.int .i64 s11,.int .i64 s12,.int .i64 s13,.int .i64 s14,.int .i64 s15,.int .i64 s16,.int .i64 s17,.int .i64 s18,.int .i64 s19,.int .i64 s20,.int .i64 s21,.int .i64 s22,.int .i64 s23]),.v (.agg [.int .i64 o0,.int .i64 o1,.int .i64 o2,.int .i64 o3,.int .i64 o4,.int .i64 o5,.int .i64 o6,.int .i64 o7,.int .i64 o8,.int .i64 o9,.int .i64 o10])] [] 0 []).map (fun r=>(r.1,r.2.2.2))=some (.v (.agg [.int .i64 o1,.int .i64 o2,.int .i64 o3,.int .i64 o4,.int .i64 o5,.int .i64 o6,.int .i64 o7,.int .i64 o8,.int .i64 o9,.int .i64 o10,.int .i64 s10,.int .i64 s11,.int .i64 s12,.int .i64 s13,.int .i64 s14,.int .i64 s15,.int .i64 s16,.int .i64 s17,.int .i64 s18,.int .i64 s19,.int .i64 s20,.int .i64 s21,.int .i64 s22,.int .i64 s23]),[]):=by kernel_rfl
theorem jfA:SumOK Tryz.prog 52 (jq jbe):=by
 refine jC (z:=Zl) soundK14u (jl soundK14u Tryz.func52 (by kernel_rfl)) fun args v cs hF hc=> ?_
 unfold jbe at hF
 split at hF
 ·cases hF
  exact ⟨4000,[],[],jle _ _ _ _ _ _ _ _ _ _ _ _ _ _ _ _ _ _ _ _ _ _ _ _ _ _ _ _ _ _ _ _ _ _ _,by simp⟩
 ·cases hF
noncomputable def jsy:FuncId→Option SumK:=more jsx 52 (jq jbe)
theorem soundK15u:Sound Tryz.prog jsy:=soundK14u.more jfA
noncomputable def jqO:FuncId→Option SumK:=more jsy 49 (js 63 (zU Tryz.prog jsy Zl 2000 49 63))
theorem soundK16u:Sound Tryz.prog jqO:=soundK15u.more (kO soundK15u (jl soundK15u Tryz.func49 (by kernel_rfl)))
noncomputable def jsz:FuncId→Option SumK:=more jqO 48 (Ja Tryz.prog jqO Zl 2000 48)
theorem soundK17u:Sound Tryz.prog jsz:=soundK16u.more (kI soundK16u (jl soundK16u Tryz.func48 (by kernel_rfl)))
noncomputable def juR:FuncId→Option SumK:=more jsz 147 (js 63 (zU Tryz.prog jsz Zl 2000 147 63))
theorem soundK18u:Sound Tryz.prog juR:=soundK17u.more (kO soundK17u (jl soundK17u Tryz.func147 (by kernel_rfl)))
noncomputable def jqP:FuncId→Option SumK:=more juR 93 (js 63 thS)
theorem soundK19u:Sound Tryz.prog jqP:=soundK18u.more (jub)
noncomputable def jsA:FuncId→Option SumK:=moreG jqP 91 (QG (jhd 0 63 (qn Tryz.prog jqP Zl 4000 91)) (qn Tryz.prog jqP Zl 4000 91))
theorem soundK20u:Sound Tryz.prog jsA:=soundK19u.moreG (xd (yY (jP soundK19u (jl soundK19u Tryz.func91 (by kernel_rfl)))) (jP soundK19u (jl soundK19u Tryz.func91 (by kernel_rfl))))
noncomputable def jsB:FuncId→Option SumK:=more jsA 58 (Ja Tryz.prog jsA Zl 2000 58)
theorem soundK21u:Sound Tryz.prog jsB:=soundK20u.more (kI soundK20u (jl soundK20u Tryz.func58 (by kernel_rfl)))
noncomputable def jqQ:FuncId→Option SumK:=more jsB 18 (Ja Tryz.prog jsB Zl 2000 18)
theorem soundK22u:Sound Tryz.prog jqQ:=soundK21u.more (kI soundK21u (jl soundK21u Tryz.func18 (by kernel_rfl)))
noncomputable def jsC:FuncId→Option SumK:=moreG jqQ 20 (QG (jhd 0 63 (qn Tryz.prog jqQ Zl 4000 20)) (qn Tryz.prog jqQ Zl 4000 20))
theorem soundK23u:Sound Tryz.prog jsC:=soundK22u.moreG (xd (yY (jP soundK22u (jl soundK22u Tryz.func20 (by kernel_rfl)))) (jP soundK22u (jl soundK22u Tryz.func20 (by kernel_rfl))))
noncomputable def jsD:FuncId→Option SumK:=moreG jsC 23 (qn Tryz.prog jsC Zl 4000 23)
theorem soundK24u:Sound Tryz.prog jsD:=soundK23u.moreG (jP soundK23u (jl soundK23u Tryz.func23 (by kernel_rfl)))
noncomputable def joP:FuncId→Option SumK:=moreG jsD 25 (qn Tryz.prog jsD Zl 4000 25)
theorem soundK25u:Sound Tryz.prog joP:=soundK24u.moreG (jP soundK24u (jl soundK24u Tryz.func25 (by kernel_rfl)))
noncomputable def jsE:FuncId→Option SumK:=moreG joP 26 (QG (jhd 1 63 (qn Tryz.prog joP Zl 4000 26)) (qn Tryz.prog joP Zl 4000 26))
theorem soundK26u:Sound Tryz.prog jsE:=soundK25u.moreG (xd (yY (jP soundK25u (jl soundK25u Tryz.func26 (by kernel_rfl)))) (jP soundK25u (jl soundK25u Tryz.func26 (by kernel_rfl))))
noncomputable def jqR:FuncId→Option SumK:=moreG jsE 41 (qn Tryz.prog jsE Zl 4000 41)
theorem soundK27u:Sound Tryz.prog jqR:=soundK26u.moreG (jP soundK26u (jl soundK26u Tryz.func41 (by kernel_rfl)))
noncomputable def jqS:FuncId→Option SumK:=moreG jqR 27 (QG (jhd 1 63 (qn Tryz.prog jqR Zl 4000 27)) (qn Tryz.prog jqR Zl 4000 27))
theorem soundK28u:Sound Tryz.prog jqS:=soundK27u.moreG (xd (yY (jP soundK27u (jl soundK27u Tryz.func27 (by kernel_rfl)))) (jP soundK27u (jl soundK27u Tryz.func27 (by kernel_rfl))))
noncomputable def joQ:FuncId→Option SumK:=moreG jqS 92 (QG (jhd 1 63 (qn Tryz.prog jqS Zl 4000 92)) (qn Tryz.prog jqS Zl 4000 92))
theorem soundK29u:Sound Tryz.prog joQ:=soundK28u.moreG (xd (yY (jP soundK28u (jl soundK28u Tryz.func92 (by kernel_rfl)))) (jP soundK28u (jl soundK28u Tryz.func92 (by kernel_rfl))))
noncomputable def jsF:FuncId→Option SumK:=moreG joQ 55 (qn Tryz.prog joQ Zl 4000 55)
theorem soundK30u:Sound Tryz.prog jsF:=soundK29u.moreG (jP soundK29u (jl soundK29u Tryz.func55 (by kernel_rfl)))
noncomputable def jhb:FuncId→Option SumK:=moreG jsF 64 (qn Tryz.prog jsF Zl 4000 64)
theorem soundK31u:Sound Tryz.prog jhb:=soundK30u.moreG (jP soundK30u (jl soundK30u Tryz.func64 (by kernel_rfl)))
noncomputable def jsG:FuncId→Option SumK:=moreG jhb 57 (qn Tryz.prog jhb Zl 4000 57)
theorem soundK32u:Sound Tryz.prog jsG:=soundK31u.moreG (jP soundK31u (jl soundK31u Tryz.func57 (by kernel_rfl)))
noncomputable def jqT:FuncId→Option SumK:=moreG jsG 117 (qn Tryz.prog jsG Zl 4000 117)
theorem soundK33u:Sound Tryz.prog jqT:=soundK32u.moreG (jP soundK32u (jl soundK32u Tryz.func117 (by kernel_rfl)))
noncomputable def jsH:FuncId→Option SumK:=moreG jqT 61 (QG (jhd 1 63 (qn Tryz.prog jqT Zl 4000 61)) (qn Tryz.prog jqT Zl 4000 61))
theorem soundK34u:Sound Tryz.prog jsH:=soundK33u.moreG (xd (yY (jP soundK33u (jl soundK33u Tryz.func61 (by kernel_rfl)))) (jP soundK33u (jl soundK33u Tryz.func61 (by kernel_rfl))))
noncomputable def jsI:FuncId→Option SumK:=moreG jsH 15 (qn Tryz.prog jsH Zl 4000 15)
theorem soundK35u:Sound Tryz.prog jsI:=soundK34u.moreG (jP soundK34u (jl soundK34u Tryz.func15 (by kernel_rfl)))
noncomputable def juS:FuncId→Option SumK:=moreG jsI 16 (qn Tryz.prog jsI Zl 4000 16)
theorem soundK36u:Sound Tryz.prog juS:=soundK35u.moreG (jP soundK35u (jl soundK35u Tryz.func16 (by kernel_rfl)))
noncomputable def jqU:FuncId→Option SumK:=more juS 12 (jq jfD)
theorem soundK37u:Sound Tryz.prog jqU:=soundK36u.more (jh2)
end Go.Proofs.YtbpfipbhaagllaaGreat

/- Summaries of the filter's parts, by formula, where nothing much happens: a good sample, an empty buffer, a sensor that was not heard of. -/
namespace Go.Proofs.YtbpfipbhaagllaaGreat
open Go.Lr
def jbf (T D a0 a1 a2 d0 d1 d2:Int):Bool:= !decide (jB a0>34359738368) && !decide (jB a1>34359738368) && !decide (jB a2>34359738368) && !decide (jB d0>34359738368) && !decide (jB d1>34359738368) && !decide (jB d2>34359738368)&&decide (D≥1)&&decide (D≤100000)&&decide (T≥0)&&decide (T≤1125899906842624)
def jh1:List LV→Option (LV×List (Bool×Bool))
 | [.v (.agg [.int .i64 T,.int .i64 D,.int .i64 a0,.int .i64 a1,.int .i64 a2,.int .i64 d0,.int .i64 d1,.int .i64 d2])]=>some (.v (.one (.bool true)),[(jbf T D a0 a1 a2 d0 d1 d2,true)])
 | _=>none
theorem jsJ (T D a0 a1 a2 d0 d1 d2:Int):(jG Tryz.prog jqO Zl 4000 48 [.v (.agg [.int .i64 T,.int .i64 D,.int .i64 a0,.int .i64 a1,.int .i64 a2,.int .i64 d0,.int .i64 d1,.int .i64 d2])] [] 0 (nn 1 (ff 8 (nn 1 (ff 8 (nn 1 (ff 8 (nn 1 (tt 12 []))))))))).map (fun r=>(r.1,r.2.2.2))=some (.v (.one (.bool (decide (T≤1125899906842624)))),(ra 4 (decide (T≥0),true) (ra 4 (decide (D≤100000),true) (ra 4 (decide (D≥1),true) ((decide (jB d2>34359738368),false)::ra 7 (decide (jB a2>34359738368),false) ((decide (jB d1>34359738368),false)::ra 7 (decide (jB a1>34359738368),false) ((decide (jB d0>34359738368),false)::ra 7 (decide (jB a0>34359738368),false) []))))))):=by kernel_rfl
theorem jfB:SumOK Tryz.prog 48 (jq jh1):=by
 refine jC (z:=Zl) soundK16u (jl soundK16u Tryz.func48 (by kernel_rfl)) fun args v cs hF hc=> ?_
 unfold jh1 at hF
 split at hF
 ·rename_i T D a0 a1 a2 d0 d1 d2
  cases hF
  have h:=jt hc
  simp only [jbf,Bool.and_eq_true,Bool.not_eq_true'] at h
  obtain ⟨⟨⟨⟨⟨⟨⟨⟨⟨ha0,ha1⟩,ha2⟩,hd0⟩,hd1⟩,hd2⟩,hD1⟩,hD2⟩,hT1⟩,hT2⟩:=h
  have r:=jsJ T D a0 a1 a2 d0 d1 d2
  rw [hT2] at r
  exact ⟨4000,_,_,r,(j9 hT1 (j9 hD2 (j9 hD1 (ja hd2 (j9 ha2 (ja hd1 (j9 ha1 (ja hd0 (j9 ha0 jd _)) _)) _)) _) _) _)⟩
 ·cases hF
noncomputable def G1:FuncId→Option SumK:=more jqU 48 (jq jh1)
theorem soundG1:Sound Tryz.prog G1:=soundK37u.more jfB
def jsK (k:Blk) (rest:List LV):Option (LV×Blk×List (Bool×Bool)):=
 match k,rest with
 | ⟨t,(0,0),0,[.int .i64 a,.int .i64 b,.int .i64 c,.int .i64 d,.int .i64 e,.int .i64 f,.nilsl,.int .i64 h]⟩,[.v (.one (.int .i64 u))]=>match Nat.beq t 135 with
  | true=>some (.v (.one .nilsl),⟨135,(0,0),0,[.int .i64 a,.int .i64 b,.int .i64 c,.int .i64 d,.int .i64 (wr .i64 (e+0)),.int .i64 f,.nilsl,.int .i64 (if u>h then u else h)]⟩,[])
  | false=>none
 | _,_=>none
theorem jv8 (a b c d e f h u:Int):(jG Tryz.prog joQ Zl 4000 55 [A0,I u] [(0,⟨135,(0,0),0,[.int .i64 a,.int .i64 b,.int .i64 c,.int .i64 d,.int .i64 e,.int .i64 f,.nilsl,.int .i64 h]⟩)] 1 []).map (fun r=>(r.1,getM r.2.1 0,r.2.2.2))=some (.v (.one .nilsl),some ⟨135,(0,0),0,[.int .i64 a,.int .i64 b,.int .i64 c,.int .i64 d,.int .i64 (wr .i64 (e+0)),.int .i64 f,.nilsl,.int .i64 (if u>h then u else h)]⟩,[]):=by kernel_rfl
theorem jlf {r:Option (LV×Mem×Nat×List (Bool×Bool))} {v:LV} {k:Option Blk} {cs:List (Bool×Bool)} (h:r.map (fun r=>(r.1,getM r.2.1 0,r.2.2.2))=some (v,k,cs)):∃m nb,r=some (v,m,nb,cs)∧getM m 0=k:=by
 cases r with
 | none=>cases h
 | some q=>
  obtain ⟨a,b,c,d⟩:=q
  simp only [Option.map_some,Option.some.injEq,Prod.mk.injEq] at h
  obtain ⟨rfl,rfl,rfl⟩:=h
  exact ⟨b,c,rfl,rfl⟩
theorem joR:Ke Tryz.prog 55 (jdS (fM jsK)):=by
 refine jcT (jph (z:=Zl) soundK29u (jl soundK29u Tryz.func55 (by kernel_rfl)) fun k rest v k' cs hF hc hp=> ?_)
 unfold jsK at hF
 split at hF
 ·split at hF
  ·rename_i ht
   cases hF
   have:=Nat.eq_of_beq_eq_true ht
   subst this
   obtain ⟨m,nb,h1,h2⟩:=jlf (jv8 _ _ _ _ _ _ _ _)
   exact ⟨rfl,rfl,rfl,rfl,4000,[],m,nb,[],h1,h2,by simp⟩
  ·cases hF
 ·cases hF
noncomputable def G2:FuncId→Option SumK:=moreG G1 55 (QG (jdS (fM jsK)) (qn Tryz.prog joQ Zl 4000 55))
theorem soundG2:Sound Tryz.prog G2:=soundG1.moreG (xd joR (jP soundK29u (jl soundK29u Tryz.func55 (by kernel_rfl))))
def jdO (s0 s1 s2 s3 s4 s5:Bool) (x:Nat→Int):List At:= .int .i64 (x 0):: .int .i64 (x 1):: .bool s0:: .int .i64 (x 3):: .int .i64 (x 4):: .int .i64 (x 5):: .int .i64 (x 6):: .int .i64 (x 7):: .bool s1:: .int .i64 (x 9):: .int .i64 (x 10):: .int .i64 (x 11):: .int .i64 (x 12):: .int .i64 (x 13):: .bool s2:: .int .i64 (x 15):: .int .i64 (x 16):: .int .i64 (x 17):: .int .i64 (x 18):: .int .i64 (x 19):: .bool s3:: .int .i64 (x 21):: .int .i64 (x 22):: .int .i64 (x 23):: .int .i64 (x 24):: .int .i64 (x 25):: .bool s4:: .int .i64 (x 27):: .int .i64 (x 28):: .int .i64 (x 29):: .int .i64 (x 30):: .int .i64 (x 31):: .bool s5:: .int .i64 (x 33):: .int .i64 (x 34):: .int .i64 (x 35):: .int .i64 (x 36)::[]
def jsL (l:List At):Option (Bool×Bool×Bool×Bool×Bool×Bool):=match l with
 | .int .i64 _:: .int .i64 _:: .bool s0:: .int .i64 _:: .int .i64 _:: .int .i64 _:: .int .i64 _:: .int .i64 _:: .bool s1:: .int .i64 _:: .int .i64 _:: .int .i64 _:: .int .i64 _:: .int .i64 _:: .bool s2:: .int .i64 _:: .int .i64 _:: .int .i64 _:: .int .i64 _:: .int .i64 _:: .bool s3:: .int .i64 _:: .int .i64 _:: .int .i64 _:: .int .i64 _:: .int .i64 _:: .bool s4:: .int .i64 _:: .int .i64 _:: .int .i64 _:: .int .i64 _:: .int .i64 _:: .bool s5:: .int .i64 _:: .int .i64 _:: .int .i64 _:: .int .i64 _::[]=>some (s0,s1,s2,s3,s4,s5)
 | _=>none
theorem J3 {l:List At} {s0 s1 s2 s3 s4 s5:Bool} (h:jsL l=some (s0,s1,s2,s3,s4,s5)):l=jdO s0 s1 s2 s3 s4 s5 (intAt l):=by
 unfold jsL at h
 split at h
 ·cases h;rfl
 ·cases h
theorem jv9 (s1 s2 s3 s4 s5:Bool) (x:Nat→Int) (n:Int):(jG Tryz.prog jhb Zl 4000 57 [A0,I 0,I n] [(0,⟨115,(0,0),0,jdO false s1 s2 s3 s4 s5 x⟩)] 1 []).map (fun r=>(r.1,getM r.2.1 0,r.2.2.2))=some (.v (.one (.bool false)),some ⟨115,(0,0),0,jdO false s1 s2 s3 s4 s5 x⟩,[]):=by kernel_rfl
theorem jwa (s0 s2 s3 s4 s5:Bool) (x:Nat→Int) (n:Int):(jG Tryz.prog jhb Zl 4000 57 [A0,I 1,I n] [(0,⟨115,(0,0),0,jdO s0 false s2 s3 s4 s5 x⟩)] 1 []).map (fun r=>(r.1,getM r.2.1 0,r.2.2.2))=some (.v (.one (.bool false)),some ⟨115,(0,0),0,jdO s0 false s2 s3 s4 s5 x⟩,[]):=by kernel_rfl
theorem jwb (s0 s1 s3 s4 s5:Bool) (x:Nat→Int) (n:Int):(jG Tryz.prog jhb Zl 4000 57 [A0,I 2,I n] [(0,⟨115,(0,0),0,jdO s0 s1 false s3 s4 s5 x⟩)] 1 []).map (fun r=>(r.1,getM r.2.1 0,r.2.2.2))=some (.v (.one (.bool false)),some ⟨115,(0,0),0,jdO s0 s1 false s3 s4 s5 x⟩,[]):=by kernel_rfl
theorem jwc (s0 s1 s2 s4 s5:Bool) (x:Nat→Int) (n:Int):(jG Tryz.prog jhb Zl 4000 57 [A0,I 3,I n] [(0,⟨115,(0,0),0,jdO s0 s1 s2 false s4 s5 x⟩)] 1 []).map (fun r=>(r.1,getM r.2.1 0,r.2.2.2))=some (.v (.one (.bool false)),some ⟨115,(0,0),0,jdO s0 s1 s2 false s4 s5 x⟩,[]):=by kernel_rfl
theorem jwd (s0 s1 s2 s3 s5:Bool) (x:Nat→Int) (n:Int):(jG Tryz.prog jhb Zl 4000 57 [A0,I 4,I n] [(0,⟨115,(0,0),0,jdO s0 s1 s2 s3 false s5 x⟩)] 1 []).map (fun r=>(r.1,getM r.2.1 0,r.2.2.2))=some (.v (.one (.bool false)),some ⟨115,(0,0),0,jdO s0 s1 s2 s3 false s5 x⟩,[]):=by kernel_rfl
theorem jwe (s0 s1 s2 s3 s4:Bool) (x:Nat→Int) (n:Int):(jG Tryz.prog jhb Zl 4000 57 [A0,I 5,I n] [(0,⟨115,(0,0),0,jdO s0 s1 s2 s3 s4 false x⟩)] 1 []).map (fun r=>(r.1,getM r.2.1 0,r.2.2.2))=some (.v (.one (.bool false)),some ⟨115,(0,0),0,jdO s0 s1 s2 s3 s4 false x⟩,[]):=by kernel_rfl
def usI (i:Int) (b:Bool×Bool×Bool×Bool×Bool×Bool):Bool:=match i,b with
 | .ofNat 0,(false,_,_,_,_,_)=>true
 | .ofNat 1,(_,false,_,_,_,_)=>true
 | .ofNat 2,(_,_,false,_,_,_)=>true
 | .ofNat 3,(_,_,_,false,_,_)=>true
 | .ofNat 4,(_,_,_,_,false,_)=>true
 | .ofNat 5,(_,_,_,_,_,false)=>true
 | _,_=>false
def usF (k:Blk) (rest:List LV):Option (LV×Blk×List (Bool×Bool)):=
 match rest,k with
 | [.v (.one (.int .i64 i)),.v (.one (.int .i64 n))],⟨ty,(0,0),0,l⟩=>match Nat.beq ty 115 with
  | true=>match jsL l with
   | some b=>match usI i b with
    | true=>some (.v (.one (.bool false)),⟨ty,(0,0),0,l⟩,[])
    | false=>none
   | none=>none
  | false=>none
 | _,_=>none
theorem jsM:Ke Tryz.prog 57 (jdS (fM usF)):=by
 refine jcT (jph (z:=Zl) soundK31u (jl soundK31u Tryz.func57 (by kernel_rfl)) fun k rest v k' cs hF hc hp=> ?_)
 unfold usF at hF
 split at hF
 ·rename_i i n ty l
  split at hF
  ·rename_i ht
   have ht:=Nat.eq_of_beq_eq_true ht
   subst ht
   split at hF
   ·rename_i b hb
    split at hF
    ·rename_i hi
     cases hF
     unfold usI at hi
     split at hi
     ·have e:=J3 hb
      obtain ⟨m,nb,h2,h3⟩:=jlf (jv9 _ _ _ _ _ (intAt l) n)
      rw [e]
      exact ⟨rfl,rfl,rfl,rfl,4000,[],m,nb,[],h2,h3,by simp⟩
     ·have e:=J3 hb
      obtain ⟨m,nb,h2,h3⟩:=jlf (jwa _ _ _ _ _ (intAt l) n)
      rw [e]
      exact ⟨rfl,rfl,rfl,rfl,4000,[],m,nb,[],h2,h3,by simp⟩
     ·have e:=J3 hb
      obtain ⟨m,nb,h2,h3⟩:=jlf (jwb _ _ _ _ _ (intAt l) n)
      rw [e]
      exact ⟨rfl,rfl,rfl,rfl,4000,[],m,nb,[],h2,h3,by simp⟩
     ·have e:=J3 hb
      obtain ⟨m,nb,h2,h3⟩:=jlf (jwc _ _ _ _ _ (intAt l) n)
      rw [e]
      exact ⟨rfl,rfl,rfl,rfl,4000,[],m,nb,[],h2,h3,by simp⟩
     ·have e:=J3 hb
      obtain ⟨m,nb,h2,h3⟩:=jlf (jwd _ _ _ _ _ (intAt l) n)
      rw [e]
      exact ⟨rfl,rfl,rfl,rfl,4000,[],m,nb,[],h2,h3,by simp⟩
     ·have e:=J3 hb
      obtain ⟨m,nb,h2,h3⟩:=jlf (jwe _ _ _ _ _ (intAt l) n)
      rw [e]
      exact ⟨rfl,rfl,rfl,rfl,4000,[],m,nb,[],h2,h3,by simp⟩
     ·cases hi
    ·cases hF
   ·cases hF
  ·cases hF
 ·cases hF
noncomputable def G3:FuncId→Option SumK:=moreG G2 57 (QG (jdS (fM usF)) (qn Tryz.prog jhb Zl 4000 57))
theorem soundG3:Sound Tryz.prog G3:=soundG2.moreG (xd jsM (jP soundK31u (jl soundK31u Tryz.func57 (by kernel_rfl))))
noncomputable def KPg:FuncId→Option SumK:=more joP 48 (jq jh1)
theorem jcG:Sound Tryz.prog KPg:=soundK25u.more jfB
def joS:List (Option Bool):=(nn 16 (ff 1 (nn 1 [])))
end Go.Proofs.YtbpfipbhaagllaaGreat

/- strap.Step by formula (its flag is chosen); what calls it, over that; jac.Step: opaque. -/
namespace Go.Lr
open Go.RowKit
def okY (ty:TypeId) (r:Option (LV×Option Blk×List (Bool×Bool))):Option LV:=
 match r with
 | some (v,some b,cs)=>match jpl ⟨ty,(0,0),0,[.hb]⟩ b with
  | true=>match QB cs with
   | true=>some v
   | false=>none
  | false=>none
 | _=>none
theorem jnv {ty:TypeId} {r:Option (LV×Option Blk×List (Bool×Bool))} {v:LV} (h:okY ty r=some v):∃h' cs,r=some (v,some (flag ty h'),cs)∧∀c∈cs,c.1=c.2:=by
 unfold okY at h
 split at h
 ·rename_i v b cs
  split at h
  ·rename_i h2
   split at h
   ·rename_i h1
    cases h
    refine ⟨bA (qd b.cells 0),cs, ?_,xW h1⟩
    have e:b=flag ty (bA (qd b.cells 0)):=jbq h2
    rw [←e]
   ·cases h
  ·cases h
 ·cases h
section
variable {P:Program} {S:FuncId→Option SumK} {z:Md}
noncomputable def fxH (P:Program) (f:FuncId) (ty:TypeId) (args:List LV) (hb:Bool) (v:LV):Bool:=@Classical.epsilon Bool ⟨false⟩ fun h'=>ExA P f ty args hb v h'
noncomputable def fxF (P:Program) (f:FuncId) (ty:TypeId) (F:List LV→Option LV):List LV→Bool→Option (LV×Bool×List (Bool×Bool)):=fun args hb=>
 match F args with
 | some v=>some (v,fxH P f ty args hb v,[])
 | none=>none
theorem jkw (hs:Sound P S) {f:FuncId} {ty:TypeId} {F:List LV→Option LV} (ho:Own P f)
  (h:∀args v hb,F args=some v→v.ok noP=true∧∃(k:Nat) (dec:List (Option Bool)),okY ty ((jG P S z k f (A0::args) [(0,flag ty hb)] 1 dec).map (fun r=>(r.1,getM r.2.1 0,r.2.2.2)))=some v):SumOK P f (js ty (fxF P f ty F)):=by
 refine JJ fun args hb v h' cs hF hc hp w L hL=> ?_
 unfold fxF at hF
 split at hF
 ·rename_i v0 hv0
  cases hF
  obtain ⟨hn,k,dec,hr⟩:=h args v hb hv0
  obtain ⟨h2,cs2,hrun,hc2⟩:=jnv hr
  have hq:=@Classical.epsilon_spec_aux Bool ⟨false⟩ (fun h'=>ExA P f ty args hb v h') ⟨h2,fun w L hL=>jbE hs hrun hc2 hp hn w L hL⟩
  exact kN ho (hq w L hL)
 ·cases hF
end
end Go.Lr
namespace Go.Proofs.YtbpfipbhaagllaaGreat
open Go.Lr
def fI2 (x y:Int):Int:=Xl (qp [At.int .i64 x,At.int .i64 y])
def fI3 (x y z:Int):Int:=Xl (qp [At.int .i64 x,At.int .i64 y,At.int .i64 z])
def stM (k0 k1 k2 k3 k4 k5 k6 k7 k8 k9 k10 k11 k12 k13 k14 k15 k16 k17 k18 k19 k20 k21 k22 k23 dt m0 m1 m2 m3 n0 n1 n2:Int):LV:=jdP (uV0 m0 m1 m2 m3) (uV1 m0 m1 m2 m3) (uV2 m0 m1 m2 m3) (uV3 m0 m1 m2 m3) n0 n1 n2 (fI2 k7 (kY (fI2 k4 n0) (kY dt 536870912 30) 30)) (fI2 k8 (kY (fI2 k5 n1) (kY dt 536870912 30) 30)) (fI2 k9 (kY (fI2 k6 n2) (kY dt 536870912 30) 30)) k10 k11 k12 k13 k14 k15 k16 k17 k18 k19 k20 k21 k22 k23
def stN (q0 q1 q2 q3 k4 k5 k6 d0 d1 d2 g:Int) (F:Int→Int→Int→LV):LV:=F (fI3 k4 (qZ 30 [rm0 q0 q1 q2 q3,rm1 q0 q1 q2 q3,rm2 q0 q1 q2 q3] [d0,d1,d2]) 0) (fI3 k5 (qZ 30 [rm3 q0 q1 q2 q3,rm4 q0 q1 q2 q3,rm5 q0 q1 q2 q3] [d0,d1,d2]) 0) (fI3 k6 (qZ 30 [rm6 q0 q1 q2 q3,rm7 q0 q1 q2 q3,rm8 q0 q1 q2 q3] [d0,d1,d2]) g)
def stA (k0 k1 k2 k3 k4 k5 k6 k7 k8 k9 k10 k11 k12 k13 k14 k15 k16 k17 k18 k19 k20 k21 k22 k23 dt a0 a1 a2 d0 d1 d2:Int):LV:=stN (jf k0) (jf k1) (jf k2) (jf k3) k4 k5 k6 d0 d1 d2 (kY 10529810258 dt 30) (stM k0 k1 k2 k3 k4 k5 k6 k7 k8 k9 k10 k11 k12 k13 k14 k15 k16 k17 k18 k19 k20 k21 k22 k23 dt (mq0 k0 k1 k2 k3 (eV0 a0 a1 a2) (eV1 a0 a1 a2) (eV2 a0 a1 a2) (eV3 a0 a1 a2)) (mq1 k0 k1 k2 k3 (eV0 a0 a1 a2) (eV1 a0 a1 a2) (eV2 a0 a1 a2) (eV3 a0 a1 a2)) (mq2 k0 k1 k2 k3 (eV0 a0 a1 a2) (eV1 a0 a1 a2) (eV2 a0 a1 a2) (eV3 a0 a1 a2)) (mq3 k0 k1 k2 k3 (eV0 a0 a1 a2) (eV1 a0 a1 a2) (eV2 a0 a1 a2) (eV3 a0 a1 a2)))
def stD (k0 k1 k2 k3 k4 k5 k6 k7 k8 k9 k10 k11 k12 k13 k14 k15 k16 k17 k18 k19 k20 k21 k22 k23 dt i2 i3 i4 i5 i6 i7:Int):LV:=stA k0 k1 k2 k3 k4 k5 k6 k7 k8 k9 k10 k11 k12 k13 k14 k15 k16 k17 k18 k19 k20 k21 k22 k23 dt (ZE i2 (kY k10 dt 30)) (ZE i3 (kY k11 dt 30)) (ZE i4 (kY k12 dt 30)) (ZE i5 (kY k13 dt 30)) (ZE i6 (kY k14 dt 30)) (ZE i7 (kY k15 dt 30))
def jnw (s0 s1 s2 s3 s4 s5 s6 s7 s8 s9 s10 s11 s12 s13 s14 s15 s16 s17 s18 s19 s20 s21 s22 s23 i0 i1 i2 i3 i4 i5 i6 i7:Int):LV:=match jdP s0 s1 s2 s3 s4 s5 s6 s7 s8 s9 s10 s11 s12 s13 s14 s15 s16 s17 s18 s19 s20 s21 s22 s23 with
 | .v (.agg [.int .i64 k0,.int .i64 k1,.int .i64 k2,.int .i64 k3,.int .i64 k4,.int .i64 k5,.int .i64 k6,.int .i64 k7,.int .i64 k8,.int .i64 k9,.int .i64 k10,.int .i64 k11,.int .i64 k12,.int .i64 k13,.int .i64 k14,.int .i64 k15,.int .i64 k16,.int .i64 k17,.int .i64 k18,.int .i64 k19,.int .i64 k20,.int .i64 k21,.int .i64 k22,.int .i64 k23])=>stD k0 k1 k2 k3 k4 k5 k6 k7 k8 k9 k10 k11 k12 k13 k14 k15 k16 k17 k18 k19 k20 k21 k22 k23 (ja6 i1 1073741824 1000000) i2 i3 i4 i5 i6 i7
 | v=>v
def jkx:List LV→Option LV
 | [.v (.agg [.int .i64 s0,.int .i64 s1,.int .i64 s2,.int .i64 s3,.int .i64 s4,.int .i64 s5,.int .i64 s6,.int .i64 s7,.int .i64 s8,.int .i64 s9,.int .i64 s10,.int .i64 s11,.int .i64 s12,.int .i64 s13,.int .i64 s14,.int .i64 s15,.int .i64 s16,.int .i64 s17,.int .i64 s18,.int .i64 s19,.int .i64 s20,.int .i64 s21,.int .i64 s22,.int .i64 s23]),.v (.agg [.int .i64 i0,.int .i64 i1,.int .i64 i2,.int .i64 i3,.int .i64 i4,.int .i64 i5,.int .i64 i6,.int .i64 i7])]=>some (jnw s0 s1 s2 s3 s4 s5 s6 s7 s8 s9 s10 s11 s12 s13 s14 s15 s16 s17 s18 s19 s20 s21 s22 s23 i0 i1 i2 i3 i4 i5 i6 i7)
 | _=>none
theorem jr2 (s0 s1 s2 s3 s4 s5 s6 s7 s8 s9 s10 s11 s12 s13 s14 s15 s16 s17 s18 s19 s20 s21 s22 s23 i0 i1 i2 i3 i4 i5 i6 i7:Int) (hb:Bool):okY 63 ((jG Tryz.prog jqV Zl 4000 51 [A0,.v (.agg [.int .i64 s0,.int .i64 s1,.int .i64 s2,.int .i64 s3,.int .i64 s4,.int .i64 s5,.int .i64 s6,.int .i64 s7,.int .i64 s8,.int .i64 s9,.int .i64 s10,.int .i64 s11,.int .i64 s12,.int .i64 s13,.int .i64 s14,.int .i64 s15,.int .i64 s16,.int .i64 s17,.int .i64 s18,.int .i64 s19,.int .i64 s20,.int .i64 s21,.int .i64 s22,.int .i64 s23]),.v (.agg [.int .i64 i0,.int .i64 i1,.int .i64 i2,.int .i64 i3,.int .i64 i4,.int .i64 i5,.int .i64 i6,.int .i64 i7])] [(0,flag 63 hb)] 1 []).map (fun r=>(r.1,getM r.2.1 0,r.2.2.2)))=some (jnw s0 s1 s2 s3 s4 s5 s6 s7 s8 s9 s10 s11 s12 s13 s14 s15 s16 s17 s18 s19 s20 s21 s22 s23 i0 i1 i2 i3 i4 i5 i6 i7):=by kernel_rfl
theorem jhA:SumOK Tryz.prog 51 (js 63 (fxF Tryz.prog 51 63 jkx)):=by
 refine jkw (z:=Zl) soundK12u (jl soundK12u Tryz.func51 (by kernel_rfl)) fun args v hb hF=> ?_
 unfold jkx at hF
 split at hF
 ·cases hF
  exact ⟨by kernel_rfl,4000,[],jr2 _ _ _ _ _ _ _ _ _ _ _ _ _ _ _ _ _ _ _ _ _ _ _ _ _ _ _ _ _ _ _ _ hb⟩
 ·cases hF
end Go.Proofs.YtbpfipbhaagllaaGreat

/- jac.Step: opaque; what calls strap.Step, over its formula. -/
namespace Go.Proofs.YtbpfipbhaagllaaGreat
open Go.Lr
def jr0:List LV→Bool
 | [.v (.agg la),.v (.agg lb)]=>yl la 24&&yl lb 8
 | _=>false
theorem jvp (a b:Nat→Int) (hb:Bool):okX 63 576 ((jG Tryz.prog jqU Zl 20000 94 [A0,.v (.agg (mkI a 0 24)),.v (.agg (mkI b 0 8))] [(0,flag 63 hb)] 1 []).map (fun r=>(r.1,getM r.2.1 0,r.2.2.2)))=true:=by kernel_rfl
theorem jvq:SumOK Tryz.prog 94 (js 63 (exF Tryz.prog 94 63 jr0 576)):=by
 refine ja2 (z:=Zl) soundK37u (jl soundK37u Tryz.func94 (by kernel_rfl)) fun args hb hok=> ?_
 unfold jr0 at hok
 split at hok
 ·simp only [Bool.and_eq_true] at hok
  have ea:=(j7 hok.1).eq
  rw [←qP] at ea
  have eb:=(j7 hok.2).eq
  rw [←qP] at eb
  rw [ea,eb]
  exact ⟨20000,[],jvp _ _ hb⟩
 ·cases hok
noncomputable def J1:FuncId→Option SumK:=more jqU 94 (js 63 (exF Tryz.prog 94 63 jr0 576))
theorem soundJ1:Sound Tryz.prog J1:=soundK37u.more jvq
noncomputable def J2:FuncId→Option SumK:=more J1 95 (js 63 (zU Tryz.prog J1 Zl 4000 95 63))
theorem jfk:Sound Tryz.prog J2:=soundJ1.more (kO soundJ1 (jl soundJ1 Tryz.func95 (by kernel_rfl)))
def jr1:List LV→Bool
 | [.v (.agg la),.v (.agg lb),.v (.agg lc),.v (.agg ld)]=>yl la 300&&yl lb 24&&yl lc 8&&yl ld 24
 | _=>false
theorem jvr (a b c d:Nat→Int) (hb:Bool):okX 63 300 ((jG Tryz.prog J2 Zl 20000 54 [A0,.v (.agg (mkI a 0 300)),.v (.agg (mkI b 0 24)),.v (.agg (mkI c 0 8)),.v (.agg (mkI d 0 24))] [(0,flag 63 hb)] 1 []).map (fun r=>(r.1,getM r.2.1 0,r.2.2.2)))=true:=by kernel_rfl
theorem jvs:SumOK Tryz.prog 54 (js 63 (exF Tryz.prog 54 63 jr1 300)):=by
 refine ja2 (z:=Zl) jfk (jl jfk Tryz.func54 (by kernel_rfl)) fun args hb hok=> ?_
 unfold jr1 at hok
 split at hok
 ·simp only [Bool.and_eq_true] at hok
  have ea:=(j7 hok.1.1.1).eq
  rw [←qP] at ea
  have eb:=(j7 hok.1.1.2).eq
  rw [←qP] at eb
  have ec:=(j7 hok.1.2).eq
  rw [←qP] at ec
  have ed:=(j7 hok.2).eq
  rw [←qP] at ed
  rw [ea,eb,ec,ed]
  exact ⟨20000,[],jvr _ _ _ _ hb⟩
 ·cases hok
noncomputable def GF1:FuncId→Option SumK:=more (more G3 51 (js 63 (fxF Tryz.prog 51 63 jkx))) 54 (js 63 (exF Tryz.prog 54 63 jr1 300))
theorem soundGF1:Sound Tryz.prog GF1:=(soundG3.more jhA).more jvs
end Go.Proofs.YtbpfipbhaagllaaGreat

/- TopNow: what the filter's rounds call. -/
namespace Go.Proofs.YtbpfipbhaagllaaGreat
open Go.Lr
noncomputable def GN:FuncId→Option SumK:=moreG GF1 26 (jhd 1 63 (jcf Tryz.prog KPg Zl 4000 26 joS))
theorem soundGN:Sound Tryz.prog GN:=soundGF1.moreG (yY (Zi jcG (jl jcG Tryz.func26 (by kernel_rfl))))
noncomputable def GC:FuncId→Option SumK:=moreG GN 117 (qn Tryz.prog GN ⟨false,false,false⟩ 20000 117)
theorem soundGC:Sound Tryz.prog GC:=soundGN.moreG (jP soundGN (jl soundGN Tryz.func117 (by kernel_rfl)))
end Go.Proofs.YtbpfipbhaagllaaGreat

/- TopNow: the queue of samples at rest, told by its first time and its length; outputs whose last time is known. -/
namespace Go.Proofs.YtbpfipbhaagllaaGreat
open Go.Lr
def jtw (t:Int):List At:=[.int .i64 (8000*t),.int .i64 8000,.int .i64 0,.int .i64 0,.int .i64 0,.int .i64 0,.int .i64 0,.int .i64 (-84238486)]
def jO (t:Int):Nat→List At
 | 0=>[]
 | n+1=> .int .i64 (8000*t):: .int .i64 8000:: .int .i64 0:: .int .i64 0:: .int .i64 0:: .int .i64 0:: .int .i64 0:: .int .i64 (-84238486)::jO (t+1) n
theorem qJ:∀(n:Nat) (t:Int),(jO t n).length=n*8
 | 0,_=>rfl
 | n+1,t=>by simp only [jO,List.length_cons,qJ n];omega
theorem QF:∀(n:Nat) (t u:Int),u=t+n→jO t n++jtw u=jO t (n+1)
 | 0,t,u,h=>by
  have:u=t:=by omega
  subst this;rfl
 | n+1,t,u,h=>by
  have:=QF n (t+1) u (by omega)
  simp only [jO,List.cons_append] at this ⊢
  rw [this]
theorem XO {n:Nat} {t u x:Int} (h:u=t+n) (hx:x=8000*u):
  XG ((jO t n).take (n*8)) [.int .i64 x,.int .i64 8000,.int .i64 0,.int .i64 0,.int .i64 0,.int .i64 0,.int .i64 0,.int .i64 (-84238486)]=jO t (n+1):=by
 subst hx
 rw [←qJ n t,List.take_length,yw]
 exact QF n t u h
theorem J4:∀(n:Nat) (t:Int),j8 (jO t n)=true
 | 0,_=>rfl
 | n+1,t=>by simp only [jO,j8,List.all_cons,jb9,Bool.true_and];exact J4 n (t+1)
theorem ZV (n:Nat) (t:Int):okL noP (jO t n)=true:=ZK (J4 n t)
structure OutL (cs:List At) (n:Nat) (T:Int):Prop where
 all:AllI cs (n*11)
 pos:1≤n
 last:intAt cs ((n - 1)*11)=T
end Go.Proofs.YtbpfipbhaagllaaGreat

/- TopNow: outputs of unknown number: each (with Correct's closure), round by round. -/
namespace Go.Lr
open Go.RowKit
theorem ToP.runD {P:Program} {S:FuncId→Option SumK} {z:Md} {sz:Nat} (hs:Sound P S) {c:Code} {A:Kst} {e:Ex} {p:(Nat→Value)→PS2} {n:Nat} {dec:List (Option Bool)} {mask:List Bool} {os:(Nat→Value)→List (Bool×Bool)} {es:(Nat→Value)→List Ob}
  (hrun:∀dead,ql (p dead) e mask (ju ((p dead).live.map (·.1)) ((p dead).mem.map (·.1)) (Go.Lr.exec P S z n (.code c) (A.st sz dead dec)))=some (os dead,es dead))
  (hos:∀dead,∀c∈os dead,c.1=c.2) (hes:∀dead,AllOb (es dead)) (hB:∀dead s,KstOK (je s (p dead))) (hnb:∀dead,A.nb≤(p dead).nb):ToP P sz c A e (fun y=>∃dead,jA (p dead) y):=by
 intro E a w hk Q hQ
 have hr:=hk.toR dec
 obtain ⟨s',hr2,hgood,s,f1,f2⟩:=Qv (hrun fun t=>a.tmps.getD t undef) (hos _) (hes _) (hB _)
 obtain ⟨e',q1,q2,q3,q4,q5,q6⟩:=(ki (z9 P) hs.sums hs.mix hs.ng n).1 _ _ _ s' hr2 hk.le hr.st
 cases q1
 refine q6 hgood E a w hr Q fun E' a' w' hr' hx=> ?_
 exact hQ _ ⟨_,s,rfl⟩ E' a' w' (f1 sz E' a' w' (hr'.size.trans q4) hk.le hr') (f2 _ _ (A.st sz (fun t=>a.tmps.getD t undef) dec) A.ms _ _ rfl rfl (hnb _) hx)
def yI (k:Nat) (r:Option (Out×St)):List At:=match r with
 | some (_,st)=>qv (getT st.tm k)
 | none=>[]
def jcR (f:Nat→Int):Nat→Nat→List P2
 | _,0=>[]
 | o,n+1=> .sym (f o)::jcR f (o+1) n
def jbo:List P2→List Ob→List Ob
 | [],r=>r
 | .sym x::l,r=> .oi x x::jbo l r
 | .raw a::l,r=> .oa a a::jbo l r
 | .old _::l,r=>jbo l r
def zvR:List (Nat×PV2)→List Ob→List Ob
 | [],r=>r
 | (_,.one a)::l,r=>jbo [a] (zvR l r)
 | (_,.agg x)::l,r=>jbo x (zvR l r)
def zmR:List (Nat×PB2)→List Ob
 | []=>[]
 | (_,⟨ty,fr,es,cs,none⟩)::l=>jbo cs (zmR l)
 | (_,⟨ty,fr,es,cs,some x⟩)::l=> .ob ⟨ty,fr,es,x⟩ ⟨ty,fr,es,x⟩::zmR l
def Kv (q:PS2):List Ob:=zvR q.live (zmR q.mem)
theorem zB:∀(l:List P2) {r:List Ob},AllOb r→AllOb (jbo l r)
 | [],_,h=>h
 | .sym _::l,r,h=>fun q hq=>(List.mem_cons.1 hq).elim (fun e=>by subst e;rfl) (zB l h q)
 | .raw _::l,r,h=>fun q hq=>(List.mem_cons.1 hq).elim (fun e=>by subst e;rfl) (zB l h q)
 | .old _::l,r,h=>zB l h
theorem jfP:∀(l:List (Nat×PV2)) {r:List Ob},AllOb r→AllOb (zvR l r)
 | [],_,h=>h
 | (_,.one a)::l,r,h=>zB [a] (jfP l h)
 | (_,.agg x)::l,r,h=>zB x (jfP l h)
theorem jfQ:∀l:List (Nat×PB2),AllOb (zmR l)
 | []=>fun q hq=>by cases hq
 | (_,⟨ty,fr,es,cs,none⟩)::l=>zB cs (jfQ l)
 | (_,⟨ty,fr,es,cs,some x⟩)::l=>fun q hq=>(List.mem_cons.1 hq).elim (fun e=>by subst e;rfl) (jfQ l q)
theorem ke (q:PS2):AllOb (Kv q):=jfP _ (jfQ _)
def yZ (nb:Nat) (R:List Nat):Mem→Bool
 | []=>true
 | (i,b)::m=>match Nat.blt i nb,(match yH R i with | true=>true | false=>okL (below nb) b.cells),getM m i with
  | true,true,none=>yZ nb R m
  | _,_,_=>false
theorem ZW {nb:Nat} {R:List Nat}:∀{m:Mem},yZ nb R m=true→(∀i b,getM m i=some b→i∈R→okL noP b.cells=true)→(∀i b,getM m i=some b→i<nb∧okL (below nb) b.cells=true)∧uniq m
 | [],_,_=>⟨fun i b h=>by simp [getM] at h,trivial⟩
 | (j,c)::m,h,hr=>by
  unfold yZ at h
  split at h
  ·rename_i h1 h2 h3
   have hr':∀i b,getM m i=some b→i∈R→okL noP b.cells=true:=fun i b hb hi=>by
    refine hr i b ?_ hi
    rw [jm,if_neg]
    ·exact hb
    ·intro e;subst e;rw [h3] at hb;cases hb
   obtain ⟨k1,k2⟩:=ZW h hr'
   refine ⟨fun i b hb=> ?_,h3,k2⟩
   have hb0:=hb
   rw [jm] at hb
   split at hb
   ·rename_i e
    subst e
    cases hb
    refine ⟨by rw [zT] at h1;simpa using h1, ?_⟩
    split at h2
    ·rename_i h4
     exact jn jo (hr _ _ hb0 (memB_iff.1 h4))
    ·exact h2
   ·exact k1 i b hb
  ·cases h
theorem q8 {A:Kst} (R:List Nat) (h1:kE A.nb A.live=true) (h2:yZ A.nb R A.mem=true) (hr:∀i b,getM A.mem i=some b→i∈R→okL noP b.cells=true):KstOK A:=by
 obtain ⟨k1,k2⟩:=ZW h2 hr
 obtain ⟨l1,l2,l3⟩:=yb h1
 exact ⟨l1,l2,l3,k1,k2⟩
end Go.Lr
namespace Go.Proofs.YtbpfipbhaagllaaGreat
open Go.Lr
abbrev nzR (dl:Int):List Go.Lr.P2:=[qI 8000,qS dl,qI 16]++rq 7 (qI 5)++[qI 1000000,qI 1000000,qI 1000000,qI 1000000,qI 1000000,qI 1000000,qI 1048576,qI 1048576,qI 1048576,qI 1048576,qI 17179869184,qI 17179869184,qI 17179869184,qI 16384,qI 16384,qI 16384,qI 1024,qI 1024,qI 1024,qI 65536,qI 65536,qI 65536,qI 16384,qI 16384,qI 16384,qI 16384,qI 16384,qI 16384,qI 17179869184,qI 17179869184,qI 68719476736,qI 68719476736,qI 68719476736,qI 68719476736,qI 17592186044416,qI 17592186044416,qI 17592186044416,qI 17592186044416,qI 17592186044416,qI 17592186044416,qI 67108864,qI 67108864,qI 67108864,qI 4294967296,qI 4294967296,qI 4294967296,qI 17179869184,qI 17179869184,qI 17179869184,qI 17179869184,qI 17179869184,qI 17179869184,qI 17592186044416,qI 17592186044416,qI 5000000,qI 68719476736,qI 1,qI 268435456,qI 32,qI 0,qI 0,qI 0]
abbrev nzA (T:Int):List Go.Lr.P2:=[qS T,qI 8000,qI 0,qI 0,qI 0,qI 0,qI 0,qI (-84238486)]
abbrev nzI (T:Int):List At:=[.int .i64 T,.int .i64 8000,.int .i64 0,.int .i64 0,.int .i64 0,.int .i64 0,.int .i64 0,.int .i64 (-84238486)]
abbrev nzD (k:Int):Nat×PB2:=(19,⟨130,(0,0),0,[qI 8000,qS (8000*k)]++rq 7 (qI 0)++[qB true],none⟩)
abbrev nzP (x:Go.Lr.P2):Nat×PB2:=(21,⟨107,(0,0),0,[qI 32,qI 268435456,x],none⟩)
abbrev nzB (i:Nat) (T:Int):Nat×PB2:=(i,⟨58,(0,0),0,nzA T,none⟩)
abbrev nzQ (i:Nat) (t:Int) (n:Nat):Nat×PB2:=(i,⟨58,(0,0),8,[],some (jO t n)⟩)
abbrev nzO (i:Nat) (cs:List At):Nat×PB2:=(i,⟨38,(0,0),11,[],some cs⟩)
abbrev nzX (l:List Go.Lr.P2):Nat×PB2:=(11,⟨77,(0,0),0,l,none⟩)
abbrev nzp (i b o:Nat):Nat×PV2:=(i,.one (qL (.ptr b o)))
abbrev nzi (i:Nat) (x:Int):Nat×PV2:=(i,.one (qI x))
abbrev nzv (b n:Nat):Go.Lr.P2:= .raw (.slv b n)
def bl (b:Bool):Go.Lr.P2:= .raw (.bool b)
def nF (f:Nat→Int) (g:Nat→Bool) (c q:Go.Lr.P2):List Go.Lr.P2:=
 jcR f 0 72++([c]++(jcR f 73 324++([qL (.ptr 18 0),qL (.ptr 19 0),q,qL (.ptr 22 0),qL (.ptr 23 0),qL (.ptr 24 0),qL (.ptr 25 0),qL (.ptr 26 0),qL (.ptr 27 0),qL (.ptr 20 0)]++(jcR f 407 2++([bl (g 409),bl (g 410),qL (.ptr 21 0),bl (g 412)]++(jcR f 413 4++([bl (g 417),bl (g 418),bl (g 419)]++(jcR f 420 13++[qL .nilsl]))))))))
def nR (f:Nat→Int) (i:Nat):Nat×PB2:=(i,⟨135,(0,0),0,[qI 0,qI 0,qI 0,qI 0,qI 0,qI 16,qL .nilsl,.sym (f (700+i))],none⟩)
def nM (f:Nat→Int) (g:Nat→Bool) (c q:Go.Lr.P2) (l:Go.Lr.P2) (r:List (Nat×PB2)):List (Nat×PB2):=
 (11,⟨77,(0,0),0,nF f g c q,none⟩)::(18,⟨128,(0,0),0,[qI 0,qI 0,qI 0,qI 12157770197,qI 12239707452],none⟩)::
 (19,⟨130,(0,0),0,jcR f 500 9++[bl (g 500)],none⟩)::(20,⟨115,(0,0),0,jcR f 510 2++([bl (g 510)]++(jcR f 512 5++([bl (g 511)]++(jcR f 517 5++([bl (g 512)]++(jcR f 522 5++([bl (g 513)]++(jcR f 527 5++([bl (g 514)]++(jcR f 532 5++([bl (g 515)]++(jcR f 537 4)))))))))))),none⟩)::
 (21,⟨107,(0,0),0,[.sym (f 600),.sym (f 601),l],none⟩)::nR f 22::nR f 23::nR f 24::nR f 25::nR f 26::nR f 27::r
def nwC (cs:List At) (o:Nat) (x:List At):List At:=cs.take o++(x++cs.drop (o+11))
theorem qb (l:List At) (o:Nat):intAt l o=match l[o]? with
  | some (.int _ n)=>n
  | _=>0:=by
 unfold intAt
 rw [JU]
 cases l[o]? with
 | none=>rfl
 | some x=>cases x <;> rfl
theorem zC {l m:List At} (h:j8 l=true) (k:j8 m=true):j8 (l++m)=true:=by
 unfold j8 at *
 rw [List.all_append,h,k];rfl
theorem jlw {cs x:List At} {n o:Nat} (h:AllI cs n) (hx:j8 x=true) (hl:x.length=11) (ho:o+11≤n):AllI (nwC cs o x) n:=by
 have hlen:=h.len
 refine .of (zC (zy h.isI fun a ha=>List.mem_of_mem_take ha) (zC hx (zy h.isI fun a ha=>List.mem_of_mem_drop ha))) ?_
 unfold nwC
 simp only [List.length_append,List.length_take,List.length_drop,hl]
 omega
theorem jpg {cs x:List At} {n o:Nat} (hlen:cs.length=n) (hl:x.length=11) (ho:o+11≤n) (hx:intAt x 0=intAt cs o) {j:Nat} (hj:j<o∨j=o∨o+11≤j):intAt (nwC cs o x) j=intAt cs j:=by
 have h0:(cs.take o).length=o:=by rw [List.length_take];omega
 rw [qb,qb]
 unfold nwC
 rcases hj with hj | rfl | hj
 ·rw [List.getElem?_append_left (by omega),List.getElem?_take,if_pos hj]
 ·rw [List.getElem?_append_right (by omega),h0,Nat.sub_self,List.getElem?_append_left (by omega),←qb,hx,qb]
 ·rw [List.getElem?_append_right (by omega),h0,List.getElem?_append_right (by omega),hl,List.getElem?_drop,show o+11+(j - o - 11)=j by omega]
structure SameT (cs cs':List At) (m:Nat):Prop where
 all:AllI cs' (m*11)
 at_:∀i,i<m→intAt cs' (i*11)=intAt cs (i*11)
theorem SameT.refl {cs:List At} {m:Nat} (h:AllI cs (m*11)):SameT cs cs m:=⟨h,fun _ _=>rfl⟩
theorem SameT.trans {a b c:List At} {m:Nat} (h:SameT a b m) (k:SameT b c m):SameT a c m:=⟨k.all,fun i hi=>(k.at_ i hi).trans (h.at_ i hi)⟩
theorem jcS {cs:List At} {m:Nat} {T:Int} (h:OutL cs m T):cs.take (m*11)=cs:=by rw [←h.all.len,List.take_length]
theorem KW {cs x:List At} {m:Nat} {T0 T:Int} (h:OutL cs m T0) (hx:j8 x=true) (hl:x.length=11) (h0:intAt x 0=T):OutL (XG (cs.take (m*11)) x) (m+1) T:=by
 have hlen:=h.all.len
 rw [jcS h,yw]
 refine ⟨.of (zC h.all.isI hx) (by rw [List.length_append,hlen,hl];omega),by omega, ?_⟩
 rw [qb,List.getElem?_append_right (by omega),show (m+1 - 1)*11 - cs.length=0 by omega,←qb]
 exact h0
theorem ZX {cs x:List At} {m:Nat} {T0 T:Int} (h:OutL cs m T0) (hx:j8 x=true) (hl:x.length=11) (h0:intAt x 0=T):OutL (XG [] (((XG (cs.take (m*11)) x).drop 11).take (m*11))) m T:=by
 have hlen:=h.all.len
 have hp:=h.pos
 rw [jcS h,yw,yw,List.nil_append]
 have hd:((cs++x).drop 11).length=m*11:=by rw [List.length_drop,List.length_append,hlen,hl];omega
 rw [←hd,List.take_length]
 refine ⟨.of (zy (zC h.all.isI hx) fun a ha=>List.mem_of_mem_drop ha) hd,hp, ?_⟩
 rw [qb,List.getElem?_drop,List.getElem?_append_right (by omega),show 11+(m - 1)*11 - cs.length=0 by omega,←qb]
 exact h0
end Go.Proofs.YtbpfipbhaagllaaGreat

/- TopNow: the pieces of a round behind the tilt. -/
namespace Go.Proofs.YtbpfipbhaagllaaGreat
open Go.Lr
theorem ToP.of_ToR {P:Program} {sz N:Nat} {c:Code} {A:Kst} {e:Ex} {B:Kst→Prop} (h:ToR P sz N c A e B) (hN:Nat.ble A.nb N=true) (hb:∀x,B x→Nat.ble A.nb x.nb=true):ToP P sz c A e B:=by
 intro E a w hr Q hQ
 refine h E a w hr Q fun B0 hB E' a' w' hr' hx=>hQ B0 hB E' a' w' hr' ?_
 exact ⟨Nat.le_of_ble_eq_true (hb B0 hB),fun i hi=>hx.agree i (Nat.lt_of_lt_of_le hi (Nat.le_of_ble_eq_true hN)),hx.os,hx.tape,hx.output,hx.size,hx.frame,hx.src⟩
theorem jhW {A:Kst} {Q O tq to n:Nat} {t:Int} {cs:List At} (e1:getM A.mem Q=some ⟨tq,(0,0),8,jO t n⟩) (e2:getM A.mem O=some ⟨to,(0,0),11,cs⟩) (hc:okL noP cs=true):∀i b,getM A.mem i=some b→i∈[Q,O]→okL noP b.cells=true:=by
 intro i b hb hi
 simp only [List.mem_cons,List.not_mem_nil,or_false] at hi
 rcases hi with rfl | rfl
 ·rw [e1] at hb;cases hb;exact ZV n t
 ·rw [e2] at hb;cases hb;exact hc
theorem nst {S:FuncId→Option SumK} (hs:Sound Tryz.prog S) (R:List Nat) (mask:List Bool) (dec:List (Option Bool)) (os:List (Bool×Bool)) {sz:Nat} {c:Code} {A:Kst} {e:Ex} {q:PS2}
  (hr:∀s,∀i b,getM (je s q).mem i=some b→i∈R→okL noP b.cells=true) (hos:∀c∈os,c.1=c.2)
  (hrun:∀dead,ql q e mask (ju (q.live.map (·.1)) (q.mem.map (·.1)) (Go.Lr.exec Tryz.prog S ⟨false,false,false⟩ 20000 (.code c) (A.st sz dead dec)))=some (os,Kv q):=by intro dead;kernel_rfl)
  (h1:∀s,kE (je s q).nb (je s q).live=true:=by intro s;kernel_rfl) (h2:∀s,yZ (je s q).nb R (je s q).mem=true:=by intro s;kernel_rfl) (hn:Nat.ble A.nb q.nb=true:=by kernel_rfl):ToP Tryz.prog sz c A e (jA q):=
 ToP.run2 hs hrun hos (ke _) (fun s=>q8 R (h1 s) (h2 s) (hr s)) hn
theorem xP (t:Int) (n:Nat) {A:Kst} {Q O:Nat} {cs:List At} (hc:okL noP cs=true) (e1:getM A.mem Q=some ⟨58,(0,0),8,jO t n⟩:=by kernel_rfl) (e2:getM A.mem O=some ⟨38,(0,0),11,cs⟩:=by kernel_rfl):∀i b,getM A.mem i=some b→i∈[Q,O]→okL noP b.cells=true:=jhW e1 e2 hc
theorem yg (Q O:Nat) (t:Int) (n:Nat) {A:Kst} {cs:List At} (hc:okL noP cs=true) (h1:kE A.nb A.live=true:=by kernel_rfl) (h2:yZ A.nb [Q,O] A.mem=true:=by kernel_rfl) (e1:getM A.mem Q=some ⟨58,(0,0),8,jO t n⟩:=by kernel_rfl) (e2:getM A.mem O=some ⟨38,(0,0),11,cs⟩:=by kernel_rfl):KstOK A:=q8 [Q,O] h1 h2 (jhW e1 e2 hc)
theorem jk6 {a:Bool} {b:Bool} (h:a=b):∀c∈[(a,b)],c.1=c.2:=fun c hc=>by simp only [List.mem_singleton] at hc;subst hc;exact h
theorem joL {a b c d:Bool} (h:a=b) (k:c=d):∀x∈[(a,b),(c,d)],x.1=x.2:=fun x hx=>by
 simp only [List.mem_cons,List.not_mem_nil,or_false] at hx
 rcases hx with rfl | rfl
 ·exact h
 ·exact k
theorem jk7 {T:Int} (h0:0≤T) (h1:T≤1125899906842624):jbf T 8000 0 0 0 0 0 (-84238486)=true:=by
 unfold jbf
 rw [show decide (T≥0)=true from decide_eq_true h0,show decide (T≤1125899906842624)=true from decide_eq_true h1]
 kernel_rfl
noncomputable abbrev imZ:Code:=jj Tryz.prog 11
noncomputable abbrev smZ:Code:=jj Tryz.prog 28
def mF0 (dl:Int) (c q ft:Go.Lr.P2):List Go.Lr.P2:=nzR dl++[c]++rq 324 (qH)++[qL (.ptr 18 0),qL (.ptr 19 0),q,qL (.ptr 22 0),qL (.ptr 23 0),qL (.ptr 24 0),qL (.ptr 25 0),qL (.ptr 26 0),qL (.ptr 27 0),qL (.ptr 20 0),qI 1,qI 0,qB false,qB false,qL (.ptr 21 0),qB true,qI 10,qI 0,qI 0,qI (-842384860),qB true,qB false,qB false,qI 0,ft,qI 0,qI 1073741824]++rq 9 (qI 0)++[qL .nilsl]
def kr:Nat×PB2:=(18,⟨128,(0,0),0,[qI 0,qI 0,qI 0,qI 12157770197,qI 12239707452],none⟩)
def kt:Nat×PB2:=(20,⟨115,(0,0),0,[qI 0,qI 0,qB false,qI 0,qI 1000000,qI 5,qI 0,qI 0,qB false,qI 1,qI 1000000,qI 5,qI 0,qI 0,qB false,qI 2,qI 1000000,qI 5,qI 0,qI 0,qB false,qI 3,qI 1000000,qI 5,qI 0,qI 0,qB false,qI 4,qI 1000000,qI 5,qI 0,qI 0,qB false,qI 5,qI 1000000,qI 5,qI 0],none⟩)
def ku:List (Nat×PB2):=[(22,⟨135,(0,0),0,[qI 0,qI 0,qI 0,qI 0,qI 0,qI 16,qL .nilsl,qH],none⟩),(23,⟨135,(0,0),0,[qI 0,qI 0,qI 0,qI 0,qI 0,qI 16,qL .nilsl,qH],none⟩),(24,⟨135,(0,0),0,[qI 0,qI 0,qI 0,qI 0,qI 0,qI 16,qL .nilsl,qH],none⟩),(25,⟨135,(0,0),0,[qI 0,qI 0,qI 0,qI 0,qI 0,qI 16,qL .nilsl,qH],none⟩),(26,⟨135,(0,0),0,[qI 0,qI 0,qI 0,qI 0,qI 0,qI 16,qL .nilsl,qH],none⟩),(27,⟨135,(0,0),0,[qI 0,qI 0,qI 0,qI 0,qI 0,qI 16,qL .nilsl,qH],none⟩)]
def ms0 (dl k t:Int) (n m:Nat) (cs:List At):PS2:=⟨[nzp 0 11 0,(1,.agg (nzA (8000*(k+1))))],[nzX (mF0 dl qO (nzv 29 n) (qS (8000*(t - 1)))),kr,nzD k,kt,nzP (nzv 30 m)]++(ku++[nzQ 29 t n,nzO 30 cs]),31⟩
def ms1 (dl k t:Int) (n m:Nat) (cs:List At):PS2:=⟨[nzp 0 11 0,nzp 3 31 0,nzi 4 0,nzi 5 0],[nzX (mF0 dl qO (nzv 29 n) (qS (8000*(t - 1)))),kr,nzD k,kt,nzP (nzv 30 m)]++(ku++[nzQ 29 t n,nzO 30 cs,nzB 31 (8000*(k+1))]),32⟩
def ms2 (dl k t:Int) (n m:Nat) (cs:List At):PS2:=⟨[nzp 0 11 0,nzi 4 0,nzi 5 0,nzp 6 35 0,(7,.one (qB true)),nzi 8 0],[nzX (mF0 dl qO (nzv 29 n) (qS (8000*(t - 1)))),kr,nzD (k+1),kt,nzP (nzv 30 m)]++(ku++[nzQ 29 t n,nzO 30 cs,nzB 35 (8000*(k+1))]),36⟩
def ms3 (dl k t:Int) (n m:Nat) (cs:List At):PS2:=⟨[nzp 0 11 0,nzi 4 0,nzi 5 0,nzp 6 35 0],[nzX (mF0 dl qO (nzv 29 n) (qS (8000*(t - 1)))),kr,nzD (k+1),kt,nzP (nzv 30 m)]++(ku++[nzQ 29 t n,nzO 30 cs,nzB 35 (8000*(k+1))]),36⟩
def ms4 (dl k t:Int) (n m:Nat) (cs:List At):PS2:=⟨[nzp 0 11 0,nzi 4 0,nzi 5 0,nzp 6 35 0,(34,.one (qB true))],[nzX (mF0 dl qO (nzv 29 n) (qS (8000*(t - 1)))),kr,nzD (k+1),kt,nzP (nzv 30 m)]++(ku++[nzQ 29 t n,nzO 30 cs,nzB 35 (8000*(k+1))]),36⟩
def ms5 (dl k t:Int) (n m:Nat) (cs:List At):PS2:=⟨[nzp 0 11 0,nzi 4 0,nzi 5 0,nzp 6 35 0],[nzX (mF0 dl qO (nzv 45 (n+1)) (qS (8000*(t - 1)))),kr,nzD (k+1),kt,nzP (nzv 43 m)]++(ku++[nzB 35 (8000*(k+1)),nzO 43 cs,nzQ 45 t (n+1)]),46⟩
def ms6 (dl k t:Int) (n m:Nat) (cs:List At):PS2:=⟨[nzp 0 11 0,nzi 4 0,nzi 5 0,nzp 6 35 0,nzi 9 0],[nzX (mF0 dl qO (nzv 45 (n+1)) (qS (8000*(t - 1)))),kr,nzD (k+1),kt,nzP (nzv 43 m)]++(ku++[nzB 35 (8000*(k+1)),nzO 43 cs,nzQ 45 t (n+1)]),46⟩
def ms7 (dl k t:Int) (n m:Nat) (cs:List At):PS2:=⟨[nzp 0 11 0,nzi 4 0,nzi 5 0,nzp 6 35 0],[nzX (mF0 dl qO (nzv 29 n) (qS (8000*(t - 1)))),kr,nzD (k+1),kt,nzP (nzv 43 m)]++(ku++[nzQ 29 t n,nzB 35 (8000*(k+1)),nzO 43 cs]),44⟩
def ms8 (dl k t:Int) (n m:Nat) (cs:List At):PS2:=⟨[nzp 0 11 0,nzi 4 0,nzi 5 0,nzp 6 35 0],[nzX (mF0 dl qO (nzv 45 (n+1)) (qS (8000*(t - 1)))),kr,nzD (k+1),kt,nzP (nzv 43 m)]++(ku++[nzB 35 (8000*(k+1)),nzO 43 cs,(45,⟨58,(0,0),8,[],some (XG ((jO t n).take (n*8)) (nzI (8000*(k+1))))⟩)]),46⟩
def ms9 (dl k t:Int) (n m:Nat) (cs:List At):PS2:=⟨[nzp 0 11 0,nzi 4 0,nzi 5 0,nzp 6 35 0,nzi 9 0,nzp 10 46 0],[nzX (mF0 dl qO (nzv 45 (n+1)) (qS (8000*(t - 1)))),kr,nzD (k+1),kt,nzP (nzv 43 m)]++(ku++[nzB 35 (8000*(k+1)),nzO 43 cs,nzQ 45 t (n+1),nzB 46 (8000*t)]),47⟩
def jha (dl k t:Int) (n m:Nat) (cs:List At):PS2:=⟨[nzp 0 11 0,nzi 4 0,nzi 5 0,nzp 6 35 0,nzi 9 0,nzp 10 46 0],[nzX (mF0 dl qO (nzv 47 n) (qS (8000*(t - 1)))),kr,nzD (k+1),kt,nzP (nzv 43 m)]++(ku++[nzB 35 (8000*(k+1)),nzO 43 cs,nzB 46 (8000*t),nzQ 47 (t+1) n]),48⟩
def msr (dl k t:Int) (n m:Nat) (cs:List At):PS2:=⟨[nzp 0 11 0,nzi 4 0,nzi 5 0,nzp 6 35 0,nzi 9 0,nzp 10 37 0],[nzX (mF0 dl qO (nzv 38 n) (qS (8000*(t - 1)))),kr,nzD (k+1),kt,nzP (nzv 41 m)]++(ku++[nzB 35 (8000*(k+1)),nzO 41 cs,nzB 37 (8000*t),nzQ 38 (t+1) n]),42⟩
def jhX (dl k t:Int) (n m:Nat) (cs:List At):PS2:=⟨[nzp 0 11 0,(1,.agg (nzA (8000*t)))],[nzX (mF0 dl qO (nzv 38 n) (qS (8000*(t - 1)))),kr,nzD (k+1),kt,nzP (nzv 41 m)]++(ku++[nzO 41 cs,nzQ 38 (t+1) n]),42⟩
def juN (dl k t:Int) (n m:Nat) (cs:List At):PS2:=⟨[nzp 0 11 0,nzp 3 42 0],[nzX (mF0 dl qO (nzv 38 n) (qS (8000*(t - 1)))),kr,nzD (k+1),kt,nzP (nzv 41 m)]++(ku++[nzO 41 cs,nzQ 38 (t+1) n,nzB 42 (8000*t)]),43⟩
def juO (dl k t:Int) (n m:Nat) (cs:List At):PS2:=⟨[nzp 0 11 0,nzp 3 42 0,nzp 4 11 72],[nzX (mF0 dl qO (nzv 38 n) (qS (8000*(t - 1)))),kr,nzD (k+1),kt,nzP (nzv 41 m)]++(ku++[nzO 41 cs,nzQ 38 (t+1) n,nzB 42 (8000*t)]),43⟩
def jmD (dl k t:Int) (n m:Nat) (cs:List At):PS2:=⟨[nzp 0 11 0,nzp 3 42 0,nzp 4 11 72],[nzX (mF0 dl qO (nzv 38 n) (qS (8000*t))),kr,nzD (k+1),kt,nzP (nzv 41 m)]++(ku++[nzO 41 cs,nzQ 38 (t+1) n,nzB 42 (8000*t)]),43⟩
def jmE (dl k t:Int) (n m:Nat) (cs:List At):PS2:=⟨[nzp 0 11 0,nzp 3 42 0,nzp 4 11 72,nzp 8 43 0],[nzX (mF0 dl qO (nzv 38 n) (qS (8000*t))),kr,nzD (k+1),kt,nzP (nzv 41 m)]++(ku++[nzO 41 cs,nzQ 38 (t+1) n,nzB 42 (8000*t),(43,⟨149,(0,0),0,[qB true]++rq 7 (qB false)++[qI 1125899906842624,qI 5000000,qI 1],none⟩)]),44⟩
def jqN (dl k t:Int) (n m:Nat) (cs:List At):PS2:=⟨[nzp 0 11 0,nzp 3 42 0,nzp 4 11 72],[nzX (mF0 dl qO (nzv 38 n) (qS (8000*t))),kr,nzD (k+1),kt,nzP (nzv 41 m)]++(ku++[nzO 41 cs,nzQ 38 (t+1) n,nzB 42 (8000*t)]),44⟩
def juP (dl k t:Int) (n m:Nat) (cs:List At):PS2:=⟨[nzp 0 11 0,nzp 3 42 0,nzp 4 11 72,(186,.one (qB true))],[nzX (mF0 dl qO (nzv 38 n) (qS (8000*t))),kr,nzD (k+1),kt,nzP (nzv 41 m)]++(ku++[nzO 41 cs,nzQ 38 (t+1) n,nzB 42 (8000*t)]),44⟩
theorem im0 {dl k t:Int} {n m:Nat} {cs:List At} (hc:okL noP cs=true) (s:Asg):ToP Tryz.prog 102 (c1 (imZ)) (je s (ms0 dl k t n m cs)) .normal (jA (ms1 dl k t n m cs)):=
 nst soundGC [29,30] [] [] [] (fun s=>xP t n hc) jd
theorem im2 {dl k t:Int} {n m:Nat} {cs:List At} (hc:okL noP cs=true) (s:Asg):ToP Tryz.prog 102 (c1 (c2 (c2 (imZ)))) (je s (ms2 dl k t n m cs)) .normal (jA (ms3 dl k t n m cs)):=
 nst soundGC [29,30] [] [] [] (fun s=>xP t n hc) jd
theorem im3 {dl k t:Int} {n m:Nat} {cs:List At} (hc:okL noP cs=true) (s:Asg):ToP Tryz.prog 102 (c1 (c1 (c2 (c2 (c2 (imZ)))))) (je s (ms3 dl k t n m cs)) .normal (jA (ms4 dl k t n m cs)):=
 nst soundGC [29,30] [] [] [] (fun s=>xP t n hc) jd
theorem im5 {dl k t:Int} {n m:Nat} {cs:List At} (hc:okL noP cs=true) (s:Asg):ToP Tryz.prog 102 (c1 (c2 (c2 (c2 (c2 (c2 (imZ))))))) (je s (ms5 dl k t n m cs)) .normal (jA (ms6 dl k t n m cs)):=
 nst soundGC [45,43] [] [] [] (fun s=>xP t (n+1) hc) jd
theorem im1 {dl k t:Int} {n m:Nat} {cs:List At} (hc:okL noP cs=true) (h0:0≤k) (h1:k≤1000) (s:Asg):ToP Tryz.prog 102 (c1 (c2 (imZ))) (je s (ms1 dl k t n m cs)) .normal (jA (ms2 dl k t n m cs)):=
 nst soundGC [29,30] [false,false,false,false,false,false,false,false,false,false,false,false,false,false,false,false,false,false,true,true] [] [(decide (8000*(k+1)≤8000*k),false),(jbf (8000*(k+1)) 8000 0 0 0 0 0 (-84238486),true)] (fun s=>xP t n hc) (joL (decide_eq_false (by omega)) (jk7 (by omega) (by omega)))
theorem joM {dl k t:Int} {n m:Nat} {cs:List At} (hk:k+1=t+n):(ms8 dl k t n m cs)=(ms5 dl k t n m cs):=by unfold ms8 ms5;rw [XO hk rfl]
theorem im4 {dl k t:Int} {n m:Nat} {cs:List At} (hc:okL noP cs=true) (hk:k+1=t+n) (hn:n≤1000) (s:Asg):ToP Tryz.prog 102 (c1 (c2 (c2 (c2 (c2 (imZ)))))) (je s (ms7 dl k t n m cs)) .normal (jA (ms5 dl k t n m cs)):=by
 have e:=joM (dl:=dl) (m:=m) (cs:=cs) hk
 rw [←e]
 exact nst soundGC [45,43] [true,true] [] [(Nat.ble ((n+1)*65) 140737488355328&&true,true),(decide (n*8≤(jO t n).length),true)] (fun s=>jhW (tq:=58) (to:=38) (t:=t) (n:=n+1) (by rw [e];kernel_rfl) (by kernel_rfl) hc) (joL (by rw [Kx];simp;omega) (decide_eq_true (by rw [qJ];omega)))
theorem imA {dl k t:Int} {n m:Nat} {cs:List At} (hc:okL noP cs=true) (h0:0≤k) (h1:k≤1000) (d0:0≤dl) (d1:dl≤300000) (hs:8000*t≤8000*(k+1) - dl) (s:Asg):ToP Tryz.prog 102 (c1 (c1 (c1 (c1 (c2 (c2 (c2 (c2 (c2 (c2 (imZ))))))))))) (je s (ms6 dl k t n m cs)) .normal (jA (ms6 dl k t n m cs)):=
 nst soundGC [45,43] [true,true,true,true,true,true,true,true,true,true,true,true,false,true,true,true,true,true,true,true] (tt 17 (tt 1 [])) (ra 1 (decide (8000*t≤wr .i64 (8000*(k+1) - dl)),true) (ra 13 (decide (((n+1:Nat):Int)>0),true) (ra 1 (decide ((0:Int)≤0)&&decide ((0:Int)<((n+1:Nat):Int)),true) (ra 4 (decide (((n+1:Nat):Int)>0),true) [])))) (fun s=>xP t (n+1) hc) (j9 (decide_eq_true (by rw [Go.Lr.w1 (by omega)];omega)) (j9 (decide_eq_true (by omega)) (j9 (by rw [decide_eq_true (Int.le_refl 0),decide_eq_true (by omega)];rfl) (j9 (decide_eq_true (by omega)) jd _) _) _) _)
theorem jv0 {dl k t:Int} {n m:Nat} {cs:List At} (hc:okL noP cs=true) (s:Asg):ToP Tryz.prog 102 (c1 (c1 (c2 (c1 (c1 (c1 (c2 (c2 (c2 (c2 (c2 (c2 (imZ))))))))))))) (je s (ms6 dl k t n m cs)) .normal (jA (ms9 dl k t n m cs)):=
 nst soundGC [45,43] [false,true] [] [(decide ((0:Int)≤0)&&decide ((0:Int)<((n+1:Nat):Int)),true)] (fun s=>xP t (n+1) hc) (jk6 (by rw [decide_eq_true (Int.le_refl 0),decide_eq_true (by omega)];rfl))
theorem jsn {dl k t:Int} {n m:Nat} {cs:List At} (hc:okL noP cs=true) (s:Asg):ToP Tryz.prog 102 (c1 (c2 (c1 (c2 (c1 (c1 (c1 (c2 (c2 (c2 (c2 (c2 (c2 (imZ)))))))))))))) (je s (ms9 dl k t n m cs)) .normal (jA (jha dl k t n m cs)):=
 nst soundGC [47,43] [true] [] [(decide (0+1≤n+1)&&decide ((jO t (n+1)).length=(n+1)*8),true)] (fun s=>xP (t+1) n hc) (jk6 (by rw [qJ];simp))
theorem sm0 {dl k t:Int} {n m:Nat} {cs:List At} (hc:okL noP cs=true) (s:Asg):ToP Tryz.prog 199 (c1 (smZ)) (je s (jhX dl k t n m cs)) .normal (jA (juN dl k t n m cs)):=
 nst soundGC [38,41] [] [] [] (fun s=>xP (t+1) n hc) jd
theorem sm1 {dl k t:Int} {n m:Nat} {cs:List At} (hc:okL noP cs=true) (s:Asg):ToP Tryz.prog 199 (c1 (c2 (smZ))) (je s (juN dl k t n m cs)) .normal (jA (juO dl k t n m cs)):=
 nst soundGC [38,41] [] [] [] (fun s=>xP (t+1) n hc) jd
theorem sm2 {dl k t:Int} {n m:Nat} {cs:List At} (hc:okL noP cs=true) (s:Asg):ToP Tryz.prog 199 (c1 (c2 (c2 (smZ)))) (je s (juO dl k t n m cs)) .normal (jA (jmD dl k t n m cs)):=
 nst soundGC [38,41] [] [] [] (fun s=>xP (t+1) n hc) jd
theorem sm3 {dl k t:Int} {n m:Nat} {cs:List At} (hc:okL noP cs=true) (s:Asg):ToP Tryz.prog 199 (c1 (c2 (c2 (c2 (smZ))))) (je s (jmD dl k t n m cs)) .normal (jA (jmD dl k t n m cs)):=
 nst soundGC [38,41] [] [] [] (fun s=>xP (t+1) n hc) jd
theorem sm4 {dl k t:Int} {n m:Nat} {cs:List At} (hc:okL noP cs=true) (s:Asg):ToP Tryz.prog 199 (c1 (c2 (c2 (c2 (c2 (smZ)))))) (je s (jmD dl k t n m cs)) .normal (jA (jmD dl k t n m cs)):=
 nst soundGC [38,41] [] [] [] (fun s=>xP (t+1) n hc) jd
theorem sm5 {dl k t:Int} {n m:Nat} {cs:List At} (hc:okL noP cs=true) (s:Asg):ToP Tryz.prog 199 (c1 (c2 (c2 (c2 (c2 (c2 (smZ))))))) (je s (jmD dl k t n m cs)) .normal (jA (jmE dl k t n m cs)):=
 nst soundGC [38,41] [] [] [] (fun s=>xP (t+1) n hc) jd
theorem sm6 {dl k t:Int} {n m:Nat} {cs:List At} (hc:okL noP cs=true) (s:Asg):ToP Tryz.prog 199 (c1 (c2 (c2 (c2 (c2 (c2 (c2 (smZ)))))))) (je s (jmE dl k t n m cs)) .normal (jA (jmE dl k t n m cs)):=
 nst soundGC [38,41] [] [] [] (fun s=>xP (t+1) n hc) jd
theorem sm7 {dl k t:Int} {n m:Nat} {cs:List At} (hc:okL noP cs=true) (s:Asg):ToP Tryz.prog 199 (c1 (c2 (c2 (c2 (c2 (c2 (c2 (c2 (smZ))))))))) (je s (jmE dl k t n m cs)) .normal (jA (jmE dl k t n m cs)):=
 nst soundGC [38,41] [] [] [] (fun s=>xP (t+1) n hc) jd
theorem sm8 {dl k t:Int} {n m:Nat} {cs:List At} (hc:okL noP cs=true) (s:Asg):ToP Tryz.prog 199 (c1 (c2 (c2 (c2 (c2 (c2 (c2 (c2 (c2 (smZ)))))))))) (je s (jmE dl k t n m cs)) .normal (jA (jqN dl k t n m cs)):=
 nst soundGC [38,41] [] [] [] (fun s=>xP (t+1) n hc) jd
theorem sm9 {dl k t:Int} {n m:Nat} {cs:List At} (hc:okL noP cs=true) (s:Asg):ToP Tryz.prog 199 (c1 (c2 (c2 (c2 (c2 (c2 (c2 (c2 (c2 (c2 (smZ))))))))))) (je s (jqN dl k t n m cs)) .normal (jA (jqN dl k t n m cs)):=
 nst soundGC [38,41] [] [] [] (fun s=>xP (t+1) n hc) jd
theorem jv1 {dl k t:Int} {n m:Nat} {cs:List At} (hc:okL noP cs=true) (s:Asg):ToP Tryz.prog 199 (c1 (c2 (c2 (c2 (c2 (c2 (c2 (c2 (c2 (c2 (c2 (smZ)))))))))))) (je s (jqN dl k t n m cs)) .normal (jA (juP dl k t n m cs)):=
 nst soundGC [38,41] [] [] [] (fun s=>xP (t+1) n hc) jd
end Go.Proofs.YtbpfipbhaagllaaGreat

/- TopNow: a sample at rest (driver.rest), over any walk of Imu. -/
namespace Go.Proofs.YtbpfipbhaagllaaGreat
open Go.Lr
set_option maxRecDepth 100000
noncomputable abbrev rtZ:Code:=jj Tryz.prog 7
def drv (L st:Int):Nat×PB2:=(28,⟨42,(0,0),0,[qL (.ptr 11 0),qS L,qS st,qB false],none⟩)
def Jr (L st:Int):Mem:=[(28,⟨42,(0,0),0,[.ptr 11 0,.int .i64 L,.int .i64 st,.bool false]⟩)]
theorem J7 {L st:Int} {i:Nat} (h:(getM (Jr L st) i).isSome):i=28:=by
 unfold Jr at h
 rw [jm] at h
 split at h
 ·assumption
 ·cases h
def iL (T:Int):List At:=[.int .i64 T,.int .i64 8000,.int .i64 0,.int .i64 0,.int .i64 0,.int .i64 0,.int .i64 0,.int .i64 (-84238486)]
def rt1 (X:PS2) (L T st:Int):PS2:=⟨[nzp 0 28 0,nzp 8 11 0,(14,.agg [qS T,qI 8000,qI 0,qI 0,qI 0,qI 0,qI 0,qI (-84238486)])],X.mem++[drv L st],X.nb⟩
def rt0 (X:PS2) (L st:Int):PS2:=⟨[nzp 0 28 0],drv L st::X.mem,X.nb⟩
def rt2 (Y:PS2) (L st v:Int):PS2:=⟨[nzp 0 28 0,(2,.one (qS v)),nzi 3 0],drv L st::Y.mem,60⟩
def rtC (Y:PS2) (s:Asg) (L st v:Int):Kst:=⟨[(15,.tup [.one (.int .i64 v),.one (.int .i64 0)]),(0,.v (.one (.ptr 28 0)))],(je s Y).mem++Jr L st,60⟩
theorem Z6 (s:Asg):∀a b:List (Nat×PB2),z4 s (a++b)=z4 s a++z4 s b
 | [],b=>rfl
 | (i,p)::a,b=>by
  show _::z4 s (a++b)=_
  rw [Z6 s a b];rfl
theorem jpF (L st v:Int):ToP Tryz.prog 37 (c2 rtZ) ⟨[(0,.v (.one (.ptr 28 0))),(2,.v (.one (.int .i64 v))),(3,I 0)],Jr L st,60⟩ .normal (jA ⟨[],[drv (wr .i64 (L+8000)) (wr .i64 (st+v))],60⟩):=
 ToP.run2 (z:=⟨false,false,false⟩) (n:=20000) (dec:=[]) (mask:=[]) (os:=[]) (es:=Kv ⟨[],[drv (wr .i64 (L+8000)) (wr .i64 (st+v))],60⟩) soundGC (fun dead=>by kernel_rfl) jd (ke _) (fun s=>jI (by kernel_rfl)) (by kernel_rfl)
theorem jc8 {ι:Type} {X:PS2} {Y:ι→PS2} {Q:ι→Prop} {k st v:Int} (h0:0≤k) (h1:k≤1000)
  (himu:∀s,ToP Tryz.prog 102 imZ (je s X) .ret (fun y=>∃e,Q e∧jA (Y e) y))
  (hX:∀s,je s X=⟨jS 0 [.v (.one (.ptr 11 0)),.v (.agg (iL (8000*(k+1))))],(je s X).mem,X.nb⟩)
  (hpre:∀s dead,ql (rt1 X (8000*k) (wr .i64 (8000*k+8000)) st) .normal [false] (ju [0,8,14] ((rt1 X (8000*k) (wr .i64 (8000*k+8000)) st).mem.map (·.1)) (qe (xQ Tryz.prog GC ⟨false,false,false⟩ ((xL (c1 rtZ)).toList.take 10) ((je s (rt0 X (8000*k) st)).st 37 dead []))))=some ([],Kv (rt1 X (8000*k) (wr .i64 (8000*k+8000)) st)))
  (hK:∀s,KstOK (je s X)) (hP:∀s,KstOK (je s (rt1 X (8000*k) (8000*(k+1)) st))) (hXn:Nat.ble X.nb X.nb=true) (h28:∀s,getM (je s X).mem 28=none)
  (hYl:∀e s,je s (Y e)=⟨[(0,.v (.one (.ptr 11 0))),(4,.v (.one (.int .i64 v))),(5,I 0)],(je s (Y e)).mem,60⟩)
  (hKY:∀e,Q e→∀s,KstOK (je s (Y e))) (hY28:∀e s,getM (je s (Y e)).mem 28=none)
  (hsuf:∀e s dead,ql (rt2 (Y e) (8000*k) st v) .normal [] (ju [0,2,3] ((rt2 (Y e) (8000*k) st v).mem.map (·.1)) (qe (Yq Tryz.prog GC ⟨false,false,false⟩ (xL (c1 rtZ)).toList 10 ((rtC (Y e) s (8000*k) st v).st 37 dead []))))=some ([],Kv (rt2 (Y e) (8000*k) st v)))
  (s:Asg):ToP Tryz.prog 37 rtZ (je s (rt0 X (8000*k) st)) .normal (fun y=>∃e,Q e∧∃s,y=⟨[],Jr (8000*(k+1)) (wr .i64 (st+v))++(je s (Y e)).mem,60⟩):=by
 have eT:wr .i64 (8000*k+8000)=8000*(k+1):=by rw [Go.Lr.w1 (by omega)];omega
 have hd:∀(L st:Int) i b,getM (Jr L st) i=some b→i<60∧okL (below 60) b.cells=true:=fun L st i b hb=>by
  obtain rfl:=J7 (by rw [hb];rfl)
  cases hb
  exact ⟨by decide,by kernel_rfl⟩
 have hu:∀L st:Int,uniq (Jr L st):=fun L st=>⟨rfl,trivial⟩
 have hl:∀e,Q e→∀s (live:List (Nat×LV)),kE 60 live=true→KstOK ⟨live,(je s (Y e)).mem,60⟩:=fun e he s live a=>by
  have h:=hKY e he s
  rw [hYl e s] at h
  obtain ⟨a1,a2,a3⟩:=yb a
  exact ⟨a1,a2,a3,h.okM,h.uq⟩
 have hC:∀e,Q e→∀s (live:List (Nat×LV)),kE 60 live=true→∀L st:Int,KstOK ⟨live,(je s (Y e)).mem++Jr L st,60⟩:=fun e he s live a L st=>
  KstOK.beside (x:=⟨live,(je s (Y e)).mem,60⟩) (hl e he s live a) (hd L st) (hu L st) fun i hi=>by
   obtain rfl:=J7 hi
   exact hY28 e s
 refine ToP.seq (by kernel_rfl) (B:=fun y=>∃e,Q e∧jA (rt2 (Y e) (8000*k) st v) y) (ToP.draw (by kernel_rfl) fun id=> ?_) ?_
 ·refine ToP.drawCall3 (m:=10) (z:=⟨false,false,false⟩) (dec:=[]) (mask:=[false]) (os:=[]) (p:=rt1 X (8000*k) (wr .i64 (8000*k+8000)) st) (C:=fun y=>∃e,Q e∧∃s,y=rtC (Y e) s (8000*k) st v) soundGC (by kernel_rfl) (by kernel_rfl) (by kernel_rfl) (by kernel_rfl) (by kernel_rfl) (hpre s) jd (ke _) (by rw [eT];exact hP) hXn ?_ ?_
  ·rw [eT]
   intro s
   have hm:(je s (rt1 X (8000*k) (8000*(k+1)) st)).mem=(je s X).mem++Jr (8000*k) st:=Z6 s X.mem [drv (8000*k) st]
   have h:=himu s
   have hK:=hK s
   rw [hX s] at h hK
   refine (ToO.callK (sz:=37) (c:=imZ) (A:=je s (rt1 X (8000*k) (8000*(k+1)) st)) (t:=15) (f:=11) (args:=[.v (.one (.ptr 11 0)),.v (.agg (iL (8000*(k+1))))]) (e:= .ret) (v:=fun _=> .tup [.one (.int .i64 v),.one (.int .i64 0)]) (B:=fun y=>∃x,(∃e,Q e∧jA (Y e) x)∧y=⟨x.live,x.mem++Jr (8000*k) st,x.nb⟩) soundGC [0] (fun dead=>by kernel_rfl) Tryz.func11 (by kernel_rfl) (by kernel_rfl) (by kernel_rfl) (by kernel_rfl) ?_ (.inr rfl) ?_ ?_).mono ?_
   ·rw [hm]
    refine ToP.frame h hK (fun i hi=> ?_) (fun x hx i hi=> ?_) (fun x hx=> ?_)
    ·obtain rfl:=J7 hi
     exact h28 s
    ·obtain ⟨e,he,s',rfl⟩:=hx
     obtain rfl:=J7 hi
     exact hY28 e s'
    ·obtain ⟨e,he,s',rfl⟩:=hx
     rw [hYl e s']
     exact hC e he s' _ (by kernel_rfl) _ _
   ·rintro y ⟨x,⟨e,he,s',rfl⟩,rfl⟩ dead
    rw [hYl e s']
    kernel_rfl
   ·rintro y ⟨x,⟨e,he,s',rfl⟩,rfl⟩
    rw [hYl e s']
    exact hC e he s' _ (by kernel_rfl) _ _
   ·rintro z ⟨y,⟨x,⟨e,he,s',rfl⟩,rfl⟩,rfl⟩
    refine ⟨e,he,s', ?_⟩
    rw [hYl e s']
    kernel_rfl
  ·rintro x ⟨e,he,s,rfl⟩
   refine ⟨rt2 (Y e) (8000*k) st v,[],[],[],_,fun dead=>hsuf e s dead,jd,ke _,fun s=> ?_,Nat.le_refl 60,fun y hy=>⟨e,he,hy⟩⟩
   refine KstOK.beside (x:=⟨[(0,.v (.one (.ptr 28 0))),(2,.v (.one (.int .i64 v))),(3,I 0)],Jr (8000*k) st,60⟩) (jI (by kernel_rfl)) (hl e he s [] rfl).okM (hl e he s [] rfl).uq fun i hi=> ?_
   cases h6:getM (Jr (8000*k) st) i with
   | none=>rfl
   | some y=>
    obtain rfl:=J7 (by rw [h6];rfl)
    rw [show getM (z4 s (Y e).mem) 28=none from hY28 e s] at hi
    cases hi
 ·rintro x ⟨e,he,s,rfl⟩
  refine (ToP.beside (m:=Jr (8000*k) st) (m2:=(je s (Y e)).mem) (jpF (8000*k) st v) ?_).mono ?_
  ·rintro x ⟨s',rfl⟩
   exact ⟨jI (by kernel_rfl),rfl,fun i hi=>by obtain rfl:=J7 (L:=wr .i64 (8000*k+8000)) (st:=wr .i64 (st+v)) hi;rfl⟩
  ·rintro y ⟨x,⟨s',rfl⟩,rfl⟩
   refine ⟨e,he,s, ?_⟩
   rw [←eT]
   rfl
end Go.Proofs.YtbpfipbhaagllaaGreat

/- TopNow: Push on outputs of unknown number (they lie in block 30). -/
namespace Go.Proofs.YtbpfipbhaagllaaGreat
open Go.Lr
set_option maxRecDepth 100000
noncomputable abbrev jq0:Code:=jj Tryz.prog 27
def Xg (f:Nat→Int) (g:Nat→Bool) (n:Nat) (live:List (Nat×PV2)) (o m:Nat) (cs:List At) (nb:Nat):PS2:=
 ⟨live,nM f g qO (nzv 29 n) (.raw (.slv o m)) [(o,⟨38,(0,0),11,[],some cs⟩)],nb⟩
def jq1 (f:Nat→Int) (g:Nat→Bool) (n m:Nat) (cs:List At) (T:Int):PS2:=
 Xg f g n [nzp 0 21 0,nzp 1 11 72,(2,.agg (rq 24 (qH))),(3,.agg [qS T,qI 8000,qI 0,qI 0,qI 0,qI 0,qI 0,qI (-84238486)])] 30 m cs 36
noncomputable def jig (f:Nat→Int) (g:Nat→Bool) (n m:Nat) (cs:List At) (T:Int) (b:Bool) (s:Asg) (dead:Nat→Go.Value):Option (Out×St):=
 Go.Lr.exec Tryz.prog GC ⟨false,false,false⟩ 20000 (.code jq0) ((je s (jq1 f g n m cs T)).st 77 dead [some false,none,none,none,none,none,none,some false,some b])
noncomputable def YJ (f:Nat→Int) (g:Nat→Bool) (n m:Nat) (cs:List At) (T:Int) (b:Bool) (s:Asg) (dead:Nat→Go.Value):List At:=XG (cs.take (m*11)) (yI 52 (jig f g n m cs T b s dead))
noncomputable def jq2 (f:Nat→Int) (g:Nat→Bool) (n m:Nat) (cs:List At) (T:Int) (s:Asg) (dead:Nat→Go.Value):List At:=XG [] (((YJ f g n m cs T true s dead).drop 11).take (m*11))
section
variable {f:Nat→Int} {g:Nat→Bool} {n m:Nat} {cs:List At} {T:Int}
theorem jpp (s:Asg) (dead:Nat→Go.Value):(j8 (yI 52 (jig f g n m cs T false s dead)),(yI 52 (jig f g n m cs T false s dead)).length,intAt (yI 52 (jig f g n m cs T false s dead)) 0)=(true,11,T):=by kernel_rfl
theorem jjN (s:Asg) (dead:Nat→Go.Value):(j8 (yI 52 (jig f g n m cs T true s dead)),(yI 52 (jig f g n m cs T true s dead)).length,intAt (yI 52 (jig f g n m cs T true s dead)) 0)=(true,11,T):=by kernel_rfl
def jq3 (f:Nat→Int) (m:Nat) (cs:List At) (T:Int) (b:Bool):List (Bool×Bool):=
 [(decide (((m+1:Nat):Int)>f 600),b),(Nat.ble ((m+1)*89) 140737488355328&&true,true),(decide (m*11≤cs.length),true),(decide (T≤intAt cs ((wr .i64 ((m:Int) - 1)).toNat*11)),false),(jV cs ((wr .i64 ((m:Int) - 1)).toNat*11) 11&&decide (11≠0),true),(decide (0≤wr .i64 ((m:Int) - 1))&&decide (wr .i64 ((m:Int) - 1)<(m:Int)),true),(((m:Int)==0),false)]
theorem jpq (s:Asg) (dead:Nat→Go.Value):
  ql (Xg f g n [nzi 8 0] 40 (m+1) (YJ f g n m cs T false s dead) (40+1)) .ret (Xr 7 []) (ju [8] [11,18,19,20,21,22,23,24,25,26,27,40] (jig f g n m cs T false s dead)) =
   some (jq3 f m cs T false,Kv (Xg f g n [nzi 8 0] 40 (m+1) (YJ f g n m cs T false s dead) (40+1))):=by kernel_rfl
theorem jpr (s:Asg) (dead:Nat→Go.Value):
  ql (Xg f g n [nzi 8 0] 43 (0+m) (jq2 f g n m cs T s dead) (43+1)) .ret (Xr 1 (jq9 1 (Xr 9 []))) (ju [8] [11,18,19,20,21,22,23,24,25,26,27,43] (jig f g n m cs T true s dead)) =
   some ((Nat.ble ((0+m)*89) 140737488355328&&Nat.ble 1 m,true)::(decide (m*11≤((YJ f g n m cs T true s dead).drop 11).length)&&kK (((YJ f g n m cs T true s dead).drop 11).take (m*11)),true)::(decide (0+1≤m+1)&&decide ((YJ f g n m cs T true s dead).length=(m+1)*11),true)::jq3 f m cs T true,Kv (Xg f g n [nzi 8 0] 43 (0+m) (jq2 f g n m cs T s dead) (43+1))):=by kernel_rfl
theorem jfX {T0:Int} {b:Bool} (h:OutL cs m T0) (hm:m≤32) (hT:T0<T) (hb:decide (((m+1:Nat):Int)>f 600)=b):∀c∈jq3 f m cs T b,c.1=c.2:=by
 have hp:=h.pos
 have hlen:=h.all.len
 have ew:(wr .i64 ((m:Int) - 1))=(m:Int) - 1:=Go.Lr.w1 (by omega)
 have et:((m:Int) - 1).toNat=m - 1:=by omega
 have e1:(Nat.ble ((m+1)*89) 140737488355328&&true)=true:=by rw [Kx];simp;omega
 have e2:decide (m*11≤cs.length)=true:=decide_eq_true (by omega)
 have e3:decide (T≤intAt cs ((wr .i64 ((m:Int) - 1)).toNat*11))=false:=by rw [ew,et,h.last];exact decide_eq_false (by omega)
 have e4:(jV cs ((wr .i64 ((m:Int) - 1)).toNat*11) 11&&decide (11≠0))=true:=by rw [ew,et,h.all.areI 11 _ (by omega)];rfl
 have e5:(decide (0≤wr .i64 ((m:Int) - 1))&&decide (wr .i64 ((m:Int) - 1)<(m:Int)))=true:=by rw [ew];simp;omega
 have e6:((m:Int)==0)=false:=by simp;omega
 intro c hc
 unfold jq3 at hc
 rw [hb,e1,e2,e3,e4,e5,e6] at hc
 simp only [List.mem_cons,List.not_mem_nil,or_false] at hc
 rcases hc with rfl | rfl | rfl | rfl | rfl | rfl | rfl <;> rfl
theorem Z2 {o nb:Nat} {ds:List At} {live:List (Nat×PV2)} (hd:okL noP ds=true) (s:Asg) (h1:kE (je s (Xg f g n live o m ds nb)).nb (je s (Xg f g n live o m ds nb)).live=true) (h2:yZ (je s (Xg f g n live o m ds nb)).nb [o] (je s (Xg f g n live o m ds nb)).mem=true)
  (h3:getM (je s (Xg f g n live o m ds nb)).mem o=some ⟨38,(0,0),11,ds⟩):KstOK (je s (Xg f g n live o m ds nb)):=
 q8 [o] h1 h2 fun i x hx hi=>by
  simp only [List.mem_singleton] at hi
  subst hi
  rw [h3] at hx
  cases hx
  exact hd
theorem jlA {T0:Int} (h:OutL cs m T0) (hm:m≤32) (hT:T0<T) (hf:f 600=32) (s:Asg):
  ToP Tryz.prog 77 jq0 (je s (jq1 f g n m cs T)) .ret (fun y=>∃cs' m',OutL cs' m' T∧m'≤32∧jA (Xg f g n [nzi 8 0] 43 m' cs' (43+1)) y):=by
 by_cases hc:m+1≤32
 ·have hk:∀dead,OutL (YJ f g n m cs T false s dead) (m+1) T:=fun dead=>by
   have e:=jpp (f:=f) (g:=g) (n:=n) (m:=m) (cs:=cs) (T:=T) s dead
   simp only [Prod.mk.injEq] at e
   exact KW h e.1 e.2.1 e.2.2
  refine ToP.ren (ToP.runD (z:=⟨false,false,false⟩) (n:=20000) (dec:=[some false,none,none,none,none,none,none,some false,some false]) (p:=fun dead=>Xg f g n [nzi 8 0] 40 (m+1) (YJ f g n m cs T false s dead) (40+1)) soundGC (fun dead=>jpq s dead) (fun dead=>jfX h hm hT (by rw [hf];exact decide_eq_false (by omega))) (fun dead=>ke _)
   (fun dead s'=>Z2 (hk dead).all.ok s' (by kernel_rfl) (by kernel_rfl) (by kernel_rfl)) (fun dead=>Nat.le_of_ble_eq_true (by kernel_rfl))) [(40,43)] (by kernel_rfl) ?_
  rintro x ⟨dead,s',rfl⟩
  have hraw:Jx [40] (je s' (Xg f g n [nzi 8 0] 40 (m+1) (YJ f g n m cs T false s dead) (40+1))).mem:=qu (Z2 (hk dead).all.ok s' (by kernel_rfl) (by kernel_rfl) (by kernel_rfl)).uq fun i hi b hb=>by
   simp only [List.mem_singleton] at hi
   subst hi
   have e:getM (je s' (Xg f g n [nzi 8 0] 40 (m+1) (YJ f g n m cs T false s dead) (40+1))).mem 40=some ⟨38,(0,0),11,YJ f g n m cs T false s dead⟩:=by kernel_rfl
   rw [e] at hb
   cases hb
   exact (hk dead).all.ok
  have e:(⟨qF (swp [(40,43)]) (je s' (Xg f g n [nzi 8 0] 40 (m+1) (YJ f g n m cs T false s dead) (40+1))).live,zG (swp [(40,43)]) (je s' (Xg f g n [nzi 8 0] 40 (m+1) (YJ f g n m cs T false s dead) (40+1))).mem,43+1⟩:Kst) =
    je ⟨fun b i=>if b=43 then s'.F 40 i else s'.F b i,fun b i=>if b=43 then s'.G 40 i else s'.G b i,s'.fs,s'.gs⟩ (Xg f g n [nzi 8 0] 43 (m+1) (YJ f g n m cs T false s dead) (43+1)):=by
   rw [qt hraw]
   kernel_rfl
  refine ⟨43+1,Nat.le_of_ble_eq_true (by kernel_rfl), ?_⟩
  rw [e]
  exact ⟨Z2 (hk dead).all.ok _ (by kernel_rfl) (by kernel_rfl) (by kernel_rfl),_,m+1,hk dead,hc,_,rfl⟩
 ·have hm2:m=32:=by omega
  have hk:∀dead,OutL (jq2 f g n m cs T s dead) m T:=fun dead=>by
   have e:=jjN (f:=f) (g:=g) (n:=n) (m:=m) (cs:=cs) (T:=T) s dead
   simp only [Prod.mk.injEq] at e
   exact ZX h e.1 e.2.1 e.2.2
  have hx:∀dead,OutL (YJ f g n m cs T true s dead) (m+1) T:=fun dead=>by
   have e:=jjN (f:=f) (g:=g) (n:=n) (m:=m) (cs:=cs) (T:=T) s dead
   simp only [Prod.mk.injEq] at e
   exact KW h e.1 e.2.1 e.2.2
  refine (ToP.runD (z:=⟨false,false,false⟩) (n:=20000) (dec:=[some false,none,none,none,none,none,none,some false,some true]) (p:=fun dead=>Xg f g n [nzi 8 0] 43 (0+m) (jq2 f g n m cs T s dead) (43+1)) soundGC (fun dead=>jpr s dead) (fun dead=> ?_) (fun dead=>ke _)
   (fun dead s'=>Z2 (hk dead).all.ok s' (by kernel_rfl) (by kernel_rfl) (by kernel_rfl)) (fun dead=>Nat.le_of_ble_eq_true (by kernel_rfl))).mono ?_
  ·have hl:=(hx dead).all.len
   have hl2:((YJ f g n m cs T true s dead).drop 11).length=m*11:=by rw [List.length_drop,hl];omega
   have a1:(Nat.ble ((0+m)*89) 140737488355328&&Nat.ble 1 m)=true:=by rw [Kx,Kx];simp;omega
   have a2:(decide (m*11≤((YJ f g n m cs T true s dead).drop 11).length)&&kK (((YJ f g n m cs T true s dead).drop 11).take (m*11)))=true:=by
    rw [hl2]
    simp only [Nat.le_refl,decide_true,Bool.true_and]
    refine allCell_iff.2 fun a ha=> ?_
    have:=List.all_eq_true.1 (hx dead).all.isI a (List.mem_of_mem_drop (List.mem_of_mem_take ha))
    unfold jb9 at this
    split at this
    ·rfl
    ·cases this
   have a3:(decide (0+1≤m+1)&&decide ((YJ f g n m cs T true s dead).length=(m+1)*11))=true:=by rw [hl];simp
   intro c hcm
   rw [a1,a2,a3] at hcm
   rcases List.mem_cons.1 hcm with rfl | hcm
   ·rfl
   rcases List.mem_cons.1 hcm with rfl | hcm
   ·rfl
   rcases List.mem_cons.1 hcm with rfl | hcm
   ·rfl
   exact jfX h hm hT (by rw [hf];exact decide_eq_true (by omega)) c hcm
  ·rintro y ⟨dead,hy⟩
   rw [Nat.zero_add] at hy
   exact ⟨_,m,hk dead,hm,hy⟩
end
end Go.Proofs.YtbpfipbhaagllaaGreat
