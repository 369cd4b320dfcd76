/- Joined texts. What each part proves stands ahead of it; no condition. -/
import Derived.Test.YtnlhpaidmiogbaaGreatLrM4
import Derived.Test.YtnlhpaidmiogbaaGreatLrM2

/- tri: a covariance's numbers, brought within their bounds, whatever they are. -/
namespace Go.Proofs.YtnlhpaidmiogbaaGreat
open Go.Lr
set_option linter.unusedVariables false
set_option linter.unusedSimpArgs false
set_option maxRecDepth 20000
abbrev tri0M (h:Bool) (x0 x1:List At):Mem:=[(0,flag 61 h),(1,⟨56,(0,0),0,x0⟩),(2,⟨56,(0,0),0,x1⟩)]
abbrev tri0B (h:Bool) (x0 x1:List At):List Blk:=[flag 61 h,⟨56,(0,0),0,x0⟩,⟨56,(0,0),0,x1⟩]
abbrev tri0O (h:Bool) (x0 x1:List At):List (Option Blk):=[some ⟨61,(0,0),0,[At.bool h]⟩,some ⟨56,(0,0),0,x0⟩,some ⟨56,(0,0),0,x1⟩]
theorem cnd1r (dead:Nat→Value) (h:Bool) (l z:List At) (k:Nat):projS [0,3,4,7] [0,1,2] (exec Tryz.prog S23 Zl 400 (.code (c1 (c1 (c2 (c1 (c2 (bodyF Tryz.prog 201))))))) (Kst.st ⟨[(0,A0),(3,PX 1),(4,PP 2),(7,IK k)],(tri0M h l z),3⟩ 34 dead [some true]))=some (Ex.normal,[LV.v (V1.one (At.ptr 0 0)),LV.v (V1.one (At.ptx 1 0)),LV.v (V1.one (At.ptr 2 0)),LV.v (V1.one (At.int IntKind.i64 (wr IntKind.i64 ((k:Int)+1))))],(tri0O (h||clampH (intAt l (0+276+(k:Int).toNat*1)) 1 72057594037927936) ((List.set l) (0+276+(k:Int).toNat*1) (At.int IntKind.i64 (clampV (intAt l (0+276+(k:Int).toNat*1)) 1 72057594037927936))) z),[(decide (0+276+(k:Int).toNat*1<l.length),true),(decide (0≤(k:Int))&&decide ((k:Int)<24),true),(isIntAt IntKind.i64 l (0+276+(k:Int).toNat*1),true),(decide (0≤(k:Int))&&decide ((k:Int)<24),true),(decide ((k:Int)<24),true)]):=by kernel_rfl
theorem cnd1e (dead:Nat→Value) (h:Bool) (l z:List At):projS [0,3,4] [0,1,2] (exec Tryz.prog S23 Zl 400 (.code (c1 (c1 (c2 (c1 (c2 (bodyF Tryz.prog 201))))))) (Kst.st ⟨[(0,A0),(3,PX 1),(4,PP 2),(7,IK 24)],(tri0M h l z),3⟩ 34 dead [none]))=some (Ex.exit 0,[LV.v (V1.one (At.ptr 0 0)),LV.v (V1.one (At.ptx 1 0)),LV.v (V1.one (At.ptr 2 0))],(tri0O h l z),[]):=by kernel_rfl
theorem cnd2r (dead:Nat→Value) (h:Bool) (l z:List At) (k:Nat):projS [0,3,4,20] [0,1,2] (exec Tryz.prog S23 Zl 400 (.code (c1 (c1 (c2 (c1 (c2 (c2 (bodyF Tryz.prog 201)))))))) (Kst.st ⟨[(0,A0),(3,PX 1),(4,PP 2),(20,IK k)],(tri0M h l z),3⟩ 34 dead [some true]))=some (Ex.normal,[LV.v (V1.one (At.ptr 0 0)),LV.v (V1.one (At.ptx 1 0)),LV.v (V1.one (At.ptr 2 0)),LV.v (V1.one (At.int IntKind.i64 (wr IntKind.i64 ((k:Int)+1))))],(tri0O (h||clampH (intAt l (0+0+(k:Int).toNat*1)) (-1152921504606846976) 1152921504606846976) ((List.set l) (0+0+(k:Int).toNat*1) (At.int IntKind.i64 (clampV (intAt l (0+0+(k:Int).toNat*1)) (-1152921504606846976) 1152921504606846976))) z),[(decide (0+0+(k:Int).toNat*1<l.length),true),(decide (0≤(k:Int))&&decide ((k:Int)<276),true),(isIntAt IntKind.i64 l (0+0+(k:Int).toNat*1),true),(decide (0≤(k:Int))&&decide ((k:Int)<276),true),(decide ((k:Int)<276),true)]):=by kernel_rfl
theorem cnd2e (dead:Nat→Value) (h:Bool) (l z:List At):projS [0,3,4] [0,1,2] (exec Tryz.prog S23 Zl 400 (.code (c1 (c1 (c2 (c1 (c2 (c2 (bodyF Tryz.prog 201)))))))) (Kst.st ⟨[(0,A0),(3,PX 1),(4,PP 2),(20,IK 276)],(tri0M h l z),3⟩ 34 dead [none]))=some (Ex.exit 2,[LV.v (V1.one (At.ptr 0 0)),LV.v (V1.one (At.ptx 1 0)),LV.v (V1.one (At.ptr 2 0))],(tri0O h l z),[]):=by kernel_rfl
theorem wk (k:Nat) (h:k<1000000):wr .i64 ((k:Int)+1)=((k+1:Nat):Int):=by
 show w64 ((k:Int)+1)=_
 rw [w64_in (by omega) (by omega)];omega
def cndB (s:Bool×List At×List At):Kst:=⟨[(0,A0),(3,PX 1),(4,PP 2)],(tri0M (s.1) (s.2.1) (s.2.2)),3⟩
def cnd1A (k:Nat) (s:Bool×List At×List At):Kst:=⟨[(0,A0),(3,PX 1),(4,PP 2),(7,IK k)],(tri0M (s.1) (s.2.1) (s.2.2)),3⟩
theorem cnd1Loop (h:Bool) (l z:List At) (hl:AllI l 300) (hz:AllI z 300):∃h' l',AllI l' 300∧To Tryz.prog 34 (c2 (c1 (c2 (bodyF Tryz.prog 201)))) (cnd1A 0 (h,l,z)) .normal (cndB (h',l',z)):=by
 have round:∀(k:Nat) (s:Bool×List At×List At),k<24→(AllI s.2.1 300∧s.2.2=z)→∃s',(AllI s'.2.1 300∧s'.2.2=z)∧To Tryz.prog 34 (c1 (c1 (c2 (c1 (c2 (bodyF Tryz.prog 201)))))) (cnd1A k s) .normal (cnd1A (k+1) s'):=by
  rintro k ⟨h,l,z'⟩ hk ⟨hl,rfl⟩
  have hl:AllI l 300:=hl
  refine ⟨((h||clampH (intAt l (0+276+(k:Int).toNat*1)) 1 72057594037927936),(List.set l) (0+276+(k:Int).toNat*1) (At.int IntKind.i64 (clampV (intAt l (0+276+(k:Int).toNat*1)) 1 72057594037927936)),z'),⟨hl.set _ _,rfl⟩,To.run (z:=Zl) sound23 (slots:=[0,3,4,7]) (blks:=[0,1,2]) (vs:=[A0,PX 1,PP 2,IK (k+1)]) (bs:=(tri0B ((h||clampH (intAt l (0+276+(k:Int).toNat*1)) 1 72057594037927936)) ((List.set l) (0+276+(k:Int).toNat*1) (At.int IntKind.i64 (clampV (intAt l (0+276+(k:Int).toNat*1)) 1 72057594037927936))) z')) (nbB:=3) (fun dead=>cnd1r dead h l z' k) rfl (by rw [wk k (by omega)];rfl) rfl ?_ (kstOK_of rfl (memOKc (Nat.lt_of_sub_eq_succ rfl) rfl rfl (memOKc (Nat.lt_of_sub_eq_succ rfl) ((hl.set _ _).okb _) rfl (memOKc (Nat.lt_of_sub_eq_succ rfl) (hz.okb _) rfl memOK0)))) (Nat.le_refl _)⟩
  have hll:=hl.len
  repeat' first | exact ae_nil | apply ae_cons
  all_goals first
   | exact decide_eq_true (by simp only [Int.toNat_natCast];omega)
   | exact hl.ats _ (by simp only [Int.toNat_natCast];omega)
   | (simp only [Bool.and_eq_true,decide_eq_true_eq];omega)
 have last:∀(s:Bool×List At×List At),(AllI s.2.1 300∧s.2.2=z)→To Tryz.prog 34 (c1 (c1 (c2 (c1 (c2 (bodyF Tryz.prog 201)))))) (cnd1A 24 s) (.exit 0) (cndB s):=by
  rintro ⟨h,l,z'⟩ ⟨hl,rfl⟩
  exact To.exec (z:=Zl) sound23 (slots:=[0,3,4]) (blks:=[0,1,2]) (vs:=[A0,PX 1,PP 2]) (bs:=(tri0B h l z')) (nbB:=3) (fun dead=>cnd1e dead h l z') ae_nil (kstOK_of rfl (memOKc (Nat.lt_of_sub_eq_succ rfl) rfl rfl (memOKc (Nat.lt_of_sub_eq_succ rfl) (hl.okb _) rfl (memOKc (Nat.lt_of_sub_eq_succ rfl) (hz.okb _) rfl memOK0)))) (Nat.le_refl _)
 obtain ⟨⟨h',l',z'⟩,⟨h1,h2⟩,h3⟩:=loop_up (id:=0) (B:=cndB) (by kernel_rfl) (by kernel_rfl) round last (h,l,z) ⟨hl,rfl⟩
 simp only at h1 h2
 subst h2
 exact ⟨h',l',h1,h3⟩
def cnd2A (k:Nat) (s:Bool×List At×List At):Kst:=⟨[(0,A0),(3,PX 1),(4,PP 2),(20,IK k)],(tri0M (s.1) (s.2.1) (s.2.2)),3⟩
theorem cnd2Loop (h:Bool) (l z:List At) (hl:AllI l 300) (hz:AllI z 300):∃h' l',AllI l' 300∧To Tryz.prog 34 (c2 (c1 (c2 (c2 (bodyF Tryz.prog 201))))) (cnd2A 0 (h,l,z)) .normal (cndB (h',l',z)):=by
 have round:∀(k:Nat) (s:Bool×List At×List At),k<276→(AllI s.2.1 300∧s.2.2=z)→∃s',(AllI s'.2.1 300∧s'.2.2=z)∧To Tryz.prog 34 (c1 (c1 (c2 (c1 (c2 (c2 (bodyF Tryz.prog 201))))))) (cnd2A k s) .normal (cnd2A (k+1) s'):=by
  rintro k ⟨h,l,z'⟩ hk ⟨hl,rfl⟩
  have hl:AllI l 300:=hl
  refine ⟨((h||clampH (intAt l (0+0+(k:Int).toNat*1)) (-1152921504606846976) 1152921504606846976),(List.set l) (0+0+(k:Int).toNat*1) (At.int IntKind.i64 (clampV (intAt l (0+0+(k:Int).toNat*1)) (-1152921504606846976) 1152921504606846976)),z'),⟨hl.set _ _,rfl⟩,To.run (z:=Zl) sound23 (slots:=[0,3,4,20]) (blks:=[0,1,2]) (vs:=[A0,PX 1,PP 2,IK (k+1)]) (bs:=(tri0B ((h||clampH (intAt l (0+0+(k:Int).toNat*1)) (-1152921504606846976) 1152921504606846976)) ((List.set l) (0+0+(k:Int).toNat*1) (At.int IntKind.i64 (clampV (intAt l (0+0+(k:Int).toNat*1)) (-1152921504606846976) 1152921504606846976))) z')) (nbB:=3) (fun dead=>cnd2r dead h l z' k) rfl (by rw [wk k (by omega)];rfl) rfl ?_ (kstOK_of rfl (memOKc (Nat.lt_of_sub_eq_succ rfl) rfl rfl (memOKc (Nat.lt_of_sub_eq_succ rfl) ((hl.set _ _).okb _) rfl (memOKc (Nat.lt_of_sub_eq_succ rfl) (hz.okb _) rfl memOK0)))) (Nat.le_refl _)⟩
  have hll:=hl.len
  repeat' first | exact ae_nil | apply ae_cons
  all_goals first
   | exact decide_eq_true (by simp only [Int.toNat_natCast];omega)
   | exact hl.ats _ (by simp only [Int.toNat_natCast];omega)
   | (simp only [Bool.and_eq_true,decide_eq_true_eq];omega)
 have last:∀(s:Bool×List At×List At),(AllI s.2.1 300∧s.2.2=z)→To Tryz.prog 34 (c1 (c1 (c2 (c1 (c2 (c2 (bodyF Tryz.prog 201))))))) (cnd2A 276 s) (.exit 2) (cndB s):=by
  rintro ⟨h,l,z'⟩ ⟨hl,rfl⟩
  exact To.exec (z:=Zl) sound23 (slots:=[0,3,4]) (blks:=[0,1,2]) (vs:=[A0,PX 1,PP 2]) (bs:=(tri0B h l z')) (nbB:=3) (fun dead=>cnd2e dead h l z') ae_nil (kstOK_of rfl (memOKc (Nat.lt_of_sub_eq_succ rfl) rfl rfl (memOKc (Nat.lt_of_sub_eq_succ rfl) (hl.okb _) rfl (memOKc (Nat.lt_of_sub_eq_succ rfl) (hz.okb _) rfl memOK0)))) (Nat.le_refl _)
 obtain ⟨⟨h',l',z'⟩,⟨h1,h2⟩,h3⟩:=loop_up (id:=2) (B:=cndB) (by kernel_rfl) (by kernel_rfl) round last (h,l,z) ⟨hl,rfl⟩
 simp only at h1 h2
 subst h2
 exact ⟨h',l',h1,h3⟩
theorem cnd0 (dead:Nat→Value) (h:Bool) (p:List At):projS [0,3,4] [0,1,2] (execL Tryz.prog S23 Zl 400 (spineL 1 (bodyF Tryz.prog 201)) (Kst.st ⟨argsL 0 [A0,.v (.agg (intsAt p 0 300))],[(0,flag 61 h)],1⟩ 34 dead []))=some (.normal,[A0,PP 1,PP 2],[some (flag 61 h),some ⟨56,(0,0),0,intsAt p 0 300⟩,some ⟨56,(0,0),0,zc 56⟩],[]):=by kernel_rfl
theorem zcCov:AllI (zc 56) 300:=allIB_ok (by kernel_rfl)
theorem cnd1i (dead:Nat→Value) (h:Bool) (l z:List At):projS [0,3,4,7] [0,1,2] (exec Tryz.prog S23 Zl 400 (.code (c1 (c1 (c2 (bodyF Tryz.prog 201))))) (Kst.st ⟨[(0,A0),(3,PX 1),(4,PP 2)],(tri0M h l z),3⟩ 34 dead []))=some (.normal,[A0,PX 1,PP 2,IK 0],[some (flag 61 h),some ⟨56,(0,0),0,l⟩,some ⟨56,(0,0),0,z⟩],[]):=by kernel_rfl
theorem cnd2i (dead:Nat→Value) (h:Bool) (l z:List At):projS [0,3,4,20] [0,1,2] (exec Tryz.prog S23 Zl 400 (.code (c1 (c1 (c2 (c2 (bodyF Tryz.prog 201)))))) (Kst.st ⟨[(0,A0),(3,PX 1),(4,PP 2)],(tri0M h l z),3⟩ 34 dead []))=some (.normal,[A0,PX 1,PP 2,IK 0],[some (flag 61 h),some ⟨56,(0,0),0,l⟩,some ⟨56,(0,0),0,z⟩],[]):=by kernel_rfl
theorem cnd3 (dead:Nat→Value) (h:Bool) (l:List At):projS [4] [0,2] (exec Tryz.prog S23 Zl 400 (.code (c2 (c2 (c2 (bodyF Tryz.prog 201))))) (Kst.st ⟨[(0,A0),(3,PX 1),(4,PP 2)],(tri0M h l (zc 56)),3⟩ 34 dead []))=some (.ret,[PP 2],[some (flag 61 h),some ⟨56,(0,0),0,intsAt l 0 300⟩],[(areInts l 0 300&&decide (300≠0),true)]):=by kernel_rfl
theorem okM3 (h:Bool) {l z:List At} (hl:AllI l 300) (hz:AllI z 300):memOKb 3 (tri0M h l z)=true:=
 memOKc (Nat.lt_of_sub_eq_succ rfl) rfl rfl (memOKc (Nat.lt_of_sub_eq_succ rfl) (hl.okb _) rfl (memOKc (Nat.lt_of_sub_eq_succ rfl) (hz.okb _) rfl memOK0))
theorem condTo (h:Bool) (p:List At) (hp:AllI p 300):∃l h',AllI l 300∧ExA Tryz.prog 201 61 [.v (.agg p)] h (.v (.agg l)) h':=by
 rw [hp.eq]
 have hp0:=AllI.ints p 0 300
 obtain ⟨h1,l1,hl1,t1⟩:=cnd1Loop h (intsAt p 0 300) (zc 56) hp0 zcCov
 obtain ⟨h2,l2,hl2,t2⟩:=cnd2Loop h1 l1 (zc 56) hl1 zcCov
 refine ⟨intsAt l2 0 300,h2,AllI.ints _ _ _,acc_of_To (B:=⟨[4].zip [PP 2],[0,2].zip [flag 61 h2,⟨56,(0,0),0,intsAt l2 0 300⟩],3⟩) (e:= .ret) (c:=bodyF Tryz.prog 201) Tryz.func201 (by kernel_rfl) (Nat.le_of_ble_eq_true (by kernel_rfl)) (Nat.le_of_ble_eq_true (by kernel_rfl)) (plainVs_iff.2 fun v hv=> ?_) ?_ (.inr rfl) (fun dead=>by kernel_rfl) ((AllI.ints l2 0 300).ok) rfl⟩
 ·rw [List.mem_singleton] at hv;subst hv;exact hp0.ok
 ·refine To.spine (z:=Zl) sound23 (k:=1) (slots:=[0,3,4]) (blks:=[0,1,2]) (vs:=[A0,PP 1,PP 2]) (bs:=(tri0B h (intsAt p 0 300) (zc 56))) (nbB:=3) (by kernel_rfl) (fun dead=>cnd0 dead h p) ae_nil (kstOK_of rfl (okM3 h hp0 zcCov)) (Nat.lt_of_sub_eq_succ rfl) ?_
  refine To.pre (B:=⟨[(0,A0),(3,PX 1),(4,PP 2)],(tri0M h (intsAt p 0 300) (zc 56)),3⟩) ?_ (kstOK_of rfl (okM3 h hp0 zcCov)) (fun q hq=> ?_) rfl rfl
  ·refine To.seq (B:=cndB (h1,l1,zc 56)) (by kernel_rfl) (To.seq (by kernel_rfl) (To.exec (z:=Zl) sound23 (slots:=[0,3,4,7]) (blks:=[0,1,2]) (vs:=[A0,PX 1,PP 2,IK 0]) (bs:=(tri0B h (intsAt p 0 300) (zc 56))) (nbB:=3) (fun dead=>cnd1i dead h _ _) ae_nil (kstOK_of rfl (okM3 h hp0 zcCov)) (Nat.le_refl _)) t1) ?_
   refine To.seq (B:=cndB (h2,l2,zc 56)) (by kernel_rfl) (To.seq (by kernel_rfl) (To.exec (z:=Zl) sound23 (slots:=[0,3,4,20]) (blks:=[0,1,2]) (vs:=[A0,PX 1,PP 2,IK 0]) (bs:=(tri0B h1 l1 (zc 56))) (nbB:=3) (fun dead=>cnd2i dead h1 _ _) ae_nil (kstOK_of rfl (okM3 h1 hl1 zcCov)) (Nat.le_refl _)) t2) ?_
   exact To.exec (z:=Zl) sound23 (slots:=[4]) (blks:=[0,2]) (vs:=[PP 2]) (bs:=[flag 61 h2,⟨56,(0,0),0,intsAt l2 0 300⟩]) (nbB:=3) (fun dead=>cnd3 dead h2 l2) (ae_cons (by rw [hl2.areI 300 0 (Nat.le_refl _)];rfl) ae_nil) (kstOK_of rfl (memOKc (Nat.lt_of_sub_eq_succ rfl) rfl rfl (memOKc (Nat.lt_of_sub_eq_succ rfl) ((AllI.ints l2 0 300).okb _) rfl memOK0))) (Nat.le_refl _)
  ·simp only [List.mem_cons,List.not_mem_nil,or_false] at hq
   rcases hq with rfl | rfl | rfl
   ·exact ⟨A0,by simp,fun _=>rfl⟩
   ·exact ⟨PP 1,by simp,fun _=>rfl⟩
   ·exact ⟨PP 2,by simp,fun _=>rfl⟩
def isCov:LV→Bool
 | .v (.agg l)=>allIB l 300
 | _=>false
noncomputable def condS:List LV→Bool→Option (LV×Bool×List (Bool×Bool)):=exF Tryz.prog 201 61 (fun args=>match args with | [p]=>isCov p | _=>false) 300
theorem isCov_spec {v:LV} (h:isCov v=true):∃l,v = .v (.agg l)∧AllI l 300:=by
 unfold isCov at h
 split at h
 ·exact ⟨_,rfl,allIB_ok h⟩
 ·cases h
theorem sumCond:SumOK Tryz.prog 201 (accSum 61 condS):=by
 refine exF_ok (own_of sound23 Tryz.func201 (by kernel_rfl)) fun args hb hok _=> ?_
 split at hok
 ·obtain ⟨l,rfl,hl⟩:=isCov_spec hok
  exact condTo hb l hl
 ·cases hok
end Go.Proofs.YtnlhpaidmiogbaaGreat

/- tri.place: its summary. -/
namespace Go.Proofs.YtnlhpaidmiogbaaGreat
open Go.Lr
set_option linter.unusedVariables false
set_option linter.unusedSimpArgs false
set_option maxRecDepth 20000
def plV (i j:Int):Int:=wr .i64 (wr .i64 ((wr .i64 (j*wr .i64 (j - 1))).tdiv 2)+i)
def plcS:List LV→Option (LV×List (Bool×Bool))
 | [.v (.one (.int .i64 i)),.v (.one (.int .i64 j))]=>some (.tup [.one (.int .i64 (plV i j)),.one (.bool true)],[(decide (0≤i),true),(decide (i<j),true),(decide (j<24),true)])
 | _=>none
theorem plcR (i j:Int):(runF Tryz.prog S23 Za 400 234 [.v (.one (.int .i64 i)),.v (.one (.int .i64 j))] [] 0 []).map (fun r=>(r.1,r.2.2.2))=some (LV.tup [V1.one (At.int IntKind.i64 (plV i j)),V1.one (At.bool (decide (j<24)))],[(decide (i<j),true),(decide (i<j),true),(decide (i<j),true),(decide (i≥0),true),(decide (i≥0),true),(decide (i≥0),true),(decide (i≥0),true)]):=by kernel_rfl
theorem sumPlc:SumOK Tryz.prog 234 (pureSum plcS):=by
 refine pureSum_run (z:=Za) sound23 (own_of sound23 Tryz.func234 (by kernel_rfl)) fun args v cs hF hc=> ?_
 unfold plcS at hF
 split at hF
 ·rename_i i j
  cases hF
  have h1:=hd_of hc
  have h2:=hd_of (tl_of hc)
  have h3:=hd_of (tl_of (tl_of hc))
  have hr:=plcR i j
  rw [h3] at hr
  exact ⟨400,[],_,hr,ae_cons h2 (ae_cons h2 (ae_cons h2 (ae_cons h1 (ae_cons h1 (ae_cons h1 (ae_cons h1 ae_nil))))))⟩
 ·cases hF
noncomputable def KA0:FuncId→Option SumK:=more (more S23 201 (accSum 61 condS)) 234 (pureSum plcS)
theorem soundKA0:Sound Tryz.prog KA0:=(sound23.more sumCond).more sumPlc
def plT (i j:Nat):Nat:=j*(j - 1)/2+i
theorem plV_nat (i j:Nat) (h1:i<j) (h2:j<24):plV i j=(plT i j:Int)∧plT i j<276:=by
 have h:∀j:Fin 24,∀i:Fin 24,i.val<j.val→plV (i.val:Int) (j.val:Int)=(plT i.val j.val:Int)∧plT i.val j.val<276:=by decide +kernel
 exact h ⟨j,h2⟩ ⟨i,by omega⟩ h1
end Go.Proofs.YtnlhpaidmiogbaaGreat

/- tri.U, tri.Set: their summaries. -/
namespace Go.Proofs.YtnlhpaidmiogbaaGreat
open Go.Lr
set_option linter.unusedVariables false
set_option linter.unusedSimpArgs false
set_option maxRecDepth 20000
theorem plV_int {i j:Int} (h0:0≤i) (h1:i<j) (h2:j<24):0≤plV i j∧plV i j<276:=by
 obtain ⟨a,rfl⟩:=Int.eq_ofNat_of_zero_le h0
 obtain ⟨b,rfl⟩:=Int.eq_ofNat_of_zero_le (show 0≤j by omega)
 obtain ⟨e1,e2⟩:=plV_nat a b (by omega) (by omega)
 show 0≤plV (a:Int) (b:Int)∧plV (a:Int) (b:Int)<276
 rw [e1];omega
theorem triU0 (dead:Nat→Value) (l:List At) (i j:Int):projS [1,2,3] [0] (execL Tryz.prog KA0 Zl 400 (spineL 1 (bodyF Tryz.prog 233)) (Kst.st ⟨argsL 0 [.v (.agg (intsAt l 0 300)),I i,I j],[],0⟩ 32 dead []))=some (.normal,[I i,I j,PP 0],[some ⟨56,(0,0),0,intsAt l 0 300⟩],[]):=by kernel_rfl
theorem triU1 (dead:Nat→Value) (l:List At) (i j:Int):projS [6] [0] (exec Tryz.prog KA0 Za 400 (.code (c2 (bodyF Tryz.prog 233))) (Kst.st ⟨[(1,I i),(2,I j),(3,PX 0)],[(0,⟨56,(0,0),0,l⟩)],1⟩ 32 dead [some true]))=some (Ex.ret,[I 1073741824],[some ⟨56,(0,0),0,l⟩],[(decide (i<24),true),(decide (i≥0),true),(decide (i≥0),true),(decide (i≥0),true),(i==j,true),(i==j,true),(i==j,true)]):=by kernel_rfl
theorem triU2 (dead:Nat→Value) (l:List At) (i j:Int):projS [6] [0] (exec Tryz.prog KA0 Zl 400 (.code (c2 (bodyF Tryz.prog 233))) (Kst.st ⟨[(1,I i),(2,I j),(3,PX 0)],[(0,⟨56,(0,0),0,l⟩)],1⟩ 32 dead [some false,some false,some false]))=some (Ex.ret,[I (intAt l (0+0+(plV i j).toNat*1))],[some ⟨56,(0,0),0,l⟩],[(isIntAt IntKind.i64 l (0+0+(plV i j).toNat*1),true),(decide (0≤plV i j)&&decide (plV i j<276),true),(decide (0≤i),true),(decide (i<j),true),(decide (j<24),true),(i==j,false),(i==j,false),(i==j,false)]):=by kernel_rfl
def triUS:List LV→Option (LV×List (Bool×Bool))
 | [.v (.agg l),.v (.one (.int .i64 i)),.v (.one (.int .i64 j))]=>match allIB l 300 with
  | true=>some (I (bif i==j then 1073741824 else intAt l (0+0+(plV i j).toNat*1)),[(decide (0≤i),true),(decide (i≤j),true),(decide (j<24),true)])
  | false=>none
 | _=>none
theorem m1OK {l:List At} (hl:AllI l 300):memOKb 1 [(0,⟨56,(0,0),0,l⟩)]=true:=memOKc (Nat.lt_of_sub_eq_succ rfl) (hl.okb _) rfl memOK0
theorem sumTriU:SumOK Tryz.prog 233 (pureSum triUS):=by
 refine pureSum_ok' fun args v cs hF hc hp hv w=> ?_
 unfold triUS at hF
 split at hF
 ·rename_i l i j
  split at hF
  ·rename_i hl
   have hl:=allIB_ok hl
   cases hF
   have h1:0≤i:=of_decide_eq_true (hd_of hc)
   have h2:i≤j:=of_decide_eq_true (hd_of (tl_of hc))
   have h3:j<24:=of_decide_eq_true (hd_of (tl_of (tl_of hc)))
   have hp0:=AllI.ints l 0 300
   have e0:intAt l=intAt (intsAt l 0 300):=by rw [←hl.eq]
   have key:∃e,(e=Ex.ret)∧To Tryz.prog 32 (bodyF Tryz.prog 233) ⟨argsL 0 [.v (.agg (intsAt l 0 300)),I i,I j],[],0⟩ e ⟨[6].zip [I (bif i==j then 1073741824 else intAt (intsAt l 0 300) (0+0+(plV i j).toNat*1))],[0].zip [⟨56,(0,0),0,intsAt l 0 300⟩],1⟩:=by
    refine ⟨_,rfl,To.spine (z:=Zl) soundKA0 (k:=1) (slots:=[1,2,3]) (blks:=[0]) (vs:=[I i,I j,PP 0]) (bs:=[⟨56,(0,0),0,intsAt l 0 300⟩]) (nbB:=1) (by kernel_rfl) (fun dead=>triU0 dead l i j) ae_nil (kstOK_of rfl (m1OK hp0)) (Nat.zero_le _) ?_⟩
    refine To.pre (B:=⟨[(1,I i),(2,I j),(3,PX 0)],[(0,⟨56,(0,0),0,intsAt l 0 300⟩)],1⟩) ?_ (kstOK_of rfl (m1OK hp0)) (fun q hq=> ?_) rfl rfl
    ·rcases bool_cases (i==j) with he | he
     ·rw [he]
      have hij:i=j:=by simpa using he
      exact To.exec (z:=Za) soundKA0 (slots:=[6]) (blks:=[0]) (vs:=[I 1073741824]) (bs:=[⟨56,(0,0),0,intsAt l 0 300⟩]) (nbB:=1) (fun dead=>triU1 dead _ i j) (by
       have a1:decide (i<24)=true:=decide_eq_true (by omega)
       have a2:decide (i≥0)=true:=decide_eq_true h1
       exact ae_cons a1 (ae_cons a2 (ae_cons a2 (ae_cons a2 (ae_cons he (ae_cons he (ae_cons he ae_nil))))))) (kstOK_of rfl (m1OK hp0)) (Nat.le_refl _)
     ·rw [he]
      have hij:i≠j:=by simpa using he
      obtain ⟨b1,b2⟩:=plV_int h1 (show i<j by omega) h3
      exact To.exec (z:=Zl) soundKA0 (slots:=[6]) (blks:=[0]) (vs:=[I (intAt (intsAt l 0 300) (0+0+(plV i j).toNat*1))]) (bs:=[⟨56,(0,0),0,intsAt l 0 300⟩]) (nbB:=1) (fun dead=>triU2 dead _ i j) (by
       refine ae_cons (hp0.ats _ (by omega)) (ae_cons (by simp only [Bool.and_eq_true,decide_eq_true_eq];omega) (ae_cons (decide_eq_true h1) (ae_cons (decide_eq_true (by omega)) (ae_cons (decide_eq_true h3) (ae_cons he (ae_cons he (ae_cons he ae_nil)))))))) (kstOK_of rfl (m1OK hp0)) (Nat.le_refl _)
    ·simp only [List.zip_cons_cons,List.zip_nil_right,List.mem_cons,List.not_mem_nil,or_false] at hq
     rcases hq with rfl | rfl | rfl
     ·exact ⟨I i,by simp,fun _=>rfl⟩
     ·exact ⟨I j,by simp,fun _=>rfl⟩
     ·exact ⟨PP 0,by simp,fun _=>rfl⟩
   obtain ⟨e,he,hT⟩:=key
   rw [e0]
   have:=pure_of_To (own_of soundKA0 Tryz.func233 (by kernel_rfl)) Tryz.func233 (c:=bodyF Tryz.prog 233) (by kernel_rfl) (Nat.le_of_ble_eq_true (by kernel_rfl)) (Nat.le_of_ble_eq_true (by kernel_rfl)) (plainVs_iff.2 fun u hu=>by
    simp only [List.mem_cons,List.not_mem_nil,or_false] at hu
    rcases hu with rfl | rfl | rfl
    ·exact hp0.ok
    ·rfl
    ·rfl) hT (.inr he) (v:=I (bif i==j then 1073741824 else intAt (intsAt l 0 300) (0+0+(plV i j).toNat*1))) (fun dead=>by kernel_rfl) rfl w
   have hle:([LV.v (V1.agg l),LV.v (V1.one (At.int .i64 i)),LV.v (V1.one (At.int .i64 j))]:List LV)=[.v (.agg (intsAt l 0 300)),I i,I j]:=by rw [←hl.eq];rfl
   rw [hle]
   exact this
  ·cases hF
 ·cases hF
theorem triS0 (dead:Nat→Value) (l:List At) (i j v:Int):projS [1,2,3,4,8] [0,1] (execL Tryz.prog KA0 Zl 400 (spineL 1 (bodyF Tryz.prog 203)) (Kst.st ⟨argsL 0 [.v (.agg (intsAt l 0 300)),I i,I j,I v],[],0⟩ 23 dead []))=some (.normal,[I i,I j,I v,PP 0,PP 1],[some ⟨56,(0,0),0,intsAt l 0 300⟩,some ⟨56,(0,0),0,zc 56⟩],[]):=by kernel_rfl
theorem triS1 (dead:Nat→Value) (l:List At) (i j v:Int):projS [4,8] [0,1] (exec Tryz.prog KA0 Zl 400 (.code (c1 (c2 (bodyF Tryz.prog 203)))) (Kst.st ⟨[(1,I i),(2,I j),(3,I v),(4,PX 0),(8,PP 1)],[(0,⟨56,(0,0),0,l⟩),(1,⟨56,(0,0),0,zc 56⟩)],2⟩ 23 dead []))=some (Ex.normal,[PX 0,PP 1],[some ⟨56,(0,0),0,l.set (0+0+(plV i j).toNat*1) (.int .i64 v)⟩,some ⟨56,(0,0),0,zc 56⟩],[(decide (0+0+(plV i j).toNat*1<l.length),true),(decide (0≤plV i j)&&decide (plV i j<276),true),(decide (0≤i),true),(decide (i<j),true),(decide (j<24),true)]):=by kernel_rfl
theorem triS2 (dead:Nat→Value) (l:List At):projS [8] [1] (exec Tryz.prog KA0 Zl 400 (.code (c2 (c2 (bodyF Tryz.prog 203)))) (Kst.st ⟨[(4,PX 0),(8,PP 1)],[(0,⟨56,(0,0),0,l⟩),(1,⟨56,(0,0),0,zc 56⟩)],2⟩ 23 dead []))=some (Ex.ret,[PP 1],[some ⟨56,(0,0),0,intsAt l 0 300⟩],[(areInts l 0 300&&decide (300≠0),true)]):=by kernel_rfl
def triSS:List LV→Option (LV×List (Bool×Bool))
 | [.v (.agg l),.v (.one (.int .i64 i)),.v (.one (.int .i64 j)),.v (.one (.int .i64 v))]=>match allIB l 300 with
  | true=>some (.v (.agg (intsAt (l.set (0+0+(plV i j).toNat*1) (.int .i64 v)) 0 300)),[(decide (0≤i),true),(decide (i<j),true),(decide (j<24),true)])
  | false=>none
 | _=>none
theorem m2OK {l z:List At} (hl:AllI l 300) (hz:AllI z 300):memOKb 2 [(0,⟨56,(0,0),0,l⟩),(1,⟨56,(0,0),0,z⟩)]=true:=memOKc (Nat.lt_of_sub_eq_succ rfl) (hl.okb _) rfl (memOKc (Nat.lt_of_sub_eq_succ rfl) (hz.okb _) rfl memOK0)
theorem sumTriS:SumOK Tryz.prog 203 (pureSum triSS):=by
 refine pureSum_ok' fun args v cs hF hc hp hv w=> ?_
 unfold triSS at hF
 split at hF
 ·rename_i l i j x
  split at hF
  ·rename_i hl
   have hl:=allIB_ok hl
   cases hF
   have h1:0≤i:=of_decide_eq_true (hd_of hc)
   have h2:i<j:=of_decide_eq_true (hd_of (tl_of hc))
   have h3:j<24:=of_decide_eq_true (hd_of (tl_of (tl_of hc)))
   have hp0:=AllI.ints l 0 300
   have hp1:=hp0.set (0+0+(plV i j).toNat*1) x
   have e0:l.set (0+0+(plV i j).toNat*1) (.int .i64 x)=(intsAt l 0 300).set (0+0+(plV i j).toNat*1) (.int .i64 x):=by rw [←hl.eq]
   obtain ⟨b1,b2⟩:=plV_int h1 h2 h3
   have hlen:=hp0.len
   have hT:To Tryz.prog 23 (bodyF Tryz.prog 203) ⟨argsL 0 [.v (.agg (intsAt l 0 300)),I i,I j,I x],[],0⟩ .ret ⟨[8].zip [PP 1],[1].zip [⟨56,(0,0),0,intsAt ((intsAt l 0 300).set (0+0+(plV i j).toNat*1) (.int .i64 x)) 0 300⟩],2⟩:=by
    refine To.spine (z:=Zl) soundKA0 (k:=1) (slots:=[1,2,3,4,8]) (blks:=[0,1]) (vs:=[I i,I j,I x,PP 0,PP 1]) (bs:=[⟨56,(0,0),0,intsAt l 0 300⟩,⟨56,(0,0),0,zc 56⟩]) (nbB:=2) (by kernel_rfl) (fun dead=>triS0 dead l i j x) ae_nil (kstOK_of rfl (m2OK hp0 zcCov)) (Nat.zero_le _) ?_
    refine To.pre (B:=⟨[(1,I i),(2,I j),(3,I x),(4,PX 0),(8,PP 1)],[(0,⟨56,(0,0),0,intsAt l 0 300⟩),(1,⟨56,(0,0),0,zc 56⟩)],2⟩) ?_ (kstOK_of rfl (m2OK hp0 zcCov)) (fun q hq=> ?_) rfl rfl
    ·refine To.seq (by kernel_rfl) (To.exec (z:=Zl) soundKA0 (slots:=[4,8]) (blks:=[0,1]) (vs:=[PX 0,PP 1]) (bs:=[⟨56,(0,0),0,(intsAt l 0 300).set (0+0+(plV i j).toNat*1) (.int .i64 x)⟩,⟨56,(0,0),0,zc 56⟩]) (nbB:=2) (fun dead=>triS1 dead _ i j x) (by
      refine ae_cons (decide_eq_true (by omega)) (ae_cons (by simp only [Bool.and_eq_true,decide_eq_true_eq];omega) (ae_cons (decide_eq_true h1) (ae_cons (decide_eq_true h2) (ae_cons (decide_eq_true h3) ae_nil))))) (kstOK_of rfl (m2OK hp1 zcCov)) (Nat.le_refl _)) ?_
     exact To.exec (z:=Zl) soundKA0 (slots:=[8]) (blks:=[1]) (vs:=[PP 1]) (bs:=[⟨56,(0,0),0,intsAt ((intsAt l 0 300).set (0+0+(plV i j).toNat*1) (.int .i64 x)) 0 300⟩]) (nbB:=2) (fun dead=>triS2 dead _) (ae_cons (by rw [hp1.areI 300 0 (Nat.le_refl _)];rfl) ae_nil) (kstOK_of rfl (memOKc (Nat.lt_of_sub_eq_succ rfl) ((AllI.ints _ 0 300).okb _) rfl memOK0)) (Nat.le_refl _)
    ·simp only [List.zip_cons_cons,List.zip_nil_right,List.mem_cons,List.not_mem_nil,or_false] at hq
     rcases hq with rfl | rfl | rfl | rfl | rfl
     ·exact ⟨I i,by simp,fun _=>rfl⟩
     ·exact ⟨I j,by simp,fun _=>rfl⟩
     ·exact ⟨I x,by simp,fun _=>rfl⟩
     ·exact ⟨PP 0,by simp,fun _=>rfl⟩
     ·exact ⟨PP 1,by simp,fun _=>rfl⟩
   rw [e0]
   generalize (intsAt l 0 300).set (0+0+(plV i j).toNat*1) (At.int .i64 x)=L at hT hp1 ⊢
   have:=pure_of_To (own_of soundKA0 Tryz.func203 (by kernel_rfl)) Tryz.func203 (c:=bodyF Tryz.prog 203) (by kernel_rfl) (Nat.le_of_ble_eq_true (by kernel_rfl)) (Nat.le_of_ble_eq_true (by kernel_rfl)) (plainVs_iff.2 fun u hu=>by
    simp only [List.mem_cons,List.not_mem_nil,or_false] at hu
    rcases hu with rfl | rfl | rfl | rfl
    ·exact hp0.ok
    ·rfl
    ·rfl
    ·rfl) hT (.inr rfl) (v:= .v (.agg (intsAt L 0 300))) (fun dead=>by kernel_rfl) (AllI.ints L 0 300).ok w
   have hle:([LV.v (V1.agg l),LV.v (V1.one (At.int .i64 i)),LV.v (V1.one (At.int .i64 j)),LV.v (V1.one (At.int .i64 x))]:List LV)=[.v (.agg (intsAt l 0 300)),I i,I j,I x]:=by rw [←hl.eq];rfl
   rw [hle]
   exact this
  ·cases hF
 ·cases hF
noncomputable def KA1:FuncId→Option SumK:=more (more KA0 233 (pureSum triUS)) 203 (pureSum triSS)
theorem soundKA1:Sound Tryz.prog KA1:=(soundKA0.more sumTriU).more sumTriS
end Go.Proofs.YtnlhpaidmiogbaaGreat

/- thornton.rows: the rounds of its loops. -/
namespace Go.Proofs.YtnlhpaidmiogbaaGreat
open Go.Lr
set_option linter.unusedVariables false
set_option linter.unusedSimpArgs false
set_option maxRecDepth 20000
abbrev rws0M (h:Bool) (x0 x1 x2 x3:List At):Mem:=[(0,flag 61 h),(2,⟨271,(0,0),0,x0⟩),(6,⟨56,(0,0),0,x1⟩),(7,⟨351,(0,0),0,x2⟩),(8,⟨47,(0,0),0,x3⟩)]
abbrev rws0B (h:Bool) (x0 x1 x2 x3:List At):List Blk:=[flag 61 h,⟨271,(0,0),0,x0⟩,⟨56,(0,0),0,x1⟩,⟨351,(0,0),0,x2⟩,⟨47,(0,0),0,x3⟩]
abbrev rws0O (h:Bool) (x0 x1 x2 x3:List At):List (Option Blk):=[some ⟨61,(0,0),0,[At.bool h]⟩,some ⟨271,(0,0),0,x0⟩,some ⟨56,(0,0),0,x1⟩,some ⟨351,(0,0),0,x2⟩,some ⟨47,(0,0),0,x3⟩]
abbrev rws1M (h:Bool) (x0 x1 x2:List At):Mem:=[(0,flag 61 h),(2,⟨271,(0,0),0,x0⟩),(6,⟨56,(0,0),0,x1⟩),(7,⟨351,(0,0),0,x2⟩)]
abbrev rws1B (h:Bool) (x0 x1 x2:List At):List Blk:=[flag 61 h,⟨271,(0,0),0,x0⟩,⟨56,(0,0),0,x1⟩,⟨351,(0,0),0,x2⟩]
abbrev rws1O (h:Bool) (x0 x1 x2:List At):List (Option Blk):=[some ⟨61,(0,0),0,[At.bool h]⟩,some ⟨271,(0,0),0,x0⟩,some ⟨56,(0,0),0,x1⟩,some ⟨351,(0,0),0,x2⟩]
theorem rwMR (dead:Nat→Value) (h:Bool) (f p w y:List At) (k m:Nat):projS [0,2,4,7,8,9,13,17,18] [0,2,6,7,8] (exec Tryz.prog KA1 Zl 400 (.code (c1 (c1 (c2 (c1 (c2 (c2 (c1 (c1 (c2 (c2 (c1 (c1 (c2 (c1 (c2 (c2 (bodyF Tryz.prog 202)))))))))))))))))) (Kst.st ⟨[(0,A0),(2,PX 2),(4,PX 6),(7,PX 7),(8,IK k),(9,PX 8),(13,IK k),(17,IK (k+1)),(18,IK m)],(rws0M h f p w y),9⟩ 54 dead [some true]))=some (Ex.normal,[LV.v (V1.one (At.ptr 0 0)),LV.v (V1.one (At.ptx 2 0)),LV.v (V1.one (At.ptx 6 0)),LV.v (V1.one (At.ptx 7 0)),LV.v (V1.one (At.int IntKind.i64 (k:Int))),LV.v (V1.one (At.ptx 8 0)),LV.v (V1.one (At.int IntKind.i64 (k:Int))),LV.v (V1.one (At.int IntKind.i64 ((k+1:Nat):Int))),LV.v (V1.one (At.int IntKind.i64 (wr IntKind.i64 ((m:Int)+1))))],(rws0O h f p w ((List.set y) (0+(m:Int).toNat*1) (At.int IntKind.i64 (bif (m:Int)==(k:Int) then 1073741824 else intAt (intsAt p 0 300) (0+0+(plV (m:Int) (k:Int)).toNat*1))))),[(decide (0+(m:Int).toNat*1<y.length),true),(decide (0≤(m:Int))&&decide ((m:Int)<24),true),(decide (0≤(m:Int)),true),(decide ((m:Int)≤(k:Int)),true),(decide ((k:Int)<24),true),(areInts p 0 300&&true,true),(decide ((m:Int)<((k+1:Nat):Int)),true)]):=by kernel_rfl
theorem rwM (h:Bool) (f p w y:List At) (k m:Nat) (hf:AllI f 576) (hp:AllI p 300) (hw:AllI w 1152) (hy:AllI y 24) (hk:k<24) (hm:m<k+1):∃ (h':Bool) (f' p' w' y':List At),AllI f' 576∧AllI p' 300∧AllI w' 1152∧AllI y' 24∧To Tryz.prog 54 (c1 (c1 (c2 (c1 (c2 (c2 (c1 (c1 (c2 (c2 (c1 (c1 (c2 (c1 (c2 (c2 (bodyF Tryz.prog 202))))))))))))))))) ⟨[(0,A0),(2,PX 2),(4,PX 6),(7,PX 7),(8,IK k),(9,PX 8),(13,IK k),(17,IK (k+1)),(18,IK m)],(rws0M h f p w y),9⟩ .normal ⟨[(0,A0),(2,PX 2),(4,PX 6),(7,PX 7),(8,IK k),(9,PX 8),(13,IK k),(17,IK (k+1)),(18,IK (m+1))],(rws0M h' f' p' w' y'),9⟩:=by
 refine ⟨(h),(f),(p),(w),((List.set y) (0+(m:Int).toNat*1) (At.int IntKind.i64 (bif (m:Int)==(k:Int) then 1073741824 else intAt (intsAt p 0 300) (0+0+(plV (m:Int) (k:Int)).toNat*1)))),(by repeat' first | assumption | apply AllI.set),(by repeat' first | assumption | apply AllI.set),(by repeat' first | assumption | apply AllI.set),(by repeat' first | assumption | apply AllI.set),To.run (z:=Zl) soundKA1 (slots:=[0,2,4,7,8,9,13,17,18]) (blks:=[0,2,6,7,8]) (vs:=[A0,PX 2,PX 6,PX 7,IK k,PX 8,IK k,IK (k+1),IK (m+1)]) (bs:=(rws0B (h) f p w ((List.set y) (0+(m:Int).toNat*1) (At.int IntKind.i64 (bif (m:Int)==(k:Int) then 1073741824 else intAt (intsAt p 0 300) (0+0+(plV (m:Int) (k:Int)).toNat*1)))))) (nbB:=9) (fun dead=>rwMR dead h f p w y k m) rfl (by rw [wk m (by omega)];rfl) rfl ?_ (kstOK_of rfl (memOKc (Nat.lt_of_sub_eq_succ rfl) rfl rfl (memOKc (Nat.lt_of_sub_eq_succ rfl) (AllI.okb (n:=576) (by repeat' first | assumption | apply AllI.set) _) rfl (memOKc (Nat.lt_of_sub_eq_succ rfl) (AllI.okb (n:=300) (by repeat' first | assumption | apply AllI.set) _) rfl (memOKc (Nat.lt_of_sub_eq_succ rfl) (AllI.okb (n:=1152) (by repeat' first | assumption | apply AllI.set) _) rfl (memOKc (Nat.lt_of_sub_eq_succ rfl) (AllI.okb (n:=24) (by repeat' first | assumption | apply AllI.set) _) rfl memOK0)))))) (Nat.le_refl _)⟩
 have lnf:=hf.len
 have lnp:=hp.len
 have lnw:=hw.len
 have lny:=hy.len
 repeat' first | exact ae_nil | apply ae_cons
 all_goals first
  | (rw [hp.areI 300 0 (Nat.le_refl _)];rfl)
  | (simp only [Bool.and_eq_true,hf.part,hf.ok,hp.part,hp.ok,hw.part,hw.ok,hy.part,hy.ok,decide_eq_true_eq,true_and,and_true];omega)
theorem rwMeR (dead:Nat→Value) (h:Bool) (f p w y:List At) (k:Nat):projS [0,2,4,7,8,9,13] [0,2,6,7,8] (exec Tryz.prog KA1 Zl 400 (.code (c1 (c1 (c2 (c1 (c2 (c2 (c1 (c1 (c2 (c2 (c1 (c1 (c2 (c1 (c2 (c2 (bodyF Tryz.prog 202)))))))))))))))))) (Kst.st ⟨[(0,A0),(2,PX 2),(4,PX 6),(7,PX 7),(8,IK k),(9,PX 8),(13,IK k),(17,IK (k+1)),(18,IK (k+1))],(rws0M h f p w y),9⟩ 54 dead [some false]))=some (Ex.exit 2,[LV.v (V1.one (At.ptr 0 0)),LV.v (V1.one (At.ptx 2 0)),LV.v (V1.one (At.ptx 6 0)),LV.v (V1.one (At.ptx 7 0)),LV.v (V1.one (At.int IntKind.i64 (k:Int))),LV.v (V1.one (At.ptx 8 0)),LV.v (V1.one (At.int IntKind.i64 (k:Int)))],(rws0O h f p w y),[(decide (((k+1:Nat):Int)<((k+1:Nat):Int)),false)]):=by kernel_rfl
theorem rwMe (h:Bool) (f p w y:List At) (k:Nat) (hf:AllI f 576) (hp:AllI p 300) (hw:AllI w 1152) (hy:AllI y 24):∃ (h':Bool) (f' p' w' y':List At),AllI f' 576∧AllI p' 300∧AllI w' 1152∧AllI y' 24∧To Tryz.prog 54 (c1 (c1 (c2 (c1 (c2 (c2 (c1 (c1 (c2 (c2 (c1 (c1 (c2 (c1 (c2 (c2 (bodyF Tryz.prog 202))))))))))))))))) ⟨[(0,A0),(2,PX 2),(4,PX 6),(7,PX 7),(8,IK k),(9,PX 8),(13,IK k),(17,IK (k+1)),(18,IK (k+1))],(rws0M h f p w y),9⟩ (.exit 2) ⟨[(0,A0),(2,PX 2),(4,PX 6),(7,PX 7),(8,IK k),(9,PX 8),(13,IK k)],(rws0M h' f' p' w' y'),9⟩:=by
 refine ⟨(h),(f),(p),(w),(y),(by repeat' first | assumption | apply AllI.set),(by repeat' first | assumption | apply AllI.set),(by repeat' first | assumption | apply AllI.set),(by repeat' first | assumption | apply AllI.set),To.run (z:=Zl) soundKA1 (slots:=[0,2,4,7,8,9,13]) (blks:=[0,2,6,7,8]) (vs:=[A0,PX 2,PX 6,PX 7,IK k,PX 8,IK k]) (bs:=(rws0B (h) f p w y)) (nbB:=9) (fun dead=>rwMeR dead h f p w y k) rfl rfl rfl ?_ (kstOK_of rfl (memOKc (Nat.lt_of_sub_eq_succ rfl) rfl rfl (memOKc (Nat.lt_of_sub_eq_succ rfl) (AllI.okb (n:=576) (by repeat' first | assumption | apply AllI.set) _) rfl (memOKc (Nat.lt_of_sub_eq_succ rfl) (AllI.okb (n:=300) (by repeat' first | assumption | apply AllI.set) _) rfl (memOKc (Nat.lt_of_sub_eq_succ rfl) (AllI.okb (n:=1152) (by repeat' first | assumption | apply AllI.set) _) rfl (memOKc (Nat.lt_of_sub_eq_succ rfl) (AllI.okb (n:=24) (by repeat' first | assumption | apply AllI.set) _) rfl memOK0)))))) (Nat.le_refl _)⟩
 have lnf:=hf.len
 have lnp:=hp.len
 have lnw:=hw.len
 have lny:=hy.len
 repeat' first | exact ae_nil | apply ae_cons
 all_goals first
  | (with_reducible refine decide_eq_false ?_;omega)
theorem rwIR (dead:Nat→Value) (h:Bool) (f p w y:List At) (k i:Nat):projS [0,2,4,7,8,9,13,28] [0,2,6,7,8] (exec Tryz.prog KA1 Zl 400 (.code (c1 (c1 (c2 (c2 (c2 (c2 (c1 (c1 (c2 (c2 (c1 (c1 (c2 (c1 (c2 (c2 (bodyF Tryz.prog 202)))))))))))))))))) (Kst.st ⟨[(0,A0),(2,PX 2),(4,PX 6),(7,PX 7),(8,IK k),(9,PX 8),(13,IK k),(28,IK i)],(rws0M h f p w y),9⟩ 54 dead [some true]))=some (Ex.normal,[LV.v (V1.one (At.ptr 0 0)),LV.v (V1.one (At.ptx 2 0)),LV.v (V1.one (At.ptx 6 0)),LV.v (V1.one (At.ptx 7 0)),LV.v (V1.one (At.int IntKind.i64 (k:Int))),LV.v (V1.one (At.ptx 8 0)),LV.v (V1.one (At.int IntKind.i64 (k:Int))),LV.v (V1.one (At.int IntKind.i64 (wr IntKind.i64 ((i:Int)+1))))],(rws0O (h||dotH 30 (intL (List.take ((24 - 0)*1) (List.drop (0+(i:Int).toNat*24+0*1) f))) (intL (List.take ((24 - 0)*1) (List.drop (0+0*1) y)))) f p ((List.set w) (0+(i:Int).toNat*48+(k:Int).toNat*1) (At.int IntKind.i64 (dotV 30 (intL (List.take ((24 - 0)*1) (List.drop (0+(i:Int).toNat*24+0*1) f))) (intL (List.take ((24 - 0)*1) (List.drop (0+0*1) y)))))) y),[(decide (0+(i:Int).toNat*48+(k:Int).toNat*1<w.length),true),(decide (0≤(k:Int))&&decide ((k:Int)<48),true),(decide (0≤(i:Int))&&decide ((i:Int)<24),true),(isIntL (List.take ((24 - 0)*1) (List.drop (0+(i:Int).toNat*24+0*1) f))&&(okL noP f&&(decide (0+(i:Int).toNat*24+0*1+(24 - 0)*1≤f.length)&&true)),true),(isIntL (List.take ((24 - 0)*1) (List.drop (0+0*1) y))&&(okL noP y&&(decide (0+0*1+(24 - 0)*1≤y.length)&&true)),true),(decide (0≤(i:Int))&&decide ((i:Int)<24),true),(decide ((i:Int)<24),true)]):=by kernel_rfl
theorem rwI (h:Bool) (f p w y:List At) (k i:Nat) (hf:AllI f 576) (hp:AllI p 300) (hw:AllI w 1152) (hy:AllI y 24) (hk:k<24) (hi:i<24):∃ (h':Bool) (f' p' w' y':List At),AllI f' 576∧AllI p' 300∧AllI w' 1152∧AllI y' 24∧To Tryz.prog 54 (c1 (c1 (c2 (c2 (c2 (c2 (c1 (c1 (c2 (c2 (c1 (c1 (c2 (c1 (c2 (c2 (bodyF Tryz.prog 202))))))))))))))))) ⟨[(0,A0),(2,PX 2),(4,PX 6),(7,PX 7),(8,IK k),(9,PX 8),(13,IK k),(28,IK i)],(rws0M h f p w y),9⟩ .normal ⟨[(0,A0),(2,PX 2),(4,PX 6),(7,PX 7),(8,IK k),(9,PX 8),(13,IK k),(28,IK (i+1))],(rws0M h' f' p' w' y'),9⟩:=by
 refine ⟨((h||dotH 30 (intL (List.take ((24 - 0)*1) (List.drop (0+(i:Int).toNat*24+0*1) f))) (intL (List.take ((24 - 0)*1) (List.drop (0+0*1) y))))),(f),(p),((List.set w) (0+(i:Int).toNat*48+(k:Int).toNat*1) (At.int IntKind.i64 (dotV 30 (intL (List.take ((24 - 0)*1) (List.drop (0+(i:Int).toNat*24+0*1) f))) (intL (List.take ((24 - 0)*1) (List.drop (0+0*1) y)))))),(y),(by repeat' first | assumption | apply AllI.set),(by repeat' first | assumption | apply AllI.set),(by repeat' first | assumption | apply AllI.set),(by repeat' first | assumption | apply AllI.set),To.run (z:=Zl) soundKA1 (slots:=[0,2,4,7,8,9,13,28]) (blks:=[0,2,6,7,8]) (vs:=[A0,PX 2,PX 6,PX 7,IK k,PX 8,IK k,IK (i+1)]) (bs:=(rws0B ((h||dotH 30 (intL (List.take ((24 - 0)*1) (List.drop (0+(i:Int).toNat*24+0*1) f))) (intL (List.take ((24 - 0)*1) (List.drop (0+0*1) y))))) f p ((List.set w) (0+(i:Int).toNat*48+(k:Int).toNat*1) (At.int IntKind.i64 (dotV 30 (intL (List.take ((24 - 0)*1) (List.drop (0+(i:Int).toNat*24+0*1) f))) (intL (List.take ((24 - 0)*1) (List.drop (0+0*1) y)))))) y)) (nbB:=9) (fun dead=>rwIR dead h f p w y k i) rfl (by rw [wk i (by omega)];rfl) rfl ?_ (kstOK_of rfl (memOKc (Nat.lt_of_sub_eq_succ rfl) rfl rfl (memOKc (Nat.lt_of_sub_eq_succ rfl) (AllI.okb (n:=576) (by repeat' first | assumption | apply AllI.set) _) rfl (memOKc (Nat.lt_of_sub_eq_succ rfl) (AllI.okb (n:=300) (by repeat' first | assumption | apply AllI.set) _) rfl (memOKc (Nat.lt_of_sub_eq_succ rfl) (AllI.okb (n:=1152) (by repeat' first | assumption | apply AllI.set) _) rfl (memOKc (Nat.lt_of_sub_eq_succ rfl) (AllI.okb (n:=24) (by repeat' first | assumption | apply AllI.set) _) rfl memOK0)))))) (Nat.le_refl _)⟩
 have lnf:=hf.len
 have lnp:=hp.len
 have lnw:=hw.len
 have lny:=hy.len
 repeat' first | exact ae_nil | apply ae_cons
 all_goals first
  | (simp only [Bool.and_eq_true,hf.part,hf.ok,hp.part,hp.ok,hw.part,hw.ok,hy.part,hy.ok,decide_eq_true_eq,true_and,and_true];omega)
theorem rwIeR (dead:Nat→Value) (h:Bool) (f p w y:List At) (k:Nat):projS [0,2,4,7,8,9,13] [0,2,6,7,8] (exec Tryz.prog KA1 Zl 400 (.code (c1 (c1 (c2 (c2 (c2 (c2 (c1 (c1 (c2 (c2 (c1 (c1 (c2 (c1 (c2 (c2 (bodyF Tryz.prog 202)))))))))))))))))) (Kst.st ⟨[(0,A0),(2,PX 2),(4,PX 6),(7,PX 7),(8,IK k),(9,PX 8),(13,IK k),(28,IK 24)],(rws0M h f p w y),9⟩ 54 dead []))=some (Ex.exit 4,[LV.v (V1.one (At.ptr 0 0)),LV.v (V1.one (At.ptx 2 0)),LV.v (V1.one (At.ptx 6 0)),LV.v (V1.one (At.ptx 7 0)),LV.v (V1.one (At.int IntKind.i64 (k:Int))),LV.v (V1.one (At.ptx 8 0)),LV.v (V1.one (At.int IntKind.i64 (k:Int)))],(rws0O h f p w y),[]):=by kernel_rfl
theorem rwIe (h:Bool) (f p w y:List At) (k:Nat) (hf:AllI f 576) (hp:AllI p 300) (hw:AllI w 1152) (hy:AllI y 24):∃ (h':Bool) (f' p' w' y':List At),AllI f' 576∧AllI p' 300∧AllI w' 1152∧AllI y' 24∧To Tryz.prog 54 (c1 (c1 (c2 (c2 (c2 (c2 (c1 (c1 (c2 (c2 (c1 (c1 (c2 (c1 (c2 (c2 (bodyF Tryz.prog 202))))))))))))))))) ⟨[(0,A0),(2,PX 2),(4,PX 6),(7,PX 7),(8,IK k),(9,PX 8),(13,IK k),(28,IK 24)],(rws0M h f p w y),9⟩ (.exit 4) ⟨[(0,A0),(2,PX 2),(4,PX 6),(7,PX 7),(8,IK k),(9,PX 8),(13,IK k)],(rws0M h' f' p' w' y'),9⟩:=by
 refine ⟨(h),(f),(p),(w),(y),(by repeat' first | assumption | apply AllI.set),(by repeat' first | assumption | apply AllI.set),(by repeat' first | assumption | apply AllI.set),(by repeat' first | assumption | apply AllI.set),To.run (z:=Zl) soundKA1 (slots:=[0,2,4,7,8,9,13]) (blks:=[0,2,6,7,8]) (vs:=[A0,PX 2,PX 6,PX 7,IK k,PX 8,IK k]) (bs:=(rws0B (h) f p w y)) (nbB:=9) (fun dead=>rwIeR dead h f p w y k) rfl rfl rfl ?_ (kstOK_of rfl (memOKc (Nat.lt_of_sub_eq_succ rfl) rfl rfl (memOKc (Nat.lt_of_sub_eq_succ rfl) (AllI.okb (n:=576) (by repeat' first | assumption | apply AllI.set) _) rfl (memOKc (Nat.lt_of_sub_eq_succ rfl) (AllI.okb (n:=300) (by repeat' first | assumption | apply AllI.set) _) rfl (memOKc (Nat.lt_of_sub_eq_succ rfl) (AllI.okb (n:=1152) (by repeat' first | assumption | apply AllI.set) _) rfl (memOKc (Nat.lt_of_sub_eq_succ rfl) (AllI.okb (n:=24) (by repeat' first | assumption | apply AllI.set) _) rfl memOK0)))))) (Nat.le_refl _)⟩
 have lnf:=hf.len
 have lnp:=hp.len
 have lnw:=hw.len
 have lny:=hy.len
 repeat' first | exact ae_nil | apply ae_cons
theorem rwDR (dead:Nat→Value) (h:Bool) (f p w:List At) (i:Nat):projS [0,2,4,7,45] [0,2,6,7] (exec Tryz.prog KA1 Zl 400 (.code (c1 (c1 (c2 (c1 (c2 (c2 (c2 (bodyF Tryz.prog 202))))))))) (Kst.st ⟨[(0,A0),(2,PX 2),(4,PX 6),(7,PX 7),(45,IK i)],(rws1M h f p w),8⟩ 54 dead [some true]))=some (Ex.normal,[LV.v (V1.one (At.ptr 0 0)),LV.v (V1.one (At.ptx 2 0)),LV.v (V1.one (At.ptx 6 0)),LV.v (V1.one (At.ptx 7 0)),LV.v (V1.one (At.int IntKind.i64 (wr IntKind.i64 ((i:Int)+1))))],(rws1O h f p ((List.set w) (0+(i:Int).toNat*48+(wr IntKind.i64 (24+(i:Int))).toNat*1) (At.int IntKind.i64 1073741824))),[(decide (0+(i:Int).toNat*48+(wr IntKind.i64 (24+(i:Int))).toNat*1<w.length),true),(decide (0≤wr IntKind.i64 (24+(i:Int)))&&decide (wr IntKind.i64 (24+(i:Int))<48),true),(decide (0≤(i:Int))&&decide ((i:Int)<24),true),(decide ((i:Int)<24),true)]):=by kernel_rfl
theorem rwD (h:Bool) (f p w:List At) (i:Nat) (hf:AllI f 576) (hp:AllI p 300) (hw:AllI w 1152) (hi:i<24):∃ (h':Bool) (f' p' w':List At),AllI f' 576∧AllI p' 300∧AllI w' 1152∧To Tryz.prog 54 (c1 (c1 (c2 (c1 (c2 (c2 (c2 (bodyF Tryz.prog 202)))))))) ⟨[(0,A0),(2,PX 2),(4,PX 6),(7,PX 7),(45,IK i)],(rws1M h f p w),8⟩ .normal ⟨[(0,A0),(2,PX 2),(4,PX 6),(7,PX 7),(45,IK (i+1))],(rws1M h' f' p' w'),8⟩:=by
 refine ⟨(h),(f),(p),((List.set w) (0+(i:Int).toNat*48+(wr IntKind.i64 (24+(i:Int))).toNat*1) (At.int IntKind.i64 1073741824)),(by repeat' first | assumption | apply AllI.set),(by repeat' first | assumption | apply AllI.set),(by repeat' first | assumption | apply AllI.set),To.run (z:=Zl) soundKA1 (slots:=[0,2,4,7,45]) (blks:=[0,2,6,7]) (vs:=[A0,PX 2,PX 6,PX 7,IK (i+1)]) (bs:=(rws1B (h) f p ((List.set w) (0+(i:Int).toNat*48+(wr IntKind.i64 (24+(i:Int))).toNat*1) (At.int IntKind.i64 1073741824)))) (nbB:=8) (fun dead=>rwDR dead h f p w i) rfl (by rw [wk i (by omega)];rfl) rfl ?_ (kstOK_of rfl (memOKc (Nat.lt_of_sub_eq_succ rfl) rfl rfl (memOKc (Nat.lt_of_sub_eq_succ rfl) (AllI.okb (n:=576) (by repeat' first | assumption | apply AllI.set) _) rfl (memOKc (Nat.lt_of_sub_eq_succ rfl) (AllI.okb (n:=300) (by repeat' first | assumption | apply AllI.set) _) rfl (memOKc (Nat.lt_of_sub_eq_succ rfl) (AllI.okb (n:=1152) (by repeat' first | assumption | apply AllI.set) _) rfl memOK0))))) (Nat.le_refl _)⟩
 have lnf:=hf.len
 have lnp:=hp.len
 have lnw:=hw.len
 have e24:wr .i64 (24+(i:Int))=((24+i:Nat):Int):=by
  show w64 (24+(i:Int))=_
  rw [w64_in (by omega) (by omega)];omega
 simp only [e24]
 repeat' first | exact ae_nil | apply ae_cons
 all_goals first
  | (simp only [Bool.and_eq_true,hf.part,hf.ok,hp.part,hp.ok,hw.part,hw.ok,decide_eq_true_eq,true_and,and_true];omega)
theorem rwDeR (dead:Nat→Value) (h:Bool) (f p w:List At):projS [0,2,4,7] [0,2,6,7] (exec Tryz.prog KA1 Zl 400 (.code (c1 (c1 (c2 (c1 (c2 (c2 (c2 (bodyF Tryz.prog 202))))))))) (Kst.st ⟨[(0,A0),(2,PX 2),(4,PX 6),(7,PX 7),(45,IK 24)],(rws1M h f p w),8⟩ 54 dead []))=some (Ex.exit 6,[LV.v (V1.one (At.ptr 0 0)),LV.v (V1.one (At.ptx 2 0)),LV.v (V1.one (At.ptx 6 0)),LV.v (V1.one (At.ptx 7 0))],(rws1O h f p w),[]):=by kernel_rfl
theorem rwDe (h:Bool) (f p w:List At) (hf:AllI f 576) (hp:AllI p 300) (hw:AllI w 1152):∃ (h':Bool) (f' p' w':List At),AllI f' 576∧AllI p' 300∧AllI w' 1152∧To Tryz.prog 54 (c1 (c1 (c2 (c1 (c2 (c2 (c2 (bodyF Tryz.prog 202)))))))) ⟨[(0,A0),(2,PX 2),(4,PX 6),(7,PX 7),(45,IK 24)],(rws1M h f p w),8⟩ (.exit 6) ⟨[(0,A0),(2,PX 2),(4,PX 6),(7,PX 7)],(rws1M h' f' p' w'),8⟩:=by
 refine ⟨(h),(f),(p),(w),(by repeat' first | assumption | apply AllI.set),(by repeat' first | assumption | apply AllI.set),(by repeat' first | assumption | apply AllI.set),To.run (z:=Zl) soundKA1 (slots:=[0,2,4,7]) (blks:=[0,2,6,7]) (vs:=[A0,PX 2,PX 6,PX 7]) (bs:=(rws1B (h) f p w)) (nbB:=8) (fun dead=>rwDeR dead h f p w) rfl rfl rfl ?_ (kstOK_of rfl (memOKc (Nat.lt_of_sub_eq_succ rfl) rfl rfl (memOKc (Nat.lt_of_sub_eq_succ rfl) (AllI.okb (n:=576) (by repeat' first | assumption | apply AllI.set) _) rfl (memOKc (Nat.lt_of_sub_eq_succ rfl) (AllI.okb (n:=300) (by repeat' first | assumption | apply AllI.set) _) rfl (memOKc (Nat.lt_of_sub_eq_succ rfl) (AllI.okb (n:=1152) (by repeat' first | assumption | apply AllI.set) _) rfl memOK0))))) (Nat.le_refl _)⟩
 have lnf:=hf.len
 have lnp:=hp.len
 have lnw:=hw.len
 repeat' first | exact ae_nil | apply ae_cons
theorem rwHR (dead:Nat→Value) (h:Bool) (f p w:List At) (k:Nat):projS [0,2,4,7,13] [0,2,6,7] (execL Tryz.prog KA1 Zl 400 (spineL 2 (c1 (c1 (c2 (c1 (c2 (c2 (bodyF Tryz.prog 202)))))))) (Kst.st ⟨[(0,A0),(2,PX 2),(4,PX 6),(7,PX 7),(13,IK k)],(rws1M h f p w),8⟩ 54 dead [some true]))=some (Ex.normal,[LV.v (V1.one (At.ptr 0 0)),LV.v (V1.one (At.ptx 2 0)),LV.v (V1.one (At.ptx 6 0)),LV.v (V1.one (At.ptx 7 0)),LV.v (V1.one (At.int IntKind.i64 (k:Int)))],(rws1O h f p w),[(decide ((k:Int)<24),true)]):=by kernel_rfl
theorem rwH (h:Bool) (f p w:List At) (k:Nat) (hf:AllI f 576) (hp:AllI p 300) (hw:AllI w 1152) (hk:k<24):∃ (h':Bool) (f' p' w':List At),AllI f' 576∧AllI p' 300∧AllI w' 1152∧∀(e:Ex) (C:Kst),To Tryz.prog 54 (dropC 2 (c1 (c1 (c2 (c1 (c2 (c2 (bodyF Tryz.prog 202)))))))) ⟨[(0,A0),(2,PX 2),(4,PX 6),(7,PX 7),(13,IK k)],(rws1M h' f' p' w'),8⟩ e C→To Tryz.prog 54 (c1 (c1 (c2 (c1 (c2 (c2 (bodyF Tryz.prog 202))))))) ⟨[(0,A0),(2,PX 2),(4,PX 6),(7,PX 7),(13,IK k)],(rws1M h f p w),8⟩ e C:=by
 refine ⟨(h),(f),(p),(w),(by repeat' first | assumption | apply AllI.set),(by repeat' first | assumption | apply AllI.set),(by repeat' first | assumption | apply AllI.set),fun e C hC=>To.spineR (k:=2) (z:=Zl) soundKA1 (slots:=[0,2,4,7,13]) (blks:=[0,2,6,7]) (vs:=[A0,PX 2,PX 6,PX 7,IK k]) (bs:=(rws1B (h) f p w)) (nbB:=8) (by kernel_rfl) (fun dead=>rwHR dead h f p w k) rfl rfl rfl ?_ (kstOK_of rfl (memOKc (Nat.lt_of_sub_eq_succ rfl) rfl rfl (memOKc (Nat.lt_of_sub_eq_succ rfl) (AllI.okb (n:=576) (by repeat' first | assumption | apply AllI.set) _) rfl (memOKc (Nat.lt_of_sub_eq_succ rfl) (AllI.okb (n:=300) (by repeat' first | assumption | apply AllI.set) _) rfl (memOKc (Nat.lt_of_sub_eq_succ rfl) (AllI.okb (n:=1152) (by repeat' first | assumption | apply AllI.set) _) rfl memOK0))))) (Nat.le_refl _) hC⟩
 have lnf:=hf.len
 have lnp:=hp.len
 have lnw:=hw.len
 repeat' first | exact ae_nil | apply ae_cons
 all_goals first
  | (simp only [Bool.and_eq_true,hf.part,hf.ok,hp.part,hp.ok,hw.part,hw.ok,decide_eq_true_eq,true_and,and_true];omega)
theorem rwHeR (dead:Nat→Value) (h:Bool) (f p w:List At):projS [0,2,4,7] [0,2,6,7] (exec Tryz.prog KA1 Zl 400 (.code (c1 (c1 (c2 (c1 (c2 (c2 (bodyF Tryz.prog 202)))))))) (Kst.st ⟨[(0,A0),(2,PX 2),(4,PX 6),(7,PX 7),(13,IK 24)],(rws1M h f p w),8⟩ 54 dead []))=some (Ex.exit 0,[LV.v (V1.one (At.ptr 0 0)),LV.v (V1.one (At.ptx 2 0)),LV.v (V1.one (At.ptx 6 0)),LV.v (V1.one (At.ptx 7 0))],(rws1O h f p w),[]):=by kernel_rfl
theorem rwHe (h:Bool) (f p w:List At) (hf:AllI f 576) (hp:AllI p 300) (hw:AllI w 1152):∃ (h':Bool) (f' p' w':List At),AllI f' 576∧AllI p' 300∧AllI w' 1152∧To Tryz.prog 54 (c1 (c1 (c2 (c1 (c2 (c2 (bodyF Tryz.prog 202))))))) ⟨[(0,A0),(2,PX 2),(4,PX 6),(7,PX 7),(13,IK 24)],(rws1M h f p w),8⟩ (.exit 0) ⟨[(0,A0),(2,PX 2),(4,PX 6),(7,PX 7)],(rws1M h' f' p' w'),8⟩:=by
 refine ⟨(h),(f),(p),(w),(by repeat' first | assumption | apply AllI.set),(by repeat' first | assumption | apply AllI.set),(by repeat' first | assumption | apply AllI.set),To.run (z:=Zl) soundKA1 (slots:=[0,2,4,7]) (blks:=[0,2,6,7]) (vs:=[A0,PX 2,PX 6,PX 7]) (bs:=(rws1B (h) f p w)) (nbB:=8) (fun dead=>rwHeR dead h f p w) rfl rfl rfl ?_ (kstOK_of rfl (memOKc (Nat.lt_of_sub_eq_succ rfl) rfl rfl (memOKc (Nat.lt_of_sub_eq_succ rfl) (AllI.okb (n:=576) (by repeat' first | assumption | apply AllI.set) _) rfl (memOKc (Nat.lt_of_sub_eq_succ rfl) (AllI.okb (n:=300) (by repeat' first | assumption | apply AllI.set) _) rfl (memOKc (Nat.lt_of_sub_eq_succ rfl) (AllI.okb (n:=1152) (by repeat' first | assumption | apply AllI.set) _) rfl memOK0))))) (Nat.le_refl _)⟩
 have lnf:=hf.len
 have lnp:=hp.len
 have lnw:=hw.len
 repeat' first | exact ae_nil | apply ae_cons
theorem rwAR (dead:Nat→Value) (h:Bool) (f p w:List At) (k:Nat):projS [0,2,4,7,8,9,13] [0,2,6,7,8] (execL Tryz.prog KA1 Zl 400 (spineL 2 (c1 (c1 (c2 (c2 (c1 (c1 (c2 (c1 (c2 (c2 (bodyF Tryz.prog 202)))))))))))) (Kst.st ⟨[(0,A0),(2,PX 2),(4,PX 6),(7,PX 7),(13,IK k)],(rws1M h f p w),8⟩ 54 dead []))=some (Ex.normal,[LV.v (V1.one (At.ptr 0 0)),LV.v (V1.one (At.ptx 2 0)),LV.v (V1.one (At.ptx 6 0)),LV.v (V1.one (At.ptx 7 0)),LV.v (V1.one (At.int IntKind.i64 (k:Int))),LV.v (V1.one (At.ptr 8 0)),LV.v (V1.one (At.int IntKind.i64 (k:Int)))],[some { ty:=61,fr:=(0,0),es:=0,cells:=[At.bool h] },some { ty:=271,fr:=(0,0),es:=0,cells:=f },some { ty:=56,fr:=(0,0),es:=0,cells:=p },some { ty:=351,fr:=(0,0),es:=0,cells:=w },some ⟨47,(0,0),0,zc 47⟩],[]):=by kernel_rfl
theorem rwA (h:Bool) (f p w:List At) (k:Nat) (hf:AllI f 576) (hp:AllI p 300) (hw:AllI w 1152):∃ (h':Bool) (f' p' w' y':List At),AllI f' 576∧AllI p' 300∧AllI w' 1152∧AllI y' 24∧∀(e:Ex) (C:Kst),To Tryz.prog 54 (dropC 2 (c1 (c1 (c2 (c2 (c1 (c1 (c2 (c1 (c2 (c2 (bodyF Tryz.prog 202)))))))))))) ⟨[(0,A0),(2,PX 2),(4,PX 6),(7,PX 7),(8,IK k),(9,PP 8),(13,IK k)],(rws0M h' f' p' w' y'),9⟩ e C→To Tryz.prog 54 (c1 (c1 (c2 (c2 (c1 (c1 (c2 (c1 (c2 (c2 (bodyF Tryz.prog 202))))))))))) ⟨[(0,A0),(2,PX 2),(4,PX 6),(7,PX 7),(13,IK k)],(rws1M h f p w),8⟩ e C:=by
 refine ⟨(h),(f),(p),(w),(zc 47),(by repeat' first | assumption | apply AllI.set),(by repeat' first | assumption | apply AllI.set),(by repeat' first | assumption | apply AllI.set),(by repeat' first | assumption | apply AllI.set | exact AllI.ints _ _ _ | exact AllI.mkF _ _ _ | exact zc24I | exact zc48I | exact zcWI | exact zcCov),fun e C hC=>To.spineR (k:=2) (z:=Zl) soundKA1 (slots:=[0,2,4,7,8,9,13]) (blks:=[0,2,6,7,8]) (vs:=[A0,PX 2,PX 6,PX 7,IK k,PP 8,IK k]) (bs:=(rws0B (h) f p w (zc 47))) (nbB:=9) (by kernel_rfl) (fun dead=>rwAR dead h f p w k) rfl rfl rfl ?_ (kstOK_of rfl (memOKc (Nat.lt_of_sub_eq_succ rfl) rfl rfl (memOKc (Nat.lt_of_sub_eq_succ rfl) (AllI.okb (n:=576) (by repeat' first | assumption | apply AllI.set) _) rfl (memOKc (Nat.lt_of_sub_eq_succ rfl) (AllI.okb (n:=300) (by repeat' first | assumption | apply AllI.set) _) rfl (memOKc (Nat.lt_of_sub_eq_succ rfl) (AllI.okb (n:=1152) (by repeat' first | assumption | apply AllI.set) _) rfl (memOKc (Nat.lt_of_sub_eq_succ rfl) (AllI.okb (n:=24) (by repeat' first | assumption | apply AllI.set | exact AllI.ints _ _ _ | exact AllI.mkF _ _ _ | exact zc24I | exact zc48I | exact zcWI | exact zcCov) _) rfl memOK0)))))) (Nat.le_of_ble_eq_true rfl) hC⟩
 have lnf:=hf.len
 have lnp:=hp.len
 have lnw:=hw.len
 repeat' first | exact ae_nil | apply ae_cons
theorem rwSR (dead:Nat→Value) (h:Bool) (f p w y:List At) (k:Nat):projS [0,2,4,7,8,9,13,17,18] [0,2,6,7,8] (exec Tryz.prog KA1 Zl 400 (.code (c1 (c1 (c2 (c2 (c1 (c1 (c2 (c2 (c1 (c1 (c2 (c1 (c2 (c2 (bodyF Tryz.prog 202)))))))))))))))) (Kst.st ⟨[(0,A0),(2,PX 2),(4,PX 6),(7,PX 7),(8,IK k),(9,PX 8),(13,IK k)],(rws0M h f p w y),9⟩ 54 dead []))=some (Ex.normal,[LV.v (V1.one (At.ptr 0 0)),LV.v (V1.one (At.ptx 2 0)),LV.v (V1.one (At.ptx 6 0)),LV.v (V1.one (At.ptx 7 0)),LV.v (V1.one (At.int IntKind.i64 (k:Int))),LV.v (V1.one (At.ptx 8 0)),LV.v (V1.one (At.int IntKind.i64 (k:Int))),LV.v (V1.one (At.int IntKind.i64 (wr IntKind.i64 ((k:Int)+1)))),LV.v (V1.one (At.int IntKind.i64 0))],(rws0O h f p w y),[]):=by kernel_rfl
theorem rwS (h:Bool) (f p w y:List At) (k:Nat) (hf:AllI f 576) (hp:AllI p 300) (hw:AllI w 1152) (hy:AllI y 24) (hk:k<24):∃ (h':Bool) (f' p' w' y':List At),AllI f' 576∧AllI p' 300∧AllI w' 1152∧AllI y' 24∧To Tryz.prog 54 (c1 (c1 (c2 (c2 (c1 (c1 (c2 (c2 (c1 (c1 (c2 (c1 (c2 (c2 (bodyF Tryz.prog 202))))))))))))))) ⟨[(0,A0),(2,PX 2),(4,PX 6),(7,PX 7),(8,IK k),(9,PX 8),(13,IK k)],(rws0M h f p w y),9⟩ .normal ⟨[(0,A0),(2,PX 2),(4,PX 6),(7,PX 7),(8,IK k),(9,PX 8),(13,IK k),(17,IK (k+1)),(18,IK 0)],(rws0M h' f' p' w' y'),9⟩:=by
 refine ⟨(h),(f),(p),(w),(y),(by repeat' first | assumption | apply AllI.set),(by repeat' first | assumption | apply AllI.set),(by repeat' first | assumption | apply AllI.set),(by repeat' first | assumption | apply AllI.set),To.run (z:=Zl) soundKA1 (slots:=[0,2,4,7,8,9,13,17,18]) (blks:=[0,2,6,7,8]) (vs:=[A0,PX 2,PX 6,PX 7,IK k,PX 8,IK k,IK (k+1),IK 0]) (bs:=(rws0B (h) f p w y)) (nbB:=9) (fun dead=>rwSR dead h f p w y k) rfl (by rw [wk k (by omega)];rfl) rfl ?_ (kstOK_of rfl (memOKc (Nat.lt_of_sub_eq_succ rfl) rfl rfl (memOKc (Nat.lt_of_sub_eq_succ rfl) (AllI.okb (n:=576) (by repeat' first | assumption | apply AllI.set) _) rfl (memOKc (Nat.lt_of_sub_eq_succ rfl) (AllI.okb (n:=300) (by repeat' first | assumption | apply AllI.set) _) rfl (memOKc (Nat.lt_of_sub_eq_succ rfl) (AllI.okb (n:=1152) (by repeat' first | assumption | apply AllI.set) _) rfl (memOKc (Nat.lt_of_sub_eq_succ rfl) (AllI.okb (n:=24) (by repeat' first | assumption | apply AllI.set) _) rfl memOK0)))))) (Nat.le_refl _)⟩
 have lnf:=hf.len
 have lnp:=hp.len
 have lnw:=hw.len
 have lny:=hy.len
 repeat' first | exact ae_nil | apply ae_cons
theorem rwS2R (dead:Nat→Value) (h:Bool) (f p w y:List At) (k:Nat):projS [0,2,4,7,8,9,13,28] [0,2,6,7,8] (exec Tryz.prog KA1 Zl 400 (.code (c1 (c2 (c2 (c2 (c1 (c1 (c2 (c2 (c1 (c1 (c2 (c1 (c2 (c2 (bodyF Tryz.prog 202)))))))))))))))) (Kst.st ⟨[(0,A0),(2,PX 2),(4,PX 6),(7,PX 7),(8,IK k),(9,PX 8),(13,IK k)],(rws0M h f p w y),9⟩ 54 dead []))=some (Ex.normal,[LV.v (V1.one (At.ptr 0 0)),LV.v (V1.one (At.ptx 2 0)),LV.v (V1.one (At.ptx 6 0)),LV.v (V1.one (At.ptx 7 0)),LV.v (V1.one (At.int IntKind.i64 (k:Int))),LV.v (V1.one (At.ptx 8 0)),LV.v (V1.one (At.int IntKind.i64 (k:Int))),LV.v (V1.one (At.int IntKind.i64 0))],(rws0O h f p w y),[]):=by kernel_rfl
theorem rwS2 (h:Bool) (f p w y:List At) (k:Nat) (hf:AllI f 576) (hp:AllI p 300) (hw:AllI w 1152) (hy:AllI y 24):∃ (h':Bool) (f' p' w' y':List At),AllI f' 576∧AllI p' 300∧AllI w' 1152∧AllI y' 24∧To Tryz.prog 54 (c1 (c2 (c2 (c2 (c1 (c1 (c2 (c2 (c1 (c1 (c2 (c1 (c2 (c2 (bodyF Tryz.prog 202))))))))))))))) ⟨[(0,A0),(2,PX 2),(4,PX 6),(7,PX 7),(8,IK k),(9,PX 8),(13,IK k)],(rws0M h f p w y),9⟩ .normal ⟨[(0,A0),(2,PX 2),(4,PX 6),(7,PX 7),(8,IK k),(9,PX 8),(13,IK k),(28,IK 0)],(rws0M h' f' p' w' y'),9⟩:=by
 refine ⟨(h),(f),(p),(w),(y),(by repeat' first | assumption | apply AllI.set),(by repeat' first | assumption | apply AllI.set),(by repeat' first | assumption | apply AllI.set),(by repeat' first | assumption | apply AllI.set),To.run (z:=Zl) soundKA1 (slots:=[0,2,4,7,8,9,13,28]) (blks:=[0,2,6,7,8]) (vs:=[A0,PX 2,PX 6,PX 7,IK k,PX 8,IK k,IK 0]) (bs:=(rws0B (h) f p w y)) (nbB:=9) (fun dead=>rwS2R dead h f p w y k) rfl rfl rfl ?_ (kstOK_of rfl (memOKc (Nat.lt_of_sub_eq_succ rfl) rfl rfl (memOKc (Nat.lt_of_sub_eq_succ rfl) (AllI.okb (n:=576) (by repeat' first | assumption | apply AllI.set) _) rfl (memOKc (Nat.lt_of_sub_eq_succ rfl) (AllI.okb (n:=300) (by repeat' first | assumption | apply AllI.set) _) rfl (memOKc (Nat.lt_of_sub_eq_succ rfl) (AllI.okb (n:=1152) (by repeat' first | assumption | apply AllI.set) _) rfl (memOKc (Nat.lt_of_sub_eq_succ rfl) (AllI.okb (n:=24) (by repeat' first | assumption | apply AllI.set) _) rfl memOK0)))))) (Nat.le_refl _)⟩
 have lnf:=hf.len
 have lnp:=hp.len
 have lnw:=hw.len
 have lny:=hy.len
 repeat' first | exact ae_nil | apply ae_cons
theorem rwNR (dead:Nat→Value) (h:Bool) (f p w y:List At) (k:Nat):projS [0,2,4,7,13] [0,2,6,7] (exec Tryz.prog KA1 Zl 400 (.code (c2 (c2 (c2 (c1 (c1 (c2 (c1 (c2 (c2 (bodyF Tryz.prog 202))))))))))) (Kst.st ⟨[(0,A0),(2,PX 2),(4,PX 6),(7,PX 7),(8,IK k),(9,PX 8),(13,IK k)],(rws0M h f p w y),9⟩ 54 dead []))=some (Ex.normal,[LV.v (V1.one (At.ptr 0 0)),LV.v (V1.one (At.ptx 2 0)),LV.v (V1.one (At.ptx 6 0)),LV.v (V1.one (At.ptx 7 0)),LV.v (V1.one (At.int IntKind.i64 (wr IntKind.i64 ((k:Int)+1))))],(rws1O h f p w),[]):=by kernel_rfl
theorem rwN (h:Bool) (f p w y:List At) (k:Nat) (hf:AllI f 576) (hp:AllI p 300) (hw:AllI w 1152) (hy:AllI y 24) (hk:k<24):∃ (h':Bool) (f' p' w':List At),AllI f' 576∧AllI p' 300∧AllI w' 1152∧To Tryz.prog 54 (c2 (c2 (c2 (c1 (c1 (c2 (c1 (c2 (c2 (bodyF Tryz.prog 202)))))))))) ⟨[(0,A0),(2,PX 2),(4,PX 6),(7,PX 7),(8,IK k),(9,PX 8),(13,IK k)],(rws0M h f p w y),9⟩ .normal ⟨[(0,A0),(2,PX 2),(4,PX 6),(7,PX 7),(13,IK (k+1))],(rws1M h' f' p' w'),9⟩:=by
 refine ⟨(h),(f),(p),(w),(by repeat' first | assumption | apply AllI.set),(by repeat' first | assumption | apply AllI.set),(by repeat' first | assumption | apply AllI.set),To.run (z:=Zl) soundKA1 (slots:=[0,2,4,7,13]) (blks:=[0,2,6,7]) (vs:=[A0,PX 2,PX 6,PX 7,IK (k+1)]) (bs:=(rws1B (h) f p w)) (nbB:=9) (fun dead=>rwNR dead h f p w y k) rfl (by rw [wk k (by omega)];rfl) rfl ?_ (kstOK_of rfl (memOKc (Nat.lt_of_sub_eq_succ rfl) rfl rfl (memOKc (Nat.lt_of_sub_eq_succ rfl) (AllI.okb (n:=576) (by repeat' first | assumption | apply AllI.set) _) rfl (memOKc (Nat.lt_of_sub_eq_succ rfl) (AllI.okb (n:=300) (by repeat' first | assumption | apply AllI.set) _) rfl (memOKc (Nat.lt_of_sub_eq_succ rfl) (AllI.okb (n:=1152) (by repeat' first | assumption | apply AllI.set) _) rfl memOK0))))) (Nat.le_refl _)⟩
 have lnf:=hf.len
 have lnp:=hp.len
 have lnw:=hw.len
 have lny:=hy.len
 repeat' first | exact ae_nil | apply ae_cons
theorem rwF0R (dead:Nat→Value) (h:Bool) (f p w:List At):projS [0,2,4,7,45] [0,2,6,7] (exec Tryz.prog KA1 Zl 400 (.code (c1 (c1 (c2 (c2 (c2 (bodyF Tryz.prog 202))))))) (Kst.st ⟨[(0,A0),(2,PX 2),(4,PX 6),(7,PX 7)],(rws1M h f p w),8⟩ 54 dead []))=some (Ex.normal,[LV.v (V1.one (At.ptr 0 0)),LV.v (V1.one (At.ptx 2 0)),LV.v (V1.one (At.ptx 6 0)),LV.v (V1.one (At.ptx 7 0)),LV.v (V1.one (At.int IntKind.i64 0))],(rws1O h f p w),[]):=by kernel_rfl
theorem rwF0 (h:Bool) (f p w:List At) (hf:AllI f 576) (hp:AllI p 300) (hw:AllI w 1152):∃ (h':Bool) (f' p' w':List At),AllI f' 576∧AllI p' 300∧AllI w' 1152∧To Tryz.prog 54 (c1 (c1 (c2 (c2 (c2 (bodyF Tryz.prog 202)))))) ⟨[(0,A0),(2,PX 2),(4,PX 6),(7,PX 7)],(rws1M h f p w),8⟩ .normal ⟨[(0,A0),(2,PX 2),(4,PX 6),(7,PX 7),(45,IK 0)],(rws1M h' f' p' w'),8⟩:=by
 refine ⟨(h),(f),(p),(w),(by repeat' first | assumption | apply AllI.set),(by repeat' first | assumption | apply AllI.set),(by repeat' first | assumption | apply AllI.set),To.run (z:=Zl) soundKA1 (slots:=[0,2,4,7,45]) (blks:=[0,2,6,7]) (vs:=[A0,PX 2,PX 6,PX 7,IK 0]) (bs:=(rws1B (h) f p w)) (nbB:=8) (fun dead=>rwF0R dead h f p w) rfl rfl rfl ?_ (kstOK_of rfl (memOKc (Nat.lt_of_sub_eq_succ rfl) rfl rfl (memOKc (Nat.lt_of_sub_eq_succ rfl) (AllI.okb (n:=576) (by repeat' first | assumption | apply AllI.set) _) rfl (memOKc (Nat.lt_of_sub_eq_succ rfl) (AllI.okb (n:=300) (by repeat' first | assumption | apply AllI.set) _) rfl (memOKc (Nat.lt_of_sub_eq_succ rfl) (AllI.okb (n:=1152) (by repeat' first | assumption | apply AllI.set) _) rfl memOK0))))) (Nat.le_refl _)⟩
 have lnf:=hf.len
 have lnp:=hp.len
 have lnw:=hw.len
 repeat' first | exact ae_nil | apply ae_cons
theorem rwO0R (dead:Nat→Value) (h:Bool) (f p w:List At):projS [0,2,4,7,13] [0,2,6,7] (exec Tryz.prog KA1 Zl 400 (.code (c1 (c1 (c2 (c2 (bodyF Tryz.prog 202)))))) (Kst.st ⟨[(0,A0),(2,PX 2),(4,PX 6),(7,PX 7)],(rws1M h f p w),8⟩ 54 dead []))=some (Ex.normal,[LV.v (V1.one (At.ptr 0 0)),LV.v (V1.one (At.ptx 2 0)),LV.v (V1.one (At.ptx 6 0)),LV.v (V1.one (At.ptx 7 0)),LV.v (V1.one (At.int IntKind.i64 0))],(rws1O h f p w),[]):=by kernel_rfl
theorem rwO0 (h:Bool) (f p w:List At) (hf:AllI f 576) (hp:AllI p 300) (hw:AllI w 1152):∃ (h':Bool) (f' p' w':List At),AllI f' 576∧AllI p' 300∧AllI w' 1152∧To Tryz.prog 54 (c1 (c1 (c2 (c2 (bodyF Tryz.prog 202))))) ⟨[(0,A0),(2,PX 2),(4,PX 6),(7,PX 7)],(rws1M h f p w),8⟩ .normal ⟨[(0,A0),(2,PX 2),(4,PX 6),(7,PX 7),(13,IK 0)],(rws1M h' f' p' w'),8⟩:=by
 refine ⟨(h),(f),(p),(w),(by repeat' first | assumption | apply AllI.set),(by repeat' first | assumption | apply AllI.set),(by repeat' first | assumption | apply AllI.set),To.run (z:=Zl) soundKA1 (slots:=[0,2,4,7,13]) (blks:=[0,2,6,7]) (vs:=[A0,PX 2,PX 6,PX 7,IK 0]) (bs:=(rws1B (h) f p w)) (nbB:=8) (fun dead=>rwO0R dead h f p w) rfl rfl rfl ?_ (kstOK_of rfl (memOKc (Nat.lt_of_sub_eq_succ rfl) rfl rfl (memOKc (Nat.lt_of_sub_eq_succ rfl) (AllI.okb (n:=576) (by repeat' first | assumption | apply AllI.set) _) rfl (memOKc (Nat.lt_of_sub_eq_succ rfl) (AllI.okb (n:=300) (by repeat' first | assumption | apply AllI.set) _) rfl (memOKc (Nat.lt_of_sub_eq_succ rfl) (AllI.okb (n:=1152) (by repeat' first | assumption | apply AllI.set) _) rfl memOK0))))) (Nat.le_refl _)⟩
 have lnf:=hf.len
 have lnp:=hp.len
 have lnw:=hw.len
 repeat' first | exact ae_nil | apply ae_cons
theorem rwML (h:Bool) (f p w y:List At) (k:Nat) (hf:AllI f 576) (hp:AllI p 300) (hw:AllI w 1152) (hy:AllI y 24) (hk:k<24):∃(h':Bool) (f' p' w' y':List At),AllI f' 576∧AllI p' 300∧AllI w' 1152∧AllI y' 24∧To Tryz.prog 54 (c2 (c1 (c2 (c2 (c1 (c1 (c2 (c2 (c1 (c1 (c2 (c1 (c2 (c2 (bodyF Tryz.prog 202))))))))))))))) ⟨[(0,A0),(2,PX 2),(4,PX 6),(7,PX 7),(8,IK k),(9,PX 8),(13,IK k),(17,IK (k+1)),(18,IK 0)],(rws0M h f p w y),9⟩ .normal ⟨[(0,A0),(2,PX 2),(4,PX 6),(7,PX 7),(8,IK k),(9,PX 8),(13,IK k)],(rws0M h' f' p' w' y'),9⟩:=by
 have round:∀(m:Nat) (s:Bool×List At×List At×List At×List At),m<k+1→(AllI s.2.1 576∧AllI s.2.2.1 300∧AllI s.2.2.2.1 1152∧AllI s.2.2.2.2 24)→∃s':Bool×List At×List At×List At×List At,(AllI s'.2.1 576∧AllI s'.2.2.1 300∧AllI s'.2.2.2.1 1152∧AllI s'.2.2.2.2 24)∧To Tryz.prog 54 (c1 (c1 (c2 (c1 (c2 (c2 (c1 (c1 (c2 (c2 (c1 (c1 (c2 (c1 (c2 (c2 (bodyF Tryz.prog 202))))))))))))))))) ((fun (m:Nat) (s:Bool×List At×List At×List At×List At)=>(⟨[(0,A0),(2,PX 2),(4,PX 6),(7,PX 7),(8,IK k),(9,PX 8),(13,IK k),(17,IK (k+1)),(18,IK m)],(rws0M (s.1) (s.2.1) (s.2.2.1) (s.2.2.2.1) (s.2.2.2.2)),9⟩:Kst)) m s) .normal ((fun (m:Nat) (s:Bool×List At×List At×List At×List At)=>(⟨[(0,A0),(2,PX 2),(4,PX 6),(7,PX 7),(8,IK k),(9,PX 8),(13,IK k),(17,IK (k+1)),(18,IK m)],(rws0M (s.1) (s.2.1) (s.2.2.1) (s.2.2.2.1) (s.2.2.2.2)),9⟩:Kst)) (m+1) s'):=by
  rintro m ⟨h,f,p,w,y⟩ hlt ⟨k0,k1,k2,k3⟩
  obtain ⟨h',f',p',w',y',q0,q1,q2,q3,hT⟩:=rwM h f p w y k m k0 k1 k2 k3 hk hlt
  exact ⟨(h',f',p',w',y'),⟨q0,q1,q2,q3⟩,hT⟩
 have last:∀(s:Bool×List At×List At×List At×List At),(AllI s.2.1 576∧AllI s.2.2.1 300∧AllI s.2.2.2.1 1152∧AllI s.2.2.2.2 24)→∃s':Bool×List At×List At×List At×List At,(AllI s'.2.1 576∧AllI s'.2.2.1 300∧AllI s'.2.2.2.1 1152∧AllI s'.2.2.2.2 24)∧To Tryz.prog 54 (c1 (c1 (c2 (c1 (c2 (c2 (c1 (c1 (c2 (c2 (c1 (c1 (c2 (c1 (c2 (c2 (bodyF Tryz.prog 202))))))))))))))))) ((fun (m:Nat) (s:Bool×List At×List At×List At×List At)=>(⟨[(0,A0),(2,PX 2),(4,PX 6),(7,PX 7),(8,IK k),(9,PX 8),(13,IK k),(17,IK (k+1)),(18,IK m)],(rws0M (s.1) (s.2.1) (s.2.2.1) (s.2.2.2.1) (s.2.2.2.2)),9⟩:Kst)) (k+1) s) (.exit 2) ((fun (s:Bool×List At×List At×List At×List At)=>(⟨[(0,A0),(2,PX 2),(4,PX 6),(7,PX 7),(8,IK k),(9,PX 8),(13,IK k)],(rws0M (s.1) (s.2.1) (s.2.2.1) (s.2.2.2.1) (s.2.2.2.2)),9⟩:Kst)) s'):=by
  rintro ⟨h,f,p,w,y⟩ ⟨k0,k1,k2,k3⟩
  obtain ⟨h',f',p',w',y',q0,q1,q2,q3,hT⟩:=rwMe h f p w y k k0 k1 k2 k3
  exact ⟨(h',f',p',w',y'),⟨q0,q1,q2,q3⟩,hT⟩
 obtain ⟨⟨h',f',p',w',y'⟩,⟨q0,q1,q2,q3⟩,hT⟩:=loop_upE (id:=2) (by kernel_rfl) (by kernel_rfl) round last (h,f,p,w,y) ⟨hf,hp,hw,hy⟩
 exact ⟨h',f',p',w',y',q0,q1,q2,q3,hT⟩
theorem rwIL (h:Bool) (f p w y:List At) (k:Nat) (hf:AllI f 576) (hp:AllI p 300) (hw:AllI w 1152) (hy:AllI y 24) (hk:k<24):∃(h':Bool) (f' p' w' y':List At),AllI f' 576∧AllI p' 300∧AllI w' 1152∧AllI y' 24∧To Tryz.prog 54 (c2 (c2 (c2 (c2 (c1 (c1 (c2 (c2 (c1 (c1 (c2 (c1 (c2 (c2 (bodyF Tryz.prog 202))))))))))))))) ⟨[(0,A0),(2,PX 2),(4,PX 6),(7,PX 7),(8,IK k),(9,PX 8),(13,IK k),(28,IK 0)],(rws0M h f p w y),9⟩ .normal ⟨[(0,A0),(2,PX 2),(4,PX 6),(7,PX 7),(8,IK k),(9,PX 8),(13,IK k)],(rws0M h' f' p' w' y'),9⟩:=by
 have round:∀(i:Nat) (s:Bool×List At×List At×List At×List At),i<24→(AllI s.2.1 576∧AllI s.2.2.1 300∧AllI s.2.2.2.1 1152∧AllI s.2.2.2.2 24)→∃s':Bool×List At×List At×List At×List At,(AllI s'.2.1 576∧AllI s'.2.2.1 300∧AllI s'.2.2.2.1 1152∧AllI s'.2.2.2.2 24)∧To Tryz.prog 54 (c1 (c1 (c2 (c2 (c2 (c2 (c1 (c1 (c2 (c2 (c1 (c1 (c2 (c1 (c2 (c2 (bodyF Tryz.prog 202))))))))))))))))) ((fun (i:Nat) (s:Bool×List At×List At×List At×List At)=>(⟨[(0,A0),(2,PX 2),(4,PX 6),(7,PX 7),(8,IK k),(9,PX 8),(13,IK k),(28,IK i)],(rws0M (s.1) (s.2.1) (s.2.2.1) (s.2.2.2.1) (s.2.2.2.2)),9⟩:Kst)) i s) .normal ((fun (i:Nat) (s:Bool×List At×List At×List At×List At)=>(⟨[(0,A0),(2,PX 2),(4,PX 6),(7,PX 7),(8,IK k),(9,PX 8),(13,IK k),(28,IK i)],(rws0M (s.1) (s.2.1) (s.2.2.1) (s.2.2.2.1) (s.2.2.2.2)),9⟩:Kst)) (i+1) s'):=by
  rintro i ⟨h,f,p,w,y⟩ hlt ⟨k0,k1,k2,k3⟩
  obtain ⟨h',f',p',w',y',q0,q1,q2,q3,hT⟩:=rwI h f p w y k i k0 k1 k2 k3 hk hlt
  exact ⟨(h',f',p',w',y'),⟨q0,q1,q2,q3⟩,hT⟩
 have last:∀(s:Bool×List At×List At×List At×List At),(AllI s.2.1 576∧AllI s.2.2.1 300∧AllI s.2.2.2.1 1152∧AllI s.2.2.2.2 24)→∃s':Bool×List At×List At×List At×List At,(AllI s'.2.1 576∧AllI s'.2.2.1 300∧AllI s'.2.2.2.1 1152∧AllI s'.2.2.2.2 24)∧To Tryz.prog 54 (c1 (c1 (c2 (c2 (c2 (c2 (c1 (c1 (c2 (c2 (c1 (c1 (c2 (c1 (c2 (c2 (bodyF Tryz.prog 202))))))))))))))))) ((fun (i:Nat) (s:Bool×List At×List At×List At×List At)=>(⟨[(0,A0),(2,PX 2),(4,PX 6),(7,PX 7),(8,IK k),(9,PX 8),(13,IK k),(28,IK i)],(rws0M (s.1) (s.2.1) (s.2.2.1) (s.2.2.2.1) (s.2.2.2.2)),9⟩:Kst)) (24) s) (.exit 4) ((fun (s:Bool×List At×List At×List At×List At)=>(⟨[(0,A0),(2,PX 2),(4,PX 6),(7,PX 7),(8,IK k),(9,PX 8),(13,IK k)],(rws0M (s.1) (s.2.1) (s.2.2.1) (s.2.2.2.1) (s.2.2.2.2)),9⟩:Kst)) s'):=by
  rintro ⟨h,f,p,w,y⟩ ⟨k0,k1,k2,k3⟩
  obtain ⟨h',f',p',w',y',q0,q1,q2,q3,hT⟩:=rwIe h f p w y k k0 k1 k2 k3
  exact ⟨(h',f',p',w',y'),⟨q0,q1,q2,q3⟩,hT⟩
 obtain ⟨⟨h',f',p',w',y'⟩,⟨q0,q1,q2,q3⟩,hT⟩:=loop_upE (id:=4) (by kernel_rfl) (by kernel_rfl) round last (h,f,p,w,y) ⟨hf,hp,hw,hy⟩
 exact ⟨h',f',p',w',y',q0,q1,q2,q3,hT⟩
theorem rwDL (h:Bool) (f p w:List At) (hf:AllI f 576) (hp:AllI p 300) (hw:AllI w 1152):∃(h':Bool) (f' p' w':List At),AllI f' 576∧AllI p' 300∧AllI w' 1152∧To Tryz.prog 54 (c2 (c1 (c2 (c2 (c2 (bodyF Tryz.prog 202)))))) ⟨[(0,A0),(2,PX 2),(4,PX 6),(7,PX 7),(45,IK 0)],(rws1M h f p w),8⟩ .normal ⟨[(0,A0),(2,PX 2),(4,PX 6),(7,PX 7)],(rws1M h' f' p' w'),8⟩:=by
 have round:∀(i:Nat) (s:Bool×List At×List At×List At),i<24→(AllI s.2.1 576∧AllI s.2.2.1 300∧AllI s.2.2.2 1152)→∃s':Bool×List At×List At×List At,(AllI s'.2.1 576∧AllI s'.2.2.1 300∧AllI s'.2.2.2 1152)∧To Tryz.prog 54 (c1 (c1 (c2 (c1 (c2 (c2 (c2 (bodyF Tryz.prog 202)))))))) ((fun (i:Nat) (s:Bool×List At×List At×List At)=>(⟨[(0,A0),(2,PX 2),(4,PX 6),(7,PX 7),(45,IK i)],(rws1M (s.1) (s.2.1) (s.2.2.1) (s.2.2.2)),8⟩:Kst)) i s) .normal ((fun (i:Nat) (s:Bool×List At×List At×List At)=>(⟨[(0,A0),(2,PX 2),(4,PX 6),(7,PX 7),(45,IK i)],(rws1M (s.1) (s.2.1) (s.2.2.1) (s.2.2.2)),8⟩:Kst)) (i+1) s'):=by
  rintro i ⟨h,f,p,w⟩ hlt ⟨k0,k1,k2⟩
  obtain ⟨h',f',p',w',q0,q1,q2,hT⟩:=rwD h f p w i k0 k1 k2 hlt
  exact ⟨(h',f',p',w'),⟨q0,q1,q2⟩,hT⟩
 have last:∀(s:Bool×List At×List At×List At),(AllI s.2.1 576∧AllI s.2.2.1 300∧AllI s.2.2.2 1152)→∃s':Bool×List At×List At×List At,(AllI s'.2.1 576∧AllI s'.2.2.1 300∧AllI s'.2.2.2 1152)∧To Tryz.prog 54 (c1 (c1 (c2 (c1 (c2 (c2 (c2 (bodyF Tryz.prog 202)))))))) ((fun (i:Nat) (s:Bool×List At×List At×List At)=>(⟨[(0,A0),(2,PX 2),(4,PX 6),(7,PX 7),(45,IK i)],(rws1M (s.1) (s.2.1) (s.2.2.1) (s.2.2.2)),8⟩:Kst)) (24) s) (.exit 6) ((fun (s:Bool×List At×List At×List At)=>(⟨[(0,A0),(2,PX 2),(4,PX 6),(7,PX 7)],(rws1M (s.1) (s.2.1) (s.2.2.1) (s.2.2.2)),8⟩:Kst)) s'):=by
  rintro ⟨h,f,p,w⟩ ⟨k0,k1,k2⟩
  obtain ⟨h',f',p',w',q0,q1,q2,hT⟩:=rwDe h f p w k0 k1 k2
  exact ⟨(h',f',p',w'),⟨q0,q1,q2⟩,hT⟩
 obtain ⟨⟨h',f',p',w'⟩,⟨q0,q1,q2⟩,hT⟩:=loop_upE (id:=6) (by kernel_rfl) (by kernel_rfl) round last (h,f,p,w) ⟨hf,hp,hw⟩
 exact ⟨h',f',p',w',q0,q1,q2,hT⟩
end Go.Proofs.YtnlhpaidmiogbaaGreat

/- A function that hands out a new block, off a walk in pieces: its summary's promise. -/
set_option linter.unusedVariables false
namespace Go.Lr
open Go.RowKit
theorem gen_new {P:Program} {f:FuncId} (ho:Own P f) {args:List LV} {seen:List Nat} {ks:List Blk} {g:Nat→Option Blk} {p:Nat→Bool} {nb:Nat} {E:Env} {w:World} {v0:LV} {j:Nat} {bw:Blk} {B:Kst} {wr:List (Nat×Option Blk)}
  (hl:liveAll g seen=some ks) (hrel:Rel E g w) (hg:∀i c,g i=some c→p i=true∧okL p c.cells=true) (hpn:p nb=false) (hlt:∀i∈seen,i<nb)
  (hC:Calls P f (args.map (LV.den E)).toArray w fun e w'=>∃Eo,e = .returned (v0.den Eo)∧MRel Eo B.ms w'∧Ext w E (Kst.ms ⟨argsL 0 args,zipM seen ks,nb⟩) w' Eo B.ms)
  (hv:∀E:Env,v0.den E = .pointer (some ⟨(E j).1,(E j).pre.length,none⟩)) (hj:getM B.mem j=some bw) (hjn:nb≤j) (hbw:okL noP bw.cells=true)
  (hw:∀i b,wrG g wr i=some b→(i∈seen∧getM B.mem i=some b∧okL noP b.cells=true)∨(i ∉ seen∧g i=some b)) (hw2:∀i,(wrG g wr i).isSome→(g i).isSome):
  CallOK P f (args.map (LV.den E)).toArray w fun u w'=>∃E',u=(LV.v (.one (.ptr nb 0))).den E'∧Post w E g nb ⟨.v (.one (.ptr nb 0)),wr,[bw],[],[]⟩ E' w':=by
 obtain ⟨fn,h1,h2,h3⟩:=ho
 refine .inl ⟨fn,h1,h2,h3,hC.mono ?_⟩
 rintro e w' ⟨Eo,rfl,hm,hx⟩
 have hgn:g nb=none:=by
  cases h:g nb with
  | none=>rfl
  | some c=>have:=(hg nb c h).1;rw [hpn] at this;cases this
 have key:∀q,(getM (zipM seen ks) q).isSome→q∈seen∧(g q).isSome:=by
  intro q hq
  rw [getM_zipM hl] at hq
  by_cases t:q∈seen
  ·rw [if_pos t] at hq;exact ⟨t,hq⟩
  ·rw [if_neg t] at hq;cases hq
 have hagr:∀i,i<nb→Eo i=E i:=hx.agree
 have hsrc:∀i,(getM B.mem i).isSome→w.heap.size≤(Eo i).1∨∃q,q∈seen∧(g q).isSome∧(Eo i).1=(E q).1:=by
  intro i hi
  rcases hx.src i hi with h | ⟨q,hq,he⟩
  ·exact .inl h
  ·exact .inr ⟨q,(key q hq).1,(key q hq).2,he⟩
 have hsz:∀i b,g i=some b→(E i).1<w.heap.size:=fun i b hi=>by
  obtain ⟨r,u1,-⟩:=hrel.blk i b hi
  exact (Array.getElem?_eq_some_iff.1 u1).1
 refine ⟨_,rfl,fun i=>if i=nb then Eo j else E i,by rw [hv];simp [LV.den,V1.den,At.den], ?_⟩
 have hEn:∀i,i≠nb→(fun i=>if i=nb then Eo j else E i) i=E i:=fun i hi=>by simp [hi]
 have hfar:∀i b,wrG g wr i=some b→(Eo j).1≠(E i).1:=by
  intro i b hib he
  rcases hw i b hib with ⟨a1,a2,a3⟩ | ⟨a1,a2⟩
  ·have:j=i:=hm.rel.inj j i (by show (getM B.mem j).isSome;rw [hj];rfl) (by show (getM B.mem i).isSome;rw [a2];rfl) (by rw [hagr i (hlt i a1)];exact he)
   have:=hlt i a1
   omega
  ·rcases hsrc j (by rw [hj];rfl) with h | ⟨q,q1,q2,q3⟩
   ·have:=hsz i b a2;omega
   ·have:=hrel.inj q i q2 (by rw [a2];rfl) (by rw [←q3,he])
    exact a1 (this ▸ q1)
 refine ⟨fun i hi=> ?_,⟨fun i b hib=> ?_,fun i k hi hk he=> ?_⟩,hx.os,hx.tape,hx.output,hx.size,fun b hb hne=>hx.frame b hb fun i hi=> ?_,fun i i1 i2=> ?_⟩
 ·simp at hi
  exact hEn i (by omega)
 ·simp only [nwG] at hib
  by_cases hin:i=nb
  ·subst hin
   rw [if_pos rfl] at hib
   cases hib
   exact blkAt_ren (E:=Eo) (i:=j) hbw (by simp) (hm.rel.blk j _ hj)
  ·rw [if_neg hin] at hib
   rcases hw i b hib with ⟨a1,a2,a3⟩ | ⟨a1,a2⟩
   ·refine blkAt_ren (E:=Eo) (i:=i) a3 ?_ (hm.rel.blk i _ a2)
    rw [if_neg hin,hagr i (hlt i a1)]
   ·obtain ⟨r,u1,u2,u3⟩:=hrel.blk i b a2
    refine ⟨r, ?_,u2,fun hz=>by rw [hEn i hin];exact u3 hz⟩
    rw [hEn i hin,hx.frame _ (hsz i b a2) fun q hq hqe=> ?_]
    ·rw [u1,denL_congr (E:=E) (E':=fun i=>if i=nb then Eo j else E i) (p:=p) (fun t ht=>hEn t fun e=>by rw [e,hpn] at ht;cases ht) (hg i b a2).2]
    ·obtain ⟨s1,s2⟩:=key q hq
     have:=hrel.inj q i s2 (by rw [a2];rfl) hqe
     exact a1 (this ▸ s1)
 ·simp only [nwG] at hi hk
  by_cases hin:i=nb
  ·by_cases hkn:k=nb
   ·rw [hin,hkn]
   ·rw [if_neg hkn] at hk
    obtain ⟨b,hb⟩:=Option.isSome_iff_exists.1 hk
    simp only [hin,if_true,if_neg hkn] at he
    exact absurd he (hfar k b hb)
  ·rw [if_neg hin] at hi
   obtain ⟨b,hb⟩:=Option.isSome_iff_exists.1 hi
   by_cases hkn:k=nb
   ·simp only [hkn,if_true,if_neg hin] at he
    exact absurd he.symm (hfar i b hb)
   ·rw [if_neg hkn] at hk
    simp only [if_neg hin,if_neg hkn] at he
    exact hrel.inj i k (hw2 i hi) (hw2 k hk) he
 ·exact hne i (key i hi).2
 ·simp at i2
  have:i=nb:=by omega
  subst this
  simp only [if_true]
  rcases hsrc j (by rw [hj];rfl) with h | ⟨q,q1,q2,q3⟩
  ·exact .inl h
  ·exact .inr ⟨q,q2,q3⟩
end Go.Lr

/- thornton.rows: the whole, and its summary where thornton.Step calls it. -/
namespace Go.Proofs.YtnlhpaidmiogbaaGreat
open Go.Lr
set_option linter.unusedVariables false
set_option linter.unusedSimpArgs false
set_option maxRecDepth 20000
noncomputable abbrev rwB:Code:=bodyF Tryz.prog 202
abbrev rwt0M (h:Bool) (x0 x1 x2:List At):Mem:=[(0,flag 61 h),(2,⟨271,(0,0),0,x0⟩),(6,⟨56,(0,0),0,x1⟩),(7,⟨351,(0,0),0,x2⟩)]
abbrev rwt0B (h:Bool) (x0 x1 x2:List At):List Blk:=[flag 61 h,⟨271,(0,0),0,x0⟩,⟨56,(0,0),0,x1⟩,⟨351,(0,0),0,x2⟩]
theorem rwM4 {h:Bool} {f p w:List At} {nb:Nat} (hnb:8≤nb) (hf:AllI f 576) (hp:AllI p 300) (hw:AllI w 1152):memOKb nb (rwt0M h f p w)=true:=
 memOKc (by omega) rfl rfl (memOKc (by omega) (hf.okb _) rfl (memOKc (by omega) (hp.okb _) rfl (memOKc (by omega) (hw.okb _) rfl memOK0)))
theorem rwM5 {h:Bool} {f p w y:List At} (hf:AllI f 576) (hp:AllI p 300) (hw:AllI w 1152) (hy:AllI y 24):memOKb 9 [(0,flag 61 h),(2,⟨271,(0,0),0,f⟩),(6,⟨56,(0,0),0,p⟩),(7,⟨351,(0,0),0,w⟩),(8,⟨47,(0,0),0,y⟩)]=true:=
 memOKc (by omega) rfl rfl (memOKc (by omega) (hf.okb _) rfl (memOKc (by omega) (hp.okb _) rfl (memOKc (by omega) (hw.okb _) rfl (memOKc (by omega) (hy.okb _) rfl memOK0))))
theorem rwO (h:Bool) (f p w:List At) (k:Nat) (hf:AllI f 576) (hp:AllI p 300) (hw:AllI w 1152) (hk:k<24):∃(h':Bool) (f' p' w':List At),AllI f' 576∧AllI p' 300∧AllI w' 1152∧To Tryz.prog 54 (c1 (c1 (c2 (c1 (c2 (c2 rwB)))))) ⟨[(0,A0),(2,PX 2),(4,PX 6),(7,PX 7),(13,IK k)],(rwt0M h f p w),8⟩ .normal ⟨[(0,A0),(2,PX 2),(4,PX 6),(7,PX 7),(13,IK (k+1))],(rwt0M h' f' p' w'),8⟩:=by
 obtain ⟨h1,f1,p1,w1,a1,a2,a3,t1⟩:=rwH h f p w k hf hp hw hk
 obtain ⟨h2,f2,p2,w2,y2,b1,b2,b3,b4,t2⟩:=rwA h1 f1 p1 w1 k a1 a2 a3
 obtain ⟨h3,f3,p3,w3,y3,d1,d2,d3,d4,t3⟩:=rwS h2 f2 p2 w2 y2 k b1 b2 b3 b4 hk
 obtain ⟨h4,f4,p4,w4,y4,e1,e2,e3,e4,t4⟩:=rwML h3 f3 p3 w3 y3 k d1 d2 d3 d4 hk
 obtain ⟨h5,f5,p5,w5,y5,g1,g2,g3,g4,t5⟩:=rwS2 h4 f4 p4 w4 y4 k e1 e2 e3 e4
 obtain ⟨h6,f6,p6,w6,y6,i1,i2,i3,i4,t6⟩:=rwIL h5 f5 p5 w5 y5 k g1 g2 g3 g4 hk
 obtain ⟨h7,f7,p7,w7,j1,j2,j3,t7⟩:=rwN h6 f6 p6 w6 y6 k i1 i2 i3 i4 hk
 refine ⟨h7,f7,p7,w7,j1,j2,j3,To.lower (t1 _ _ (To.seq (by kernel_rfl) (To.block (id:=1) (by kernel_rfl) (t2 _ _ (To.pre (To.seq (by kernel_rfl) (To.seq (by kernel_rfl) t3 t4) (To.seq (by kernel_rfl) t5 t6)) (kstOK_of rfl (rwM5 b1 b2 b3 b4)) (fun q hq=> ?_) rfl rfl)) (.inr rfl)) t7)) (Nat.le_refl _) (kstOK_of rfl (rwM4 (Nat.le_refl _) j1 j2 j3))⟩
 simp only [List.mem_cons,List.not_mem_nil,or_false] at hq
 rcases hq with rfl | rfl | rfl | rfl | rfl | rfl | rfl
 ·exact ⟨A0,by simp,fun _=>rfl⟩
 ·exact ⟨PX 2,by simp,fun _=>rfl⟩
 ·exact ⟨PX 6,by simp,fun _=>rfl⟩
 ·exact ⟨PX 7,by simp,fun _=>rfl⟩
 ·exact ⟨IK k,by simp,fun _=>rfl⟩
 ·exact ⟨PP 8,by simp,fun _=>rfl⟩
 ·exact ⟨IK k,by simp,fun _=>rfl⟩
theorem rwOL (h:Bool) (f p w:List At) (hf:AllI f 576) (hp:AllI p 300) (hw:AllI w 1152):∃(h':Bool) (f' p' w':List At),AllI f' 576∧AllI p' 300∧AllI w' 1152∧To Tryz.prog 54 (c2 (c1 (c2 (c2 (bodyF Tryz.prog 202))))) ⟨[(0,A0),(2,PX 2),(4,PX 6),(7,PX 7),(13,IK 0)],(rwt0M h f p w),8⟩ .normal ⟨[(0,A0),(2,PX 2),(4,PX 6),(7,PX 7)],(rwt0M h' f' p' w'),8⟩:=by
 have round:∀(k:Nat) (s:Bool×List At×List At×List At),k<24→(AllI s.2.1 576∧AllI s.2.2.1 300∧AllI s.2.2.2 1152)→∃s':Bool×List At×List At×List At,(AllI s'.2.1 576∧AllI s'.2.2.1 300∧AllI s'.2.2.2 1152)∧To Tryz.prog 54 (c1 (c1 (c2 (c1 (c2 (c2 (bodyF Tryz.prog 202))))))) ((fun (k:Nat) (s:Bool×List At×List At×List At)=>(⟨[(0,A0),(2,PX 2),(4,PX 6),(7,PX 7),(13,IK k)],(rwt0M (s.1) (s.2.1) (s.2.2.1) (s.2.2.2)),8⟩:Kst)) k s) .normal ((fun (k:Nat) (s:Bool×List At×List At×List At)=>(⟨[(0,A0),(2,PX 2),(4,PX 6),(7,PX 7),(13,IK k)],(rwt0M (s.1) (s.2.1) (s.2.2.1) (s.2.2.2)),8⟩:Kst)) (k+1) s'):=by
  rintro k ⟨h,f,p,w⟩ hlt ⟨k0,k1,k2⟩
  obtain ⟨h',f',p',w',q0,q1,q2,hT⟩:=rwO h f p w k k0 k1 k2 hlt
  exact ⟨(h',f',p',w'),⟨q0,q1,q2⟩,hT⟩
 have last:∀(s:Bool×List At×List At×List At),(AllI s.2.1 576∧AllI s.2.2.1 300∧AllI s.2.2.2 1152)→∃s':Bool×List At×List At×List At,(AllI s'.2.1 576∧AllI s'.2.2.1 300∧AllI s'.2.2.2 1152)∧To Tryz.prog 54 (c1 (c1 (c2 (c1 (c2 (c2 (bodyF Tryz.prog 202))))))) ((fun (k:Nat) (s:Bool×List At×List At×List At)=>(⟨[(0,A0),(2,PX 2),(4,PX 6),(7,PX 7),(13,IK k)],(rwt0M (s.1) (s.2.1) (s.2.2.1) (s.2.2.2)),8⟩:Kst)) (24) s) (.exit 0) ((fun (s:Bool×List At×List At×List At)=>(⟨[(0,A0),(2,PX 2),(4,PX 6),(7,PX 7)],(rwt0M (s.1) (s.2.1) (s.2.2.1) (s.2.2.2)),8⟩:Kst)) s'):=by
  rintro ⟨h,f,p,w⟩ ⟨k0,k1,k2⟩
  obtain ⟨h',f',p',w',q0,q1,q2,hT⟩:=rwHe h f p w k0 k1 k2
  exact ⟨(h',f',p',w'),⟨q0,q1,q2⟩,hT⟩
 obtain ⟨⟨h',f',p',w'⟩,⟨q0,q1,q2⟩,hT⟩:=loop_upE (id:=0) (by kernel_rfl) (by kernel_rfl) round last (h,f,p,w) ⟨hf,hp,hw⟩
 exact ⟨h',f',p',w',q0,q1,q2,hT⟩
theorem rwS0 (dead:Nat→Value) (h:Bool) (f p:List At):projS [0,2,4,7] [0,2,6,7] (execL Tryz.prog KA1 Zl 400 (spineL 2 rwB) (Kst.st ⟨argsL 0 [A0,.v (.agg (intsAt p 0 300)),PP 2],[(2,⟨271,(0,0),0,f⟩),(0,flag 61 h)],6⟩ 54 dead []))=some (.normal,[A0,PP 2,PP 6,PP 7],[some (flag 61 h),some ⟨271,(0,0),0,f⟩,some ⟨56,(0,0),0,intsAt p 0 300⟩,some ⟨351,(0,0),0,zc 351⟩],[]):=by kernel_rfl
theorem rwZ (dead:Nat→Value) (h:Bool) (f p w:List At):projS [6] [0,2,7] (exec Tryz.prog KA1 Zl 400 (.code (c2 (c2 (c2 (c2 rwB))))) (Kst.st ⟨[(0,A0),(2,PX 2),(4,PX 6),(7,PX 7)],(rwt0M h f p w),8⟩ 54 dead []))=some (.ret,[PX 7],[some (flag 61 h),some ⟨271,(0,0),0,f⟩,some ⟨351,(0,0),0,w⟩],[]):=by kernel_rfl
theorem rwTo (h:Bool) (f p:List At) (hf:AllI f 576) (hp:AllI p 300):∃(h':Bool) (f' w':List At),AllI f' 576∧AllI w' 1152∧To Tryz.prog 54 rwB ⟨argsL 0 [A0,.v (.agg (intsAt p 0 300)),PP 2],[(2,⟨271,(0,0),0,f⟩),(0,flag 61 h)],6⟩ .ret ⟨[(6,PX 7)],[(0,flag 61 h'),(2,⟨271,(0,0),0,f'⟩),(7,⟨351,(0,0),0,w'⟩)],8⟩:=by
 have hp0:=AllI.ints p 0 300
 obtain ⟨h1,f1,p1,w1,a1,a2,a3,t1⟩:=rwO0 h f (intsAt p 0 300) (zc 351) hf hp0 zcWI
 obtain ⟨h2,f2,p2,w2,b1,b2,b3,t2⟩:=rwOL h1 f1 p1 w1 a1 a2 a3
 obtain ⟨h3,f3,p3,w3,d1,d2,d3,t3⟩:=rwF0 h2 f2 p2 w2 b1 b2 b3
 obtain ⟨h4,f4,p4,w4,e1,e2,e3,t4⟩:=rwDL h3 f3 p3 w3 d1 d2 d3
 refine ⟨h4,f4,w4,e1,e3,To.spine (z:=Zl) soundKA1 (k:=2) (slots:=[0,2,4,7]) (blks:=[0,2,6,7]) (vs:=[A0,PP 2,PP 6,PP 7]) (bs:=(rwt0B h f (intsAt p 0 300) (zc 351))) (nbB:=8) (by kernel_rfl) (fun dead=>rwS0 dead h f p) ae_nil (kstOK_of rfl (rwM4 (Nat.le_refl _) hf hp0 zcWI)) (Nat.le_of_ble_eq_true rfl) (To.pre (To.seq (by kernel_rfl) (To.seq (by kernel_rfl) t1 t2) (To.seq (by kernel_rfl) (To.seq (by kernel_rfl) t3 t4) (To.exec (z:=Zl) soundKA1 (slots:=[6]) (blks:=[0,2,7]) (vs:=[PX 7]) (bs:=[flag 61 h4,⟨271,(0,0),0,f4⟩,⟨351,(0,0),0,w4⟩]) (nbB:=8) (fun dead=>rwZ dead h4 f4 p4 w4) ae_nil (kstOK_of rfl (memOKc (Nat.le_of_ble_eq_true rfl) rfl rfl (memOKc (Nat.le_of_ble_eq_true rfl) (e1.okb _) rfl (memOKc (Nat.le_of_ble_eq_true rfl) (e3.okb _) rfl memOK0)))) (Nat.le_refl _)))) (kstOK_of rfl (rwM4 (Nat.le_refl _) hf hp0 zcWI)) (fun q hq=> ?_) rfl rfl)⟩
 simp only [List.mem_cons,List.not_mem_nil,or_false] at hq
 rcases hq with rfl | rfl | rfl | rfl
 ·exact ⟨A0,by simp,fun _=>rfl⟩
 ·exact ⟨PP 2,by simp,fun _=>rfl⟩
 ·exact ⟨PP 6,by simp,fun _=>rfl⟩
 ·exact ⟨PP 7,by simp,fun _=>rfl⟩
end Go.Proofs.YtnlhpaidmiogbaaGreat

/- thornton.rows: its summary where thornton.Step calls it. -/
namespace Go.Proofs.YtnlhpaidmiogbaaGreat
open Go.Lr Go.RowKit
set_option linter.unusedVariables false
set_option linter.unusedSimpArgs false
set_option maxRecDepth 20000
def rowP (p f:List At) (h:Bool) (q:List At×List At×Bool):Prop:=
 AllI q.1 576∧AllI q.2.1 1152∧To Tryz.prog 54 rwB ⟨argsL 0 [A0,.v (.agg (intsAt p 0 300)),PP 2],[(2,⟨271,(0,0),0,f⟩),(0,flag 61 h)],6⟩ .ret ⟨[(6,PX 7)],[(0,flag 61 q.2.2),(2,⟨271,(0,0),0,q.1⟩),(7,⟨351,(0,0),0,q.2.1⟩)],8⟩
noncomputable def rowQ (p f:List At) (h:Bool):List At×List At×Bool:=@Classical.epsilon _ ⟨([],[],false)⟩ (rowP p f h)
theorem rowQ_ok {p f:List At} (h:Bool) (hf:AllI f 576) (hp:AllI p 300):rowP p f h (rowQ p f h):=by
 obtain ⟨h',f',w',a1,a2,a3⟩:=rwTo h f p hf hp
 exact @Classical.epsilon_spec_aux _ ⟨([],[],false)⟩ (rowP p f h) ⟨(f',w',h'),a1,a2,a3⟩
noncomputable def rowS:List LV→List Nat→List Blk→Nat→Option Dl
 | [.v (.one (.ptr 0 0)),.v (.agg p),.v (.one (.ptr 2 0))],[2,0],[⟨tm,(0,0),0,f⟩,⟨ta,(0,0),0,[.bool h]⟩],6=>match Nat.beq tm 271,Nat.beq ta 61,allIB p 300,allIB f 576 with
  | true,true,true,true=>some ⟨.v (.one (.ptr 6 0)),[(2,some ⟨271,(0,0),0,mkI (intAt (rowQ p f h).1) 0 576⟩),(0,some (flag 61 (rowQ p f h).2.2))],[⟨351,(0,0),0,mkI (intAt (rowQ p f h).2.1) 0 1152⟩],[],[]⟩
  | _,_,_,_=>none
 | _,_,_,_=>none
theorem genRow:GenOK Tryz.prog 202 rowS:=by
 intro args seen ks g nb p' d E w hl hd hnd hc hrel hg hargs hn
 unfold rowS at hd
 split at hd
 ·rename_i p tm f ta h
  split at hd
  ·rename_i q1 q2 q3 q4
   cases hd
   rw [nbeq] at q1 q2
   simp only [decide_eq_true_eq] at q1 q2
   subst q1 q2
   have hp:=allIB_ok q3
   have hf:=allIB_ok q4
   obtain ⟨r1,r2,r3⟩:=rowQ_ok h hf hp
   generalize rowQ p f h=q at *
   obtain ⟨f',w',h'⟩:=q
   simp only at r1 r2 r3 hn ⊢
   rw [mkI_ints,mkI_ints,←r1.eq,←r2.eq]
   have hpn:p' 6=false:=hn 6 (Nat.le_refl _) (by simp)
   have e0:([LV.v (.one (.ptr 0 0)),.v (.agg p),.v (.one (.ptr 2 0))]:List LV)=[A0,.v (.agg (intsAt p 0 300)),PP 2]:=by rw [←hp.eq];rfl
   have hz:zipM [2,0] [⟨271,(0,0),0,f⟩,⟨61,(0,0),0,[.bool h]⟩]=[(2,⟨271,(0,0),0,f⟩),(0,flag 61 h)]:=rfl
   have hrelM:Rel E (getM [(2,⟨271,(0,0),0,f⟩),(0,flag 61 h)]) w:=by
    rw [←hz]
    refine hrel.sub fun i b hib=> ?_
    rw [getM_zipM hl] at hib
    split at hib
    ·exact hib
    ·cases hib
   have hmk:memOKb 6 [(2,⟨271,(0,0),0,f⟩),(0,flag 61 h)]=true:=memOKc (Nat.le_of_ble_eq_true rfl) (hf.okb _) rfl (memOKc (Nat.le_of_ble_eq_true rfl) rfl rfl memOK0)
   obtain ⟨m1,m2⟩:=memOKb_ok hmk
   have hC:=calls_of_To (P:=Tryz.prog) (f:=202) (c:=rwB) (v:=PX 7) (nb:=6) (args:=[A0,.v (.agg (intsAt p 0 300)),PP 2]) Tryz.func202 (by kernel_rfl) (Nat.le_of_ble_eq_true (by kernel_rfl)) (Nat.le_of_ble_eq_true (by kernel_rfl)) (fun u hu=>by
    simp only [List.mem_cons,List.not_mem_nil,or_false] at hu
    rcases hu with rfl | rfl | rfl
    ·rfl
    ·exact (AllI.ints p 0 300).okb 6
    ·rfl) m1 m2 r3 (.inr rfl) (fun dead=>by kernel_rfl) E w hrelM
   rw [e0]
   refine gen_new (own_of soundKA1 Tryz.func202 (by kernel_rfl)) (v0:=PX 7) (j:=7) hl hrel hg hpn (fun i hi=> ?_) (nb:=6) (B:=⟨[(6,PX 7)],[(0,flag 61 h'),(2,⟨271,(0,0),0,f'⟩),(7,⟨351,(0,0),0,w'⟩)],8⟩) (by rw [hz];exact hC) (fun E=>by simp [PX,LV.den,V1.den,At.den]) rfl (Nat.le_of_ble_eq_true rfl) r2.ok (fun i b hib=> ?_) (fun i hi=> ?_)
   ·simp only [List.mem_cons,List.not_mem_nil,or_false] at hi
    rcases hi with rfl | rfl <;> decide
   ·simp only [wrG] at hib
    by_cases h0:i=0
    ·subst h0
     rw [if_pos rfl] at hib
     cases hib
     exact .inl ⟨by simp,rfl,rfl⟩
    ·rw [if_neg h0] at hib
     by_cases h2:i=2
     ·subst h2
      rw [if_pos rfl] at hib
      cases hib
      exact .inl ⟨by simp,rfl,r1.ok⟩
     ·rw [if_neg h2] at hib
      exact .inr ⟨by simp [h0,h2],hib⟩
   ·simp only [wrG] at hi
    by_cases h0:i=0
    ·subst h0;exact liveAll_some hl 0 (by simp)
    ·rw [if_neg h0] at hi
     by_cases h2:i=2
     ·subst h2;exact liveAll_some hl 2 (by simp)
     ·rw [if_neg h2] at hi;exact hi
  ·cases hd
 ·cases hd
noncomputable def KA2:FuncId→Option SumK:=moreG KA1 202 rowS
theorem soundKA2:Sound Tryz.prog KA2:=soundKA1.moreG genRow
end Go.Proofs.YtnlhpaidmiogbaaGreat

/- thornton.Step: the rounds of its loops. -/
namespace Go.Proofs.YtnlhpaidmiogbaaGreat
open Go.Lr
set_option linter.unusedVariables false
set_option linter.unusedSimpArgs false
set_option maxRecDepth 20000
abbrev stp0M (h:Bool) (x0 x1 x2 x3 x4:List At):Mem:=[(0,flag 61 h),(4,⟨56,(0,0),0,x0⟩),(5,⟨308,(0,0),0,x1⟩),(6,⟨351,(0,0),0,x2⟩),(7,⟨56,(0,0),0,x3⟩),(8,⟨308,(0,0),0,x4⟩)]
abbrev stp0B (h:Bool) (x0 x1 x2 x3 x4:List At):List Blk:=[flag 61 h,⟨56,(0,0),0,x0⟩,⟨308,(0,0),0,x1⟩,⟨351,(0,0),0,x2⟩,⟨56,(0,0),0,x3⟩,⟨308,(0,0),0,x4⟩]
abbrev stp0O (h:Bool) (x0 x1 x2 x3 x4:List At):List (Option Blk):=[some ⟨61,(0,0),0,[At.bool h]⟩,some ⟨56,(0,0),0,x0⟩,some ⟨308,(0,0),0,x1⟩,some ⟨351,(0,0),0,x2⟩,some ⟨56,(0,0),0,x3⟩,some ⟨308,(0,0),0,x4⟩]
abbrev stp1M (h:Bool) (x0 x1 x2 x3 x4:List At):Mem:=[(0,flag 61 h),(1,⟨56,(0,0),0,x0⟩),(2,⟨271,(0,0),0,x1⟩),(3,⟨47,(0,0),0,x2⟩),(4,⟨56,(0,0),0,x3⟩),(5,⟨308,(0,0),0,x4⟩)]
abbrev stp1B (h:Bool) (x0 x1 x2 x3 x4:List At):List Blk:=[flag 61 h,⟨56,(0,0),0,x0⟩,⟨271,(0,0),0,x1⟩,⟨47,(0,0),0,x2⟩,⟨56,(0,0),0,x3⟩,⟨308,(0,0),0,x4⟩]
abbrev stp1O (h:Bool) (x0 x1 x2 x3 x4:List At):List (Option Blk):=[some ⟨61,(0,0),0,[At.bool h]⟩,some ⟨56,(0,0),0,x0⟩,some ⟨271,(0,0),0,x1⟩,some ⟨47,(0,0),0,x2⟩,some ⟨56,(0,0),0,x3⟩,some ⟨308,(0,0),0,x4⟩]
abbrev stp2M (h:Bool) (x0 x1 x2 x3:List At):Mem:=[(0,flag 61 h),(4,⟨56,(0,0),0,x0⟩),(5,⟨308,(0,0),0,x1⟩),(6,⟨351,(0,0),0,x2⟩),(7,⟨56,(0,0),0,x3⟩)]
abbrev stp2B (h:Bool) (x0 x1 x2 x3:List At):List Blk:=[flag 61 h,⟨56,(0,0),0,x0⟩,⟨308,(0,0),0,x1⟩,⟨351,(0,0),0,x2⟩,⟨56,(0,0),0,x3⟩]
abbrev stp2O (h:Bool) (x0 x1 x2 x3:List At):List (Option Blk):=[some ⟨61,(0,0),0,[At.bool h]⟩,some ⟨56,(0,0),0,x0⟩,some ⟨308,(0,0),0,x1⟩,some ⟨351,(0,0),0,x2⟩,some ⟨56,(0,0),0,x3⟩]
theorem sIR (dead:Nat→Value) (h:Bool) (p f q r e:List At):projS [0,5,6,7,8,9,24] [0,1,2,3,4,5] (exec Tryz.prog KA2 Zl 400 (.code (c1 (c1 (c2 (c2 (c2 (bodyF Tryz.prog 158))))))) (Kst.st ⟨[(0,A0),(5,PX 1),(6,PX 2),(7,PX 3),(8,PP 4),(9,PX 5)],(stp1M h p f q r e),6⟩ 147 dead []))=some (Ex.normal,[LV.v (V1.one (At.ptr 0 0)),LV.v (V1.one (At.ptx 1 0)),LV.v (V1.one (At.ptx 2 0)),LV.v (V1.one (At.ptx 3 0)),LV.v (V1.one (At.ptr 4 0)),LV.v (V1.one (At.ptx 5 0)),LV.v (V1.one (At.int IntKind.i64 0))],(stp1O h p f q r e),[]):=by kernel_rfl
theorem sI (h:Bool) (p f q r e:List At) (hp:AllI p 300) (hf:AllI f 576) (hq:AllI q 24) (hr:AllI r 300) (he:AllI e 48):∃ (h':Bool) (p' f' q' r' e':List At),AllI p' 300∧AllI f' 576∧AllI q' 24∧AllI r' 300∧AllI e' 48∧To Tryz.prog 147 (c1 (c1 (c2 (c2 (c2 (bodyF Tryz.prog 158)))))) ⟨[(0,A0),(5,PX 1),(6,PX 2),(7,PX 3),(8,PP 4),(9,PX 5)],(stp1M h p f q r e),6⟩ .normal ⟨[(0,A0),(5,PX 1),(6,PX 2),(7,PX 3),(8,PP 4),(9,PX 5),(24,IK 0)],(stp1M h' p' f' q' r' e'),6⟩:=by
 refine ⟨(h),(p),(f),(q),(r),(e),(by repeat' first | assumption | apply AllI.set),(by repeat' first | assumption | apply AllI.set),(by repeat' first | assumption | apply AllI.set),(by repeat' first | assumption | apply AllI.set),(by repeat' first | assumption | apply AllI.set),To.run (z:=Zl) soundKA2 (slots:=[0,5,6,7,8,9,24]) (blks:=[0,1,2,3,4,5]) (vs:=[A0,PX 1,PX 2,PX 3,PP 4,PX 5,IK 0]) (bs:=(stp1B (h) p f q r e)) (nbB:=6) (fun dead=>sIR dead h p f q r e) rfl rfl rfl ?_ (kstOK_of rfl (memOKc (Nat.lt_of_sub_eq_succ rfl) rfl rfl (memOKc (Nat.lt_of_sub_eq_succ rfl) (AllI.okb (n:=300) (by repeat' first | assumption | apply AllI.set) _) rfl (memOKc (Nat.lt_of_sub_eq_succ rfl) (AllI.okb (n:=576) (by repeat' first | assumption | apply AllI.set) _) rfl (memOKc (Nat.lt_of_sub_eq_succ rfl) (AllI.okb (n:=24) (by repeat' first | assumption | apply AllI.set) _) rfl (memOKc (Nat.lt_of_sub_eq_succ rfl) (AllI.okb (n:=300) (by repeat' first | assumption | apply AllI.set) _) rfl (memOKc (Nat.lt_of_sub_eq_succ rfl) (AllI.okb (n:=48) (by repeat' first | assumption | apply AllI.set) _) rfl memOK0))))))) (Nat.le_refl _)⟩
 have lnp:=hp.len
 have lnf:=hf.len
 have lnq:=hq.len
 have lnr:=hr.len
 have lne:=he.len
 repeat' first | exact ae_nil | apply ae_cons
theorem sAR (dead:Nat→Value) (h:Bool) (p f q r e:List At) (i:Nat):projS [0,5,6,7,8,9,24] [0,1,2,3,4,5] (execL Tryz.prog KA2 Zl 400 (spineL 2 (c1 (c1 (c2 (c1 (c2 (c2 (c2 (bodyF Tryz.prog 158))))))))) (Kst.st ⟨[(0,A0),(5,PX 1),(6,PX 2),(7,PX 3),(8,PP 4),(9,PX 5),(24,IK i)],(stp1M h p f q r e),6⟩ 147 dead [some true]))=some (Ex.normal,[LV.v (V1.one (At.ptr 0 0)),LV.v (V1.one (At.ptx 1 0)),LV.v (V1.one (At.ptx 2 0)),LV.v (V1.one (At.ptx 3 0)),LV.v (V1.one (At.ptr 4 0)),LV.v (V1.one (At.ptx 5 0)),LV.v (V1.one (At.int IntKind.i64 (i:Int)))],(stp1O h p f q r e),[(decide ((i:Int)<24),true)]):=by kernel_rfl
theorem sA (h:Bool) (p f q r e:List At) (i:Nat) (hp:AllI p 300) (hf:AllI f 576) (hq:AllI q 24) (hr:AllI r 300) (he:AllI e 48) (hi:i<24):∃ (h':Bool) (p' f' q' r' e':List At),AllI p' 300∧AllI f' 576∧AllI q' 24∧AllI r' 300∧AllI e' 48∧∀(ee:Ex) (CC:Kst),To Tryz.prog 147 (dropC 2 (c1 (c1 (c2 (c1 (c2 (c2 (c2 (bodyF Tryz.prog 158))))))))) ⟨[(0,A0),(5,PX 1),(6,PX 2),(7,PX 3),(8,PP 4),(9,PX 5),(24,IK i)],(stp1M h' p' f' q' r' e'),6⟩ ee CC→To Tryz.prog 147 (c1 (c1 (c2 (c1 (c2 (c2 (c2 (bodyF Tryz.prog 158)))))))) ⟨[(0,A0),(5,PX 1),(6,PX 2),(7,PX 3),(8,PP 4),(9,PX 5),(24,IK i)],(stp1M h p f q r e),6⟩ ee CC:=by
 refine ⟨(h),(p),(f),(q),(r),(e),(by repeat' first | assumption | apply AllI.set),(by repeat' first | assumption | apply AllI.set),(by repeat' first | assumption | apply AllI.set),(by repeat' first | assumption | apply AllI.set),(by repeat' first | assumption | apply AllI.set),fun ee CC hC=>To.spineR (k:=2) (z:=Zl) soundKA2 (slots:=[0,5,6,7,8,9,24]) (blks:=[0,1,2,3,4,5]) (vs:=[A0,PX 1,PX 2,PX 3,PP 4,PX 5,IK i]) (bs:=(stp1B (h) p f q r e)) (nbB:=6) (by kernel_rfl) (fun dead=>sAR dead h p f q r e i) rfl rfl rfl ?_ (kstOK_of rfl (memOKc (Nat.lt_of_sub_eq_succ rfl) rfl rfl (memOKc (Nat.lt_of_sub_eq_succ rfl) (AllI.okb (n:=300) (by repeat' first | assumption | apply AllI.set) _) rfl (memOKc (Nat.lt_of_sub_eq_succ rfl) (AllI.okb (n:=576) (by repeat' first | assumption | apply AllI.set) _) rfl (memOKc (Nat.lt_of_sub_eq_succ rfl) (AllI.okb (n:=24) (by repeat' first | assumption | apply AllI.set) _) rfl (memOKc (Nat.lt_of_sub_eq_succ rfl) (AllI.okb (n:=300) (by repeat' first | assumption | apply AllI.set) _) rfl (memOKc (Nat.lt_of_sub_eq_succ rfl) (AllI.okb (n:=48) (by repeat' first | assumption | apply AllI.set) _) rfl memOK0))))))) (Nat.le_refl _) hC⟩
 have lnp:=hp.len
 have lnf:=hf.len
 have lnq:=hq.len
 have lnr:=hr.len
 have lne:=he.len
 repeat' first | exact ae_nil | apply ae_cons
 all_goals first
  | (simp only [Bool.and_eq_true,hp.part,hp.ok,hf.part,hf.ok,hq.part,hq.ok,hr.part,hr.ok,he.part,he.ok,decide_eq_true_eq,true_and,and_true];omega)
theorem sAeR (dead:Nat→Value) (h:Bool) (p f q r e:List At):projS [0,5,6,7,8,9] [0,1,2,3,4,5] (exec Tryz.prog KA2 Zl 400 (.code (c1 (c1 (c2 (c1 (c2 (c2 (c2 (bodyF Tryz.prog 158))))))))) (Kst.st ⟨[(0,A0),(5,PX 1),(6,PX 2),(7,PX 3),(8,PP 4),(9,PX 5),(24,IK 24)],(stp1M h p f q r e),6⟩ 147 dead []))=some (Ex.exit 0,[LV.v (V1.one (At.ptr 0 0)),LV.v (V1.one (At.ptx 1 0)),LV.v (V1.one (At.ptx 2 0)),LV.v (V1.one (At.ptx 3 0)),LV.v (V1.one (At.ptr 4 0)),LV.v (V1.one (At.ptx 5 0))],(stp1O h p f q r e),[]):=by kernel_rfl
theorem sAe (h:Bool) (p f q r e:List At) (hp:AllI p 300) (hf:AllI f 576) (hq:AllI q 24) (hr:AllI r 300) (he:AllI e 48):∃ (h':Bool) (p' f' q' r' e':List At),AllI p' 300∧AllI f' 576∧AllI q' 24∧AllI r' 300∧AllI e' 48∧To Tryz.prog 147 (c1 (c1 (c2 (c1 (c2 (c2 (c2 (bodyF Tryz.prog 158)))))))) ⟨[(0,A0),(5,PX 1),(6,PX 2),(7,PX 3),(8,PP 4),(9,PX 5),(24,IK 24)],(stp1M h p f q r e),6⟩ (.exit 0) ⟨[(0,A0),(5,PX 1),(6,PX 2),(7,PX 3),(8,PP 4),(9,PX 5)],(stp1M h' p' f' q' r' e'),6⟩:=by
 refine ⟨(h),(p),(f),(q),(r),(e),(by repeat' first | assumption | apply AllI.set),(by repeat' first | assumption | apply AllI.set),(by repeat' first | assumption | apply AllI.set),(by repeat' first | assumption | apply AllI.set),(by repeat' first | assumption | apply AllI.set),To.run (z:=Zl) soundKA2 (slots:=[0,5,6,7,8,9]) (blks:=[0,1,2,3,4,5]) (vs:=[A0,PX 1,PX 2,PX 3,PP 4,PX 5]) (bs:=(stp1B (h) p f q r e)) (nbB:=6) (fun dead=>sAeR dead h p f q r e) rfl rfl rfl ?_ (kstOK_of rfl (memOKc (Nat.lt_of_sub_eq_succ rfl) rfl rfl (memOKc (Nat.lt_of_sub_eq_succ rfl) (AllI.okb (n:=300) (by repeat' first | assumption | apply AllI.set) _) rfl (memOKc (Nat.lt_of_sub_eq_succ rfl) (AllI.okb (n:=576) (by repeat' first | assumption | apply AllI.set) _) rfl (memOKc (Nat.lt_of_sub_eq_succ rfl) (AllI.okb (n:=24) (by repeat' first | assumption | apply AllI.set) _) rfl (memOKc (Nat.lt_of_sub_eq_succ rfl) (AllI.okb (n:=300) (by repeat' first | assumption | apply AllI.set) _) rfl (memOKc (Nat.lt_of_sub_eq_succ rfl) (AllI.okb (n:=48) (by repeat' first | assumption | apply AllI.set) _) rfl memOK0))))))) (Nat.le_refl _)⟩
 have lnp:=hp.len
 have lnf:=hf.len
 have lnq:=hq.len
 have lnr:=hr.len
 have lne:=he.len
 repeat' first | exact ae_nil | apply ae_cons
theorem sBR (dead:Nat→Value) (h:Bool) (p f q r e:List At) (i:Nat):projS [0,5,6,7,8,9,10,24] [0,1,2,3,4,5] (execL Tryz.prog KA2 Zl 400 (spineL 2 (c1 (c1 (c2 (c2 (c1 (c1 (c2 (c1 (c2 (c2 (c2 (bodyF Tryz.prog 158))))))))))))) (Kst.st ⟨[(0,A0),(5,PX 1),(6,PX 2),(7,PX 3),(8,PP 4),(9,PX 5),(24,IK i)],(stp1M h p f q r e),6⟩ 147 dead []))=some (Ex.normal,[LV.v (V1.one (At.ptr 0 0)),LV.v (V1.one (At.ptx 1 0)),LV.v (V1.one (At.ptx 2 0)),LV.v (V1.one (At.ptx 3 0)),LV.v (V1.one (At.ptr 4 0)),LV.v (V1.one (At.ptx 5 0)),LV.v (V1.one (At.int IntKind.i64 (i:Int))),LV.v (V1.one (At.int IntKind.i64 (i:Int)))],(stp1O (h||clampH (intAt q (0+(i:Int).toNat*1)) 0 72057594037927936) p f q r ((List.set (e.set (0+(i:Int).toNat*1) (At.int IntKind.i64 (intAt p (0+276+(i:Int).toNat*1))))) (0+(wr IntKind.i64 (24+(i:Int))).toNat*1) (At.int IntKind.i64 (clampV (intAt q (0+(i:Int).toNat*1)) 0 72057594037927936)))),[(decide (0+(wr IntKind.i64 (24+(i:Int))).toNat*1<(e.set (0+(i:Int).toNat*1) (At.int IntKind.i64 (intAt p (0+276+(i:Int).toNat*1)))).length),true),(decide (0≤wr IntKind.i64 (24+(i:Int)))&&decide (wr IntKind.i64 (24+(i:Int))<48),true),(decide (0+(i:Int).toNat*1<e.length),true),(decide (0≤(i:Int))&&decide ((i:Int)<48),true),(isIntAt IntKind.i64 q (0+(i:Int).toNat*1),true),(decide (0≤(i:Int))&&decide ((i:Int)<24),true),(isIntAt IntKind.i64 p (0+276+(i:Int).toNat*1),true),(decide (0≤(i:Int))&&decide ((i:Int)<24),true)]):=by kernel_rfl
theorem sB (h:Bool) (p f q r e:List At) (i:Nat) (hp:AllI p 300) (hf:AllI f 576) (hq:AllI q 24) (hr:AllI r 300) (he:AllI e 48) (hi:i<24):∃ (h':Bool) (p' f' q' r' e':List At),AllI p' 300∧AllI f' 576∧AllI q' 24∧AllI r' 300∧AllI e' 48∧∀(ee:Ex) (CC:Kst),To Tryz.prog 147 (dropC 2 (c1 (c1 (c2 (c2 (c1 (c1 (c2 (c1 (c2 (c2 (c2 (bodyF Tryz.prog 158))))))))))))) ⟨[(0,A0),(5,PX 1),(6,PX 2),(7,PX 3),(8,PP 4),(9,PX 5),(10,IK i),(24,IK i)],(stp1M h' p' f' q' r' e'),6⟩ ee CC→To Tryz.prog 147 (c1 (c1 (c2 (c2 (c1 (c1 (c2 (c1 (c2 (c2 (c2 (bodyF Tryz.prog 158)))))))))))) ⟨[(0,A0),(5,PX 1),(6,PX 2),(7,PX 3),(8,PP 4),(9,PX 5),(24,IK i)],(stp1M h p f q r e),6⟩ ee CC:=by
 refine ⟨((h||clampH (intAt q (0+(i:Int).toNat*1)) 0 72057594037927936)),(p),(f),(q),(r),((List.set (e.set (0+(i:Int).toNat*1) (At.int IntKind.i64 (intAt p (0+276+(i:Int).toNat*1))))) (0+(wr IntKind.i64 (24+(i:Int))).toNat*1) (At.int IntKind.i64 (clampV (intAt q (0+(i:Int).toNat*1)) 0 72057594037927936))),(by repeat' first | assumption | apply AllI.set),(by repeat' first | assumption | apply AllI.set),(by repeat' first | assumption | apply AllI.set),(by repeat' first | assumption | apply AllI.set),(by repeat' first | assumption | apply AllI.set),fun ee CC hC=>To.spineR (k:=2) (z:=Zl) soundKA2 (slots:=[0,5,6,7,8,9,10,24]) (blks:=[0,1,2,3,4,5]) (vs:=[A0,PX 1,PX 2,PX 3,PP 4,PX 5,IK i,IK i]) (bs:=(stp1B ((h||clampH (intAt q (0+(i:Int).toNat*1)) 0 72057594037927936)) p f q r ((List.set (e.set (0+(i:Int).toNat*1) (At.int IntKind.i64 (intAt p (0+276+(i:Int).toNat*1))))) (0+(wr IntKind.i64 (24+(i:Int))).toNat*1) (At.int IntKind.i64 (clampV (intAt q (0+(i:Int).toNat*1)) 0 72057594037927936))))) (nbB:=6) (by kernel_rfl) (fun dead=>sBR dead h p f q r e i) rfl rfl rfl ?_ (kstOK_of rfl (memOKc (Nat.lt_of_sub_eq_succ rfl) rfl rfl (memOKc (Nat.lt_of_sub_eq_succ rfl) (AllI.okb (n:=300) (by repeat' first | assumption | apply AllI.set) _) rfl (memOKc (Nat.lt_of_sub_eq_succ rfl) (AllI.okb (n:=576) (by repeat' first | assumption | apply AllI.set) _) rfl (memOKc (Nat.lt_of_sub_eq_succ rfl) (AllI.okb (n:=24) (by repeat' first | assumption | apply AllI.set) _) rfl (memOKc (Nat.lt_of_sub_eq_succ rfl) (AllI.okb (n:=300) (by repeat' first | assumption | apply AllI.set) _) rfl (memOKc (Nat.lt_of_sub_eq_succ rfl) (AllI.okb (n:=48) (by repeat' first | assumption | apply AllI.set) _) rfl memOK0))))))) (Nat.le_refl _) hC⟩
 have lnp:=hp.len
 have lnf:=hf.len
 have lnq:=hq.len
 have lnr:=hr.len
 have lne:=he.len
 have e24:wr .i64 (24+(i:Int))=((24+i:Nat):Int):=by
  show w64 (24+(i:Int))=_
  rw [w64_in (by omega) (by omega)];omega
 simp only [e24]
 repeat' first | exact ae_nil | apply ae_cons
 all_goals first
  | (with_reducible refine decide_eq_true ?_;(try simp only [Int.toNat_natCast,List.length_set]);omega)
  | (with_reducible refine AllI.ats (by assumption) _ ?_;simp only [Int.toNat_natCast];omega)
  | (simp only [Bool.and_eq_true,hp.part,hp.ok,hf.part,hf.ok,hq.part,hq.ok,hr.part,hr.ok,he.part,he.ok,decide_eq_true_eq,true_and,and_true];omega)
theorem sCR (dead:Nat→Value) (h:Bool) (p f q r e:List At) (i:Nat):projS [0,5,6,7,8,9,10,24,41] [0,1,2,3,4,5] (exec Tryz.prog KA2 Zl 400 (.code (c1 (c2 (c2 (c1 (c1 (c2 (c2 (c1 (c1 (c2 (c1 (c2 (c2 (c2 (bodyF Tryz.prog 158)))))))))))))))) (Kst.st ⟨[(0,A0),(5,PX 1),(6,PX 2),(7,PX 3),(8,PP 4),(9,PX 5),(10,IK i),(24,IK i)],(stp1M h p f q r e),6⟩ 147 dead []))=some (Ex.normal,[LV.v (V1.one (At.ptr 0 0)),LV.v (V1.one (At.ptx 1 0)),LV.v (V1.one (At.ptx 2 0)),LV.v (V1.one (At.ptx 3 0)),LV.v (V1.one (At.ptr 4 0)),LV.v (V1.one (At.ptx 5 0)),LV.v (V1.one (At.int IntKind.i64 (i:Int))),LV.v (V1.one (At.int IntKind.i64 (i:Int))),LV.v (V1.one (At.int IntKind.i64 0))],(stp1O h p f q r e),[]):=by kernel_rfl
theorem sC (h:Bool) (p f q r e:List At) (i:Nat) (hp:AllI p 300) (hf:AllI f 576) (hq:AllI q 24) (hr:AllI r 300) (he:AllI e 48):∃ (h':Bool) (p' f' q' r' e':List At),AllI p' 300∧AllI f' 576∧AllI q' 24∧AllI r' 300∧AllI e' 48∧To Tryz.prog 147 (c1 (c2 (c2 (c1 (c1 (c2 (c2 (c1 (c1 (c2 (c1 (c2 (c2 (c2 (bodyF Tryz.prog 158))))))))))))))) ⟨[(0,A0),(5,PX 1),(6,PX 2),(7,PX 3),(8,PP 4),(9,PX 5),(10,IK i),(24,IK i)],(stp1M h p f q r e),6⟩ .normal ⟨[(0,A0),(5,PX 1),(6,PX 2),(7,PX 3),(8,PP 4),(9,PX 5),(10,IK i),(24,IK i),(41,IK 0)],(stp1M h' p' f' q' r' e'),6⟩:=by
 refine ⟨(h),(p),(f),(q),(r),(e),(by repeat' first | assumption | apply AllI.set),(by repeat' first | assumption | apply AllI.set),(by repeat' first | assumption | apply AllI.set),(by repeat' first | assumption | apply AllI.set),(by repeat' first | assumption | apply AllI.set),To.run (z:=Zl) soundKA2 (slots:=[0,5,6,7,8,9,10,24,41]) (blks:=[0,1,2,3,4,5]) (vs:=[A0,PX 1,PX 2,PX 3,PP 4,PX 5,IK i,IK i,IK 0]) (bs:=(stp1B (h) p f q r e)) (nbB:=6) (fun dead=>sCR dead h p f q r e i) rfl rfl rfl ?_ (kstOK_of rfl (memOKc (Nat.lt_of_sub_eq_succ rfl) rfl rfl (memOKc (Nat.lt_of_sub_eq_succ rfl) (AllI.okb (n:=300) (by repeat' first | assumption | apply AllI.set) _) rfl (memOKc (Nat.lt_of_sub_eq_succ rfl) (AllI.okb (n:=576) (by repeat' first | assumption | apply AllI.set) _) rfl (memOKc (Nat.lt_of_sub_eq_succ rfl) (AllI.okb (n:=24) (by repeat' first | assumption | apply AllI.set) _) rfl (memOKc (Nat.lt_of_sub_eq_succ rfl) (AllI.okb (n:=300) (by repeat' first | assumption | apply AllI.set) _) rfl (memOKc (Nat.lt_of_sub_eq_succ rfl) (AllI.okb (n:=48) (by repeat' first | assumption | apply AllI.set) _) rfl memOK0))))))) (Nat.le_refl _)⟩
 have lnp:=hp.len
 have lnf:=hf.len
 have lnq:=hq.len
 have lnr:=hr.len
 have lne:=he.len
 repeat' first | exact ae_nil | apply ae_cons
theorem sDR (dead:Nat→Value) (h:Bool) (p f q r e:List At) (i k:Nat):projS [0,5,6,7,8,9,10,24,41] [0,1,2,3,4,5] (exec Tryz.prog KA2 Zl 400 (.code (c1 (c1 (c2 (c2 (c2 (c1 (c1 (c2 (c2 (c1 (c1 (c2 (c1 (c2 (c2 (c2 (bodyF Tryz.prog 158)))))))))))))))))) (Kst.st ⟨[(0,A0),(5,PX 1),(6,PX 2),(7,PX 3),(8,PP 4),(9,PX 5),(10,IK i),(24,IK i),(41,IK k)],(stp1M h p f q r e),6⟩ 147 dead [some true]))=some (Ex.normal,[LV.v (V1.one (At.ptr 0 0)),LV.v (V1.one (At.ptx 1 0)),LV.v (V1.one (At.ptx 2 0)),LV.v (V1.one (At.ptx 3 0)),LV.v (V1.one (At.ptr 4 0)),LV.v (V1.one (At.ptx 5 0)),LV.v (V1.one (At.int IntKind.i64 (i:Int))),LV.v (V1.one (At.int IntKind.i64 (i:Int))),LV.v (V1.one (At.int IntKind.i64 (wr IntKind.i64 ((k:Int)+1))))],(stp1O (h||satH (intAt f (0+(i:Int).toNat*24+(k:Int).toNat*1))) p ((List.set f) (0+(i:Int).toNat*24+(k:Int).toNat*1) (At.int IntKind.i64 (satV (intAt f (0+(i:Int).toNat*24+(k:Int).toNat*1))))) q r e),[(decide (0+(i:Int).toNat*24+(k:Int).toNat*1<f.length),true),(decide (0≤(k:Int))&&decide ((k:Int)<24),true),(decide (0≤(i:Int))&&decide ((i:Int)<24),true),(isIntAt IntKind.i64 f (0+(i:Int).toNat*24+(k:Int).toNat*1),true),(decide (0≤(k:Int))&&decide ((k:Int)<24),true),(decide (0≤(i:Int))&&decide ((i:Int)<24),true),(decide ((k:Int)<24),true)]):=by kernel_rfl
theorem sD (h:Bool) (p f q r e:List At) (i k:Nat) (hp:AllI p 300) (hf:AllI f 576) (hq:AllI q 24) (hr:AllI r 300) (he:AllI e 48) (hi:i<24) (hk:k<24):∃ (h':Bool) (p' f' q' r' e':List At),AllI p' 300∧AllI f' 576∧AllI q' 24∧AllI r' 300∧AllI e' 48∧To Tryz.prog 147 (c1 (c1 (c2 (c2 (c2 (c1 (c1 (c2 (c2 (c1 (c1 (c2 (c1 (c2 (c2 (c2 (bodyF Tryz.prog 158))))))))))))))))) ⟨[(0,A0),(5,PX 1),(6,PX 2),(7,PX 3),(8,PP 4),(9,PX 5),(10,IK i),(24,IK i),(41,IK k)],(stp1M h p f q r e),6⟩ .normal ⟨[(0,A0),(5,PX 1),(6,PX 2),(7,PX 3),(8,PP 4),(9,PX 5),(10,IK i),(24,IK i),(41,IK (k+1))],(stp1M h' p' f' q' r' e'),6⟩:=by
 refine ⟨((h||satH (intAt f (0+(i:Int).toNat*24+(k:Int).toNat*1)))),(p),((List.set f) (0+(i:Int).toNat*24+(k:Int).toNat*1) (At.int IntKind.i64 (satV (intAt f (0+(i:Int).toNat*24+(k:Int).toNat*1))))),(q),(r),(e),(by repeat' first | assumption | apply AllI.set),(by repeat' first | assumption | apply AllI.set),(by repeat' first | assumption | apply AllI.set),(by repeat' first | assumption | apply AllI.set),(by repeat' first | assumption | apply AllI.set),To.run (z:=Zl) soundKA2 (slots:=[0,5,6,7,8,9,10,24,41]) (blks:=[0,1,2,3,4,5]) (vs:=[A0,PX 1,PX 2,PX 3,PP 4,PX 5,IK i,IK i,IK (k+1)]) (bs:=(stp1B ((h||satH (intAt f (0+(i:Int).toNat*24+(k:Int).toNat*1)))) p ((List.set f) (0+(i:Int).toNat*24+(k:Int).toNat*1) (At.int IntKind.i64 (satV (intAt f (0+(i:Int).toNat*24+(k:Int).toNat*1))))) q r e)) (nbB:=6) (fun dead=>sDR dead h p f q r e i k) rfl (by rw [wk k (by omega)];rfl) rfl ?_ (kstOK_of rfl (memOKc (Nat.lt_of_sub_eq_succ rfl) rfl rfl (memOKc (Nat.lt_of_sub_eq_succ rfl) (AllI.okb (n:=300) (by repeat' first | assumption | apply AllI.set) _) rfl (memOKc (Nat.lt_of_sub_eq_succ rfl) (AllI.okb (n:=576) (by repeat' first | assumption | apply AllI.set) _) rfl (memOKc (Nat.lt_of_sub_eq_succ rfl) (AllI.okb (n:=24) (by repeat' first | assumption | apply AllI.set) _) rfl (memOKc (Nat.lt_of_sub_eq_succ rfl) (AllI.okb (n:=300) (by repeat' first | assumption | apply AllI.set) _) rfl (memOKc (Nat.lt_of_sub_eq_succ rfl) (AllI.okb (n:=48) (by repeat' first | assumption | apply AllI.set) _) rfl memOK0))))))) (Nat.le_refl _)⟩
 have lnp:=hp.len
 have lnf:=hf.len
 have lnq:=hq.len
 have lnr:=hr.len
 have lne:=he.len
 repeat' first | exact ae_nil | apply ae_cons
 all_goals first
  | (with_reducible refine AllI.ats (by assumption) _ ?_;simp only [Int.toNat_natCast];omega)
  | (simp only [Bool.and_eq_true,hp.part,hp.ok,hf.part,hf.ok,hq.part,hq.ok,hr.part,hr.ok,he.part,he.ok,decide_eq_true_eq,true_and,and_true];omega)
theorem sDeR (dead:Nat→Value) (h:Bool) (p f q r e:List At) (i:Nat):projS [0,5,6,7,8,9,10,24] [0,1,2,3,4,5] (exec Tryz.prog KA2 Zl 400 (.code (c1 (c1 (c2 (c2 (c2 (c1 (c1 (c2 (c2 (c1 (c1 (c2 (c1 (c2 (c2 (c2 (bodyF Tryz.prog 158)))))))))))))))))) (Kst.st ⟨[(0,A0),(5,PX 1),(6,PX 2),(7,PX 3),(8,PP 4),(9,PX 5),(10,IK i),(24,IK i),(41,IK 24)],(stp1M h p f q r e),6⟩ 147 dead []))=some (Ex.exit 2,[LV.v (V1.one (At.ptr 0 0)),LV.v (V1.one (At.ptx 1 0)),LV.v (V1.one (At.ptx 2 0)),LV.v (V1.one (At.ptx 3 0)),LV.v (V1.one (At.ptr 4 0)),LV.v (V1.one (At.ptx 5 0)),LV.v (V1.one (At.int IntKind.i64 (i:Int))),LV.v (V1.one (At.int IntKind.i64 (i:Int)))],(stp1O h p f q r e),[]):=by kernel_rfl
theorem sDe (h:Bool) (p f q r e:List At) (i:Nat) (hp:AllI p 300) (hf:AllI f 576) (hq:AllI q 24) (hr:AllI r 300) (he:AllI e 48):∃ (h':Bool) (p' f' q' r' e':List At),AllI p' 300∧AllI f' 576∧AllI q' 24∧AllI r' 300∧AllI e' 48∧To Tryz.prog 147 (c1 (c1 (c2 (c2 (c2 (c1 (c1 (c2 (c2 (c1 (c1 (c2 (c1 (c2 (c2 (c2 (bodyF Tryz.prog 158))))))))))))))))) ⟨[(0,A0),(5,PX 1),(6,PX 2),(7,PX 3),(8,PP 4),(9,PX 5),(10,IK i),(24,IK i),(41,IK 24)],(stp1M h p f q r e),6⟩ (.exit 2) ⟨[(0,A0),(5,PX 1),(6,PX 2),(7,PX 3),(8,PP 4),(9,PX 5),(10,IK i),(24,IK i)],(stp1M h' p' f' q' r' e'),6⟩:=by
 refine ⟨(h),(p),(f),(q),(r),(e),(by repeat' first | assumption | apply AllI.set),(by repeat' first | assumption | apply AllI.set),(by repeat' first | assumption | apply AllI.set),(by repeat' first | assumption | apply AllI.set),(by repeat' first | assumption | apply AllI.set),To.run (z:=Zl) soundKA2 (slots:=[0,5,6,7,8,9,10,24]) (blks:=[0,1,2,3,4,5]) (vs:=[A0,PX 1,PX 2,PX 3,PP 4,PX 5,IK i,IK i]) (bs:=(stp1B (h) p f q r e)) (nbB:=6) (fun dead=>sDeR dead h p f q r e i) rfl rfl rfl ?_ (kstOK_of rfl (memOKc (Nat.lt_of_sub_eq_succ rfl) rfl rfl (memOKc (Nat.lt_of_sub_eq_succ rfl) (AllI.okb (n:=300) (by repeat' first | assumption | apply AllI.set) _) rfl (memOKc (Nat.lt_of_sub_eq_succ rfl) (AllI.okb (n:=576) (by repeat' first | assumption | apply AllI.set) _) rfl (memOKc (Nat.lt_of_sub_eq_succ rfl) (AllI.okb (n:=24) (by repeat' first | assumption | apply AllI.set) _) rfl (memOKc (Nat.lt_of_sub_eq_succ rfl) (AllI.okb (n:=300) (by repeat' first | assumption | apply AllI.set) _) rfl (memOKc (Nat.lt_of_sub_eq_succ rfl) (AllI.okb (n:=48) (by repeat' first | assumption | apply AllI.set) _) rfl memOK0))))))) (Nat.le_refl _)⟩
 have lnp:=hp.len
 have lnf:=hf.len
 have lnq:=hq.len
 have lnr:=hr.len
 have lne:=he.len
 repeat' first | exact ae_nil | apply ae_cons
theorem sER (dead:Nat→Value) (h:Bool) (p f q r e:List At) (i:Nat):projS [0,5,6,7,8,9,24] [0,1,2,3,4,5] (exec Tryz.prog KA2 Zl 400 (.code (c2 (c2 (c2 (c1 (c1 (c2 (c1 (c2 (c2 (c2 (bodyF Tryz.prog 158)))))))))))) (Kst.st ⟨[(0,A0),(5,PX 1),(6,PX 2),(7,PX 3),(8,PP 4),(9,PX 5),(10,IK i),(24,IK i)],(stp1M h p f q r e),6⟩ 147 dead []))=some (Ex.normal,[LV.v (V1.one (At.ptr 0 0)),LV.v (V1.one (At.ptx 1 0)),LV.v (V1.one (At.ptx 2 0)),LV.v (V1.one (At.ptx 3 0)),LV.v (V1.one (At.ptr 4 0)),LV.v (V1.one (At.ptx 5 0)),LV.v (V1.one (At.int IntKind.i64 (wr IntKind.i64 ((i:Int)+1))))],(stp1O h p f q r e),[]):=by kernel_rfl
theorem sE (h:Bool) (p f q r e:List At) (i:Nat) (hp:AllI p 300) (hf:AllI f 576) (hq:AllI q 24) (hr:AllI r 300) (he:AllI e 48) (hi:i<24):∃ (h':Bool) (p' f' q' r' e':List At),AllI p' 300∧AllI f' 576∧AllI q' 24∧AllI r' 300∧AllI e' 48∧To Tryz.prog 147 (c2 (c2 (c2 (c1 (c1 (c2 (c1 (c2 (c2 (c2 (bodyF Tryz.prog 158))))))))))) ⟨[(0,A0),(5,PX 1),(6,PX 2),(7,PX 3),(8,PP 4),(9,PX 5),(10,IK i),(24,IK i)],(stp1M h p f q r e),6⟩ .normal ⟨[(0,A0),(5,PX 1),(6,PX 2),(7,PX 3),(8,PP 4),(9,PX 5),(24,IK (i+1))],(stp1M h' p' f' q' r' e'),6⟩:=by
 refine ⟨(h),(p),(f),(q),(r),(e),(by repeat' first | assumption | apply AllI.set),(by repeat' first | assumption | apply AllI.set),(by repeat' first | assumption | apply AllI.set),(by repeat' first | assumption | apply AllI.set),(by repeat' first | assumption | apply AllI.set),To.run (z:=Zl) soundKA2 (slots:=[0,5,6,7,8,9,24]) (blks:=[0,1,2,3,4,5]) (vs:=[A0,PX 1,PX 2,PX 3,PP 4,PX 5,IK (i+1)]) (bs:=(stp1B (h) p f q r e)) (nbB:=6) (fun dead=>sER dead h p f q r e i) rfl (by rw [wk i (by omega)];rfl) rfl ?_ (kstOK_of rfl (memOKc (Nat.lt_of_sub_eq_succ rfl) rfl rfl (memOKc (Nat.lt_of_sub_eq_succ rfl) (AllI.okb (n:=300) (by repeat' first | assumption | apply AllI.set) _) rfl (memOKc (Nat.lt_of_sub_eq_succ rfl) (AllI.okb (n:=576) (by repeat' first | assumption | apply AllI.set) _) rfl (memOKc (Nat.lt_of_sub_eq_succ rfl) (AllI.okb (n:=24) (by repeat' first | assumption | apply AllI.set) _) rfl (memOKc (Nat.lt_of_sub_eq_succ rfl) (AllI.okb (n:=300) (by repeat' first | assumption | apply AllI.set) _) rfl (memOKc (Nat.lt_of_sub_eq_succ rfl) (AllI.okb (n:=48) (by repeat' first | assumption | apply AllI.set) _) rfl memOK0))))))) (Nat.le_refl _)⟩
 have lnp:=hp.len
 have lnf:=hf.len
 have lnq:=hq.len
 have lnr:=hr.len
 have lne:=he.len
 repeat' first | exact ae_nil | apply ae_cons
theorem mNR (dead:Nat→Value) (h:Bool) (r e w:List At):projS [0,8,9,12,13] [0,4,5,6,7] (exec Tryz.prog KA2 Zl 400 (.code (c1 (c2 (c2 (c2 (c2 (c2 (bodyF Tryz.prog 158)))))))) (Kst.st ⟨[(0,A0),(8,PP 4),(9,PX 5),(12,PX 6)],[(0,flag 61 h),(4,⟨56,(0,0),0,r⟩),(5,⟨308,(0,0),0,e⟩),(6,⟨351,(0,0),0,w⟩)],7⟩ 147 dead []))=some (Ex.normal,[LV.v (V1.one (At.ptr 0 0)),LV.v (V1.one (At.ptr 4 0)),LV.v (V1.one (At.ptx 5 0)),LV.v (V1.one (At.ptx 6 0)),LV.v (V1.one (At.ptr 7 0))],[some { ty:=61,fr:=(0,0),es:=0,cells:=[At.bool h] },some { ty:=56,fr:=(0,0),es:=0,cells:=r },some { ty:=308,fr:=(0,0),es:=0,cells:=e },some { ty:=351,fr:=(0,0),es:=0,cells:=w },some ⟨56,(0,0),0,zc 56⟩],[]):=by kernel_rfl
theorem mN (h:Bool) (r e w:List At) (hr:AllI r 300) (he:AllI e 48) (hw:AllI w 1152):∃ (h':Bool) (r' e' w' o':List At),AllI r' 300∧AllI e' 48∧AllI w' 1152∧AllI o' 300∧To Tryz.prog 147 (c1 (c2 (c2 (c2 (c2 (c2 (bodyF Tryz.prog 158))))))) ⟨[(0,A0),(8,PP 4),(9,PX 5),(12,PX 6)],[(0,flag 61 h),(4,⟨56,(0,0),0,r⟩),(5,⟨308,(0,0),0,e⟩),(6,⟨351,(0,0),0,w⟩)],7⟩ .normal ⟨[(0,A0),(8,PP 4),(9,PX 5),(12,PX 6),(13,PP 7)],(stp2M h' r' e' w' o'),8⟩:=by
 refine ⟨(h),(r),(e),(w),(zc 56),(by repeat' first | assumption | apply AllI.set),(by repeat' first | assumption | apply AllI.set),(by repeat' first | assumption | apply AllI.set),(by repeat' first | assumption | apply AllI.set | exact AllI.ints _ _ _ | exact AllI.mkF _ _ _ | exact zc24I | exact zc48I | exact zcWI | exact zcCov),To.run (z:=Zl) soundKA2 (slots:=[0,8,9,12,13]) (blks:=[0,4,5,6,7]) (vs:=[A0,PP 4,PX 5,PX 6,PP 7]) (bs:=(stp2B (h) r e w (zc 56))) (nbB:=8) (fun dead=>mNR dead h r e w) rfl rfl rfl ?_ (kstOK_of rfl (memOKc (Nat.lt_of_sub_eq_succ rfl) rfl rfl (memOKc (Nat.lt_of_sub_eq_succ rfl) (AllI.okb (n:=300) (by repeat' first | assumption | apply AllI.set) _) rfl (memOKc (Nat.lt_of_sub_eq_succ rfl) (AllI.okb (n:=48) (by repeat' first | assumption | apply AllI.set) _) rfl (memOKc (Nat.lt_of_sub_eq_succ rfl) (AllI.okb (n:=1152) (by repeat' first | assumption | apply AllI.set) _) rfl (memOKc (Nat.lt_of_sub_eq_succ rfl) (AllI.okb (n:=300) (by repeat' first | assumption | apply AllI.set | exact AllI.ints _ _ _ | exact AllI.mkF _ _ _ | exact zc24I | exact zc48I | exact zcWI | exact zcCov) _) rfl memOK0)))))) (Nat.le_of_ble_eq_true rfl)⟩
 have lnr:=hr.len
 have lne:=he.len
 have lnw:=hw.len
 repeat' first | exact ae_nil | apply ae_cons
theorem mIR (dead:Nat→Value) (h:Bool) (r e w o:List At):projS [0,8,9,12,13,14] [0,4,5,6,7] (exec Tryz.prog KA2 Zl 400 (.code (c1 (c1 (c2 (c2 (c2 (c2 (c2 (c2 (bodyF Tryz.prog 158)))))))))) (Kst.st ⟨[(0,A0),(8,PP 4),(9,PX 5),(12,PX 6),(13,PX 7)],(stp2M h r e w o),8⟩ 147 dead []))=some (Ex.normal,[LV.v (V1.one (At.ptr 0 0)),LV.v (V1.one (At.ptr 4 0)),LV.v (V1.one (At.ptx 5 0)),LV.v (V1.one (At.ptx 6 0)),LV.v (V1.one (At.ptx 7 0)),LV.v (V1.one (At.int IntKind.i64 23))],(stp2O h r e w o),[]):=by kernel_rfl
theorem mI (h:Bool) (r e w o:List At) (hr:AllI r 300) (he:AllI e 48) (hw:AllI w 1152) (ho:AllI o 300):∃ (h':Bool) (r' e' w' o':List At),AllI r' 300∧AllI e' 48∧AllI w' 1152∧AllI o' 300∧To Tryz.prog 147 (c1 (c1 (c2 (c2 (c2 (c2 (c2 (c2 (bodyF Tryz.prog 158))))))))) ⟨[(0,A0),(8,PP 4),(9,PX 5),(12,PX 6),(13,PX 7)],(stp2M h r e w o),8⟩ .normal ⟨[(0,A0),(8,PP 4),(9,PX 5),(12,PX 6),(13,PX 7),(14,I 23)],(stp2M h' r' e' w' o'),8⟩:=by
 refine ⟨(h),(r),(e),(w),(o),(by repeat' first | assumption | apply AllI.set),(by repeat' first | assumption | apply AllI.set),(by repeat' first | assumption | apply AllI.set),(by repeat' first | assumption | apply AllI.set),To.run (z:=Zl) soundKA2 (slots:=[0,8,9,12,13,14]) (blks:=[0,4,5,6,7]) (vs:=[A0,PP 4,PX 5,PX 6,PX 7,I 23]) (bs:=(stp2B (h) r e w o)) (nbB:=8) (fun dead=>mIR dead h r e w o) rfl rfl rfl ?_ (kstOK_of rfl (memOKc (Nat.lt_of_sub_eq_succ rfl) rfl rfl (memOKc (Nat.lt_of_sub_eq_succ rfl) (AllI.okb (n:=300) (by repeat' first | assumption | apply AllI.set) _) rfl (memOKc (Nat.lt_of_sub_eq_succ rfl) (AllI.okb (n:=48) (by repeat' first | assumption | apply AllI.set) _) rfl (memOKc (Nat.lt_of_sub_eq_succ rfl) (AllI.okb (n:=1152) (by repeat' first | assumption | apply AllI.set) _) rfl (memOKc (Nat.lt_of_sub_eq_succ rfl) (AllI.okb (n:=300) (by repeat' first | assumption | apply AllI.set) _) rfl memOK0)))))) (Nat.le_refl _)⟩
 have lnr:=hr.len
 have lne:=he.len
 have lnw:=hw.len
 have lno:=ho.len
 repeat' first | exact ae_nil | apply ae_cons
theorem mAR (dead:Nat→Value) (h:Bool) (r e w o:List At) (j:Nat):projS [0,8,9,12,13,14] [0,4,5,6,7] (exec Tryz.prog KA2 Zl 400 (.code (c1 (c1 (c1 (c2 (c1 (c2 (c2 (c2 (c2 (c2 (c2 (bodyF Tryz.prog 158))))))))))))) (Kst.st ⟨[(0,A0),(8,PP 4),(9,PX 5),(12,PX 6),(13,PX 7),(14,IK j)],(stp2M h r e w o),8⟩ 147 dead [some true]))=some (Ex.normal,[LV.v (V1.one (At.ptr 0 0)),LV.v (V1.one (At.ptr 4 0)),LV.v (V1.one (At.ptx 5 0)),LV.v (V1.one (At.ptx 6 0)),LV.v (V1.one (At.ptx 7 0)),LV.v (V1.one (At.int IntKind.i64 (j:Int)))],(stp2O h r e w o),[(decide ((j:Int)≥0),true)]):=by kernel_rfl
theorem mA (h:Bool) (r e w o:List At) (j:Nat) (hr:AllI r 300) (he:AllI e 48) (hw:AllI w 1152) (ho:AllI o 300):∃ (h':Bool) (r' e' w' o':List At),AllI r' 300∧AllI e' 48∧AllI w' 1152∧AllI o' 300∧To Tryz.prog 147 (c1 (c1 (c1 (c2 (c1 (c2 (c2 (c2 (c2 (c2 (c2 (bodyF Tryz.prog 158)))))))))))) ⟨[(0,A0),(8,PP 4),(9,PX 5),(12,PX 6),(13,PX 7),(14,IK j)],(stp2M h r e w o),8⟩ .normal ⟨[(0,A0),(8,PP 4),(9,PX 5),(12,PX 6),(13,PX 7),(14,IK j)],(stp2M h' r' e' w' o'),8⟩:=by
 refine ⟨(h),(r),(e),(w),(o),(by repeat' first | assumption | apply AllI.set),(by repeat' first | assumption | apply AllI.set),(by repeat' first | assumption | apply AllI.set),(by repeat' first | assumption | apply AllI.set),To.run (z:=Zl) soundKA2 (slots:=[0,8,9,12,13,14]) (blks:=[0,4,5,6,7]) (vs:=[A0,PP 4,PX 5,PX 6,PX 7,IK j]) (bs:=(stp2B (h) r e w o)) (nbB:=8) (fun dead=>mAR dead h r e w o j) rfl rfl rfl ?_ (kstOK_of rfl (memOKc (Nat.lt_of_sub_eq_succ rfl) rfl rfl (memOKc (Nat.lt_of_sub_eq_succ rfl) (AllI.okb (n:=300) (by repeat' first | assumption | apply AllI.set) _) rfl (memOKc (Nat.lt_of_sub_eq_succ rfl) (AllI.okb (n:=48) (by repeat' first | assumption | apply AllI.set) _) rfl (memOKc (Nat.lt_of_sub_eq_succ rfl) (AllI.okb (n:=1152) (by repeat' first | assumption | apply AllI.set) _) rfl (memOKc (Nat.lt_of_sub_eq_succ rfl) (AllI.okb (n:=300) (by repeat' first | assumption | apply AllI.set) _) rfl memOK0)))))) (Nat.le_refl _)⟩
 have lnr:=hr.len
 have lne:=he.len
 have lnw:=hw.len
 have lno:=ho.len
 repeat' first | exact ae_nil | apply ae_cons
 all_goals first
  | (simp only [Bool.and_eq_true,hr.part,hr.ok,he.part,he.ok,hw.part,hw.ok,ho.part,ho.ok,decide_eq_true_eq,true_and,and_true];omega)
theorem mAeR (dead:Nat→Value) (h:Bool) (r e w o:List At):projS [0,8,9,12,13] [0,4,5,6,7] (exec Tryz.prog KA2 Zl 400 (.code (c1 (c1 (c2 (c1 (c2 (c2 (c2 (c2 (c2 (c2 (bodyF Tryz.prog 158)))))))))))) (Kst.st ⟨[(0,A0),(8,PP 4),(9,PX 5),(12,PX 6),(13,PX 7),(14,I (23 - ((24:Nat):Int)))],(stp2M h r e w o),8⟩ 147 dead []))=some (Ex.exit 4,[LV.v (V1.one (At.ptr 0 0)),LV.v (V1.one (At.ptr 4 0)),LV.v (V1.one (At.ptx 5 0)),LV.v (V1.one (At.ptx 6 0)),LV.v (V1.one (At.ptx 7 0))],(stp2O h r e w o),[]):=by kernel_rfl
theorem mAe (h:Bool) (r e w o:List At) (hr:AllI r 300) (he:AllI e 48) (hw:AllI w 1152) (ho:AllI o 300):∃ (h':Bool) (r' e' w' o':List At),AllI r' 300∧AllI e' 48∧AllI w' 1152∧AllI o' 300∧To Tryz.prog 147 (c1 (c1 (c2 (c1 (c2 (c2 (c2 (c2 (c2 (c2 (bodyF Tryz.prog 158))))))))))) ⟨[(0,A0),(8,PP 4),(9,PX 5),(12,PX 6),(13,PX 7),(14,I (23 - ((24:Nat):Int)))],(stp2M h r e w o),8⟩ (.exit 4) ⟨[(0,A0),(8,PP 4),(9,PX 5),(12,PX 6),(13,PX 7)],(stp2M h' r' e' w' o'),8⟩:=by
 refine ⟨(h),(r),(e),(w),(o),(by repeat' first | assumption | apply AllI.set),(by repeat' first | assumption | apply AllI.set),(by repeat' first | assumption | apply AllI.set),(by repeat' first | assumption | apply AllI.set),To.run (z:=Zl) soundKA2 (slots:=[0,8,9,12,13]) (blks:=[0,4,5,6,7]) (vs:=[A0,PP 4,PX 5,PX 6,PX 7]) (bs:=(stp2B (h) r e w o)) (nbB:=8) (fun dead=>mAeR dead h r e w o) rfl rfl rfl ?_ (kstOK_of rfl (memOKc (Nat.lt_of_sub_eq_succ rfl) rfl rfl (memOKc (Nat.lt_of_sub_eq_succ rfl) (AllI.okb (n:=300) (by repeat' first | assumption | apply AllI.set) _) rfl (memOKc (Nat.lt_of_sub_eq_succ rfl) (AllI.okb (n:=48) (by repeat' first | assumption | apply AllI.set) _) rfl (memOKc (Nat.lt_of_sub_eq_succ rfl) (AllI.okb (n:=1152) (by repeat' first | assumption | apply AllI.set) _) rfl (memOKc (Nat.lt_of_sub_eq_succ rfl) (AllI.okb (n:=300) (by repeat' first | assumption | apply AllI.set) _) rfl memOK0)))))) (Nat.le_refl _)⟩
 have lnr:=hr.len
 have lne:=he.len
 have lnw:=hw.len
 have lno:=ho.len
 repeat' first | exact ae_nil | apply ae_cons
theorem mBR (dead:Nat→Value) (h:Bool) (r e w o:List At) (j:Nat):projS [0,8,9,12,13,14,15] [0,4,5,6,7,8] (exec Tryz.prog KA2 Zl 400 (.code (c1 (c1 (c1 (c2 (c1 (c1 (c2 (c1 (c2 (c2 (c2 (c2 (c2 (c2 (bodyF Tryz.prog 158)))))))))))))))) (Kst.st ⟨[(0,A0),(8,PP 4),(9,PX 5),(12,PX 6),(13,PX 7),(14,IK j)],(stp2M h r e w o),8⟩ 147 dead []))=some (Ex.normal,[LV.v (V1.one (At.ptr 0 0)),LV.v (V1.one (At.ptr 4 0)),LV.v (V1.one (At.ptx 5 0)),LV.v (V1.one (At.ptx 6 0)),LV.v (V1.one (At.ptx 7 0)),LV.v (V1.one (At.int IntKind.i64 (j:Int))),LV.v (V1.one (At.ptr 8 0))],[some { ty:=61,fr:=(0,0),es:=0,cells:=[At.bool h] },some { ty:=56,fr:=(0,0),es:=0,cells:=r },some { ty:=308,fr:=(0,0),es:=0,cells:=e },some { ty:=351,fr:=(0,0),es:=0,cells:=w },some { ty:=56,fr:=(0,0),es:=0,cells:=o },some ⟨308,(0,0),0,zc 308⟩],[]):=by kernel_rfl
theorem mB (h:Bool) (r e w o:List At) (j:Nat) (hr:AllI r 300) (he:AllI e 48) (hw:AllI w 1152) (ho:AllI o 300):∃ (h':Bool) (r' e' w' o' y':List At),AllI r' 300∧AllI e' 48∧AllI w' 1152∧AllI o' 300∧AllI y' 48∧To Tryz.prog 147 (c1 (c1 (c1 (c2 (c1 (c1 (c2 (c1 (c2 (c2 (c2 (c2 (c2 (c2 (bodyF Tryz.prog 158))))))))))))))) ⟨[(0,A0),(8,PP 4),(9,PX 5),(12,PX 6),(13,PX 7),(14,IK j)],(stp2M h r e w o),8⟩ .normal ⟨[(0,A0),(8,PP 4),(9,PX 5),(12,PX 6),(13,PX 7),(14,IK j),(15,PP 8)],(stp0M h' r' e' w' o' y'),9⟩:=by
 refine ⟨(h),(r),(e),(w),(o),(zc 308),(by repeat' first | assumption | apply AllI.set),(by repeat' first | assumption | apply AllI.set),(by repeat' first | assumption | apply AllI.set),(by repeat' first | assumption | apply AllI.set),(by repeat' first | assumption | apply AllI.set | exact AllI.ints _ _ _ | exact AllI.mkF _ _ _ | exact zc24I | exact zc48I | exact zcWI | exact zcCov),To.run (z:=Zl) soundKA2 (slots:=[0,8,9,12,13,14,15]) (blks:=[0,4,5,6,7,8]) (vs:=[A0,PP 4,PX 5,PX 6,PX 7,IK j,PP 8]) (bs:=(stp0B (h) r e w o (zc 308))) (nbB:=9) (fun dead=>mBR dead h r e w o j) rfl rfl rfl ?_ (kstOK_of rfl (memOKc (Nat.lt_of_sub_eq_succ rfl) rfl rfl (memOKc (Nat.lt_of_sub_eq_succ rfl) (AllI.okb (n:=300) (by repeat' first | assumption | apply AllI.set) _) rfl (memOKc (Nat.lt_of_sub_eq_succ rfl) (AllI.okb (n:=48) (by repeat' first | assumption | apply AllI.set) _) rfl (memOKc (Nat.lt_of_sub_eq_succ rfl) (AllI.okb (n:=1152) (by repeat' first | assumption | apply AllI.set) _) rfl (memOKc (Nat.lt_of_sub_eq_succ rfl) (AllI.okb (n:=300) (by repeat' first | assumption | apply AllI.set) _) rfl (memOKc (Nat.lt_of_sub_eq_succ rfl) (AllI.okb (n:=48) (by repeat' first | assumption | apply AllI.set | exact AllI.ints _ _ _ | exact AllI.mkF _ _ _ | exact zc24I | exact zc48I | exact zcWI | exact zcCov) _) rfl memOK0))))))) (Nat.le_of_ble_eq_true rfl)⟩
 have lnr:=hr.len
 have lne:=he.len
 have lnw:=hw.len
 have lno:=ho.len
 repeat' first | exact ae_nil | apply ae_cons
theorem mCR (dead:Nat→Value) (h:Bool) (r e w o y:List At) (j:Nat):projS [0,8,9,12,13,14,15,64] [0,4,5,6,7,8] (exec Tryz.prog KA2 Zl 400 (.code (c1 (c1 (c2 (c1 (c1 (c2 (c1 (c1 (c2 (c1 (c2 (c2 (c2 (c2 (c2 (c2 (bodyF Tryz.prog 158)))))))))))))))))) (Kst.st ⟨[(0,A0),(8,PP 4),(9,PX 5),(12,PX 6),(13,PX 7),(14,IK j),(15,PX 8)],(stp0M h r e w o y),9⟩ 147 dead []))=some (Ex.normal,[LV.v (V1.one (At.ptr 0 0)),LV.v (V1.one (At.ptr 4 0)),LV.v (V1.one (At.ptx 5 0)),LV.v (V1.one (At.ptx 6 0)),LV.v (V1.one (At.ptx 7 0)),LV.v (V1.one (At.int IntKind.i64 (j:Int))),LV.v (V1.one (At.ptx 8 0)),LV.v (V1.one (At.int IntKind.i64 0))],(stp0O h r e w o y),[]):=by kernel_rfl
theorem mC (h:Bool) (r e w o y:List At) (j:Nat) (hr:AllI r 300) (he:AllI e 48) (hw:AllI w 1152) (ho:AllI o 300) (hy:AllI y 48):∃ (h':Bool) (r' e' w' o' y':List At),AllI r' 300∧AllI e' 48∧AllI w' 1152∧AllI o' 300∧AllI y' 48∧To Tryz.prog 147 (c1 (c1 (c2 (c1 (c1 (c2 (c1 (c1 (c2 (c1 (c2 (c2 (c2 (c2 (c2 (c2 (bodyF Tryz.prog 158))))))))))))))))) ⟨[(0,A0),(8,PP 4),(9,PX 5),(12,PX 6),(13,PX 7),(14,IK j),(15,PX 8)],(stp0M h r e w o y),9⟩ .normal ⟨[(0,A0),(8,PP 4),(9,PX 5),(12,PX 6),(13,PX 7),(14,IK j),(15,PX 8),(64,IK 0)],(stp0M h' r' e' w' o' y'),9⟩:=by
 refine ⟨(h),(r),(e),(w),(o),(y),(by repeat' first | assumption | apply AllI.set),(by repeat' first | assumption | apply AllI.set),(by repeat' first | assumption | apply AllI.set),(by repeat' first | assumption | apply AllI.set),(by repeat' first | assumption | apply AllI.set),To.run (z:=Zl) soundKA2 (slots:=[0,8,9,12,13,14,15,64]) (blks:=[0,4,5,6,7,8]) (vs:=[A0,PP 4,PX 5,PX 6,PX 7,IK j,PX 8,IK 0]) (bs:=(stp0B (h) r e w o y)) (nbB:=9) (fun dead=>mCR dead h r e w o y j) rfl rfl rfl ?_ (kstOK_of rfl (memOKc (Nat.lt_of_sub_eq_succ rfl) rfl rfl (memOKc (Nat.lt_of_sub_eq_succ rfl) (AllI.okb (n:=300) (by repeat' first | assumption | apply AllI.set) _) rfl (memOKc (Nat.lt_of_sub_eq_succ rfl) (AllI.okb (n:=48) (by repeat' first | assumption | apply AllI.set) _) rfl (memOKc (Nat.lt_of_sub_eq_succ rfl) (AllI.okb (n:=1152) (by repeat' first | assumption | apply AllI.set) _) rfl (memOKc (Nat.lt_of_sub_eq_succ rfl) (AllI.okb (n:=300) (by repeat' first | assumption | apply AllI.set) _) rfl (memOKc (Nat.lt_of_sub_eq_succ rfl) (AllI.okb (n:=48) (by repeat' first | assumption | apply AllI.set) _) rfl memOK0))))))) (Nat.le_refl _)⟩
 have lnr:=hr.len
 have lne:=he.len
 have lnw:=hw.len
 have lno:=ho.len
 have lny:=hy.len
 repeat' first | exact ae_nil | apply ae_cons
theorem mDR (dead:Nat→Value) (h:Bool) (r e w o y:List At) (j m:Nat):projS [0,8,9,12,13,14,15,64] [0,4,5,6,7,8] (exec Tryz.prog KA2 Zl 400 (.code (c1 (c1 (c2 (c1 (c2 (c1 (c1 (c2 (c1 (c1 (c2 (c1 (c2 (c2 (c2 (c2 (c2 (c2 (bodyF Tryz.prog 158)))))))))))))))))))) (Kst.st ⟨[(0,A0),(8,PP 4),(9,PX 5),(12,PX 6),(13,PX 7),(14,IK j),(15,PX 8),(64,IK m)],(stp0M h r e w o y),9⟩ 147 dead [some true]))=some (Ex.normal,[LV.v (V1.one (At.ptr 0 0)),LV.v (V1.one (At.ptr 4 0)),LV.v (V1.one (At.ptx 5 0)),LV.v (V1.one (At.ptx 6 0)),LV.v (V1.one (At.ptx 7 0)),LV.v (V1.one (At.int IntKind.i64 (j:Int))),LV.v (V1.one (At.ptx 8 0)),LV.v (V1.one (At.int IntKind.i64 (wr IntKind.i64 ((m:Int)+1))))],(stp0O (h||mulH (intAt w (0+(j:Int).toNat*48+(m:Int).toNat*1)) (intAt e (0+(m:Int).toNat*1)) 30) r e w o ((List.set y) (0+(m:Int).toNat*1) (At.int IntKind.i64 (mulV (intAt w (0+(j:Int).toNat*48+(m:Int).toNat*1)) (intAt e (0+(m:Int).toNat*1)) 30)))),[(decide (0+(m:Int).toNat*1<y.length),true),(decide (0≤(m:Int))&&decide ((m:Int)<48),true),(isIntAt IntKind.i64 e (0+(m:Int).toNat*1),true),(decide (0≤(m:Int))&&decide ((m:Int)<48),true),(isIntAt IntKind.i64 w (0+(j:Int).toNat*48+(m:Int).toNat*1),true),(decide (0≤(m:Int))&&decide ((m:Int)<48),true),(decide (0≤(j:Int))&&decide ((j:Int)<24),true),(decide ((m:Int)<48),true)]):=by kernel_rfl
theorem mD (h:Bool) (r e w o y:List At) (j m:Nat) (hr:AllI r 300) (he:AllI e 48) (hw:AllI w 1152) (ho:AllI o 300) (hy:AllI y 48) (hj:j<24) (hm:m<48):∃ (h':Bool) (r' e' w' o' y':List At),AllI r' 300∧AllI e' 48∧AllI w' 1152∧AllI o' 300∧AllI y' 48∧To Tryz.prog 147 (c1 (c1 (c2 (c1 (c2 (c1 (c1 (c2 (c1 (c1 (c2 (c1 (c2 (c2 (c2 (c2 (c2 (c2 (bodyF Tryz.prog 158))))))))))))))))))) ⟨[(0,A0),(8,PP 4),(9,PX 5),(12,PX 6),(13,PX 7),(14,IK j),(15,PX 8),(64,IK m)],(stp0M h r e w o y),9⟩ .normal ⟨[(0,A0),(8,PP 4),(9,PX 5),(12,PX 6),(13,PX 7),(14,IK j),(15,PX 8),(64,IK (m+1))],(stp0M h' r' e' w' o' y'),9⟩:=by
 refine ⟨((h||mulH (intAt w (0+(j:Int).toNat*48+(m:Int).toNat*1)) (intAt e (0+(m:Int).toNat*1)) 30)),(r),(e),(w),(o),((List.set y) (0+(m:Int).toNat*1) (At.int IntKind.i64 (mulV (intAt w (0+(j:Int).toNat*48+(m:Int).toNat*1)) (intAt e (0+(m:Int).toNat*1)) 30))),(by repeat' first | assumption | apply AllI.set),(by repeat' first | assumption | apply AllI.set),(by repeat' first | assumption | apply AllI.set),(by repeat' first | assumption | apply AllI.set),(by repeat' first | assumption | apply AllI.set),To.run (z:=Zl) soundKA2 (slots:=[0,8,9,12,13,14,15,64]) (blks:=[0,4,5,6,7,8]) (vs:=[A0,PP 4,PX 5,PX 6,PX 7,IK j,PX 8,IK (m+1)]) (bs:=(stp0B ((h||mulH (intAt w (0+(j:Int).toNat*48+(m:Int).toNat*1)) (intAt e (0+(m:Int).toNat*1)) 30)) r e w o ((List.set y) (0+(m:Int).toNat*1) (At.int IntKind.i64 (mulV (intAt w (0+(j:Int).toNat*48+(m:Int).toNat*1)) (intAt e (0+(m:Int).toNat*1)) 30))))) (nbB:=9) (fun dead=>mDR dead h r e w o y j m) rfl (by rw [wk m (by omega)];rfl) rfl ?_ (kstOK_of rfl (memOKc (Nat.lt_of_sub_eq_succ rfl) rfl rfl (memOKc (Nat.lt_of_sub_eq_succ rfl) (AllI.okb (n:=300) (by repeat' first | assumption | apply AllI.set) _) rfl (memOKc (Nat.lt_of_sub_eq_succ rfl) (AllI.okb (n:=48) (by repeat' first | assumption | apply AllI.set) _) rfl (memOKc (Nat.lt_of_sub_eq_succ rfl) (AllI.okb (n:=1152) (by repeat' first | assumption | apply AllI.set) _) rfl (memOKc (Nat.lt_of_sub_eq_succ rfl) (AllI.okb (n:=300) (by repeat' first | assumption | apply AllI.set) _) rfl (memOKc (Nat.lt_of_sub_eq_succ rfl) (AllI.okb (n:=48) (by repeat' first | assumption | apply AllI.set) _) rfl memOK0))))))) (Nat.le_refl _)⟩
 have lnr:=hr.len
 have lne:=he.len
 have lnw:=hw.len
 have lno:=ho.len
 have lny:=hy.len
 repeat' first | exact ae_nil | apply ae_cons
 all_goals first
  | (with_reducible refine AllI.ats (by assumption) _ ?_;simp only [Int.toNat_natCast];omega)
  | (simp only [Bool.and_eq_true,hr.part,hr.ok,he.part,he.ok,hw.part,hw.ok,ho.part,ho.ok,hy.part,hy.ok,decide_eq_true_eq,true_and,and_true];omega)
theorem mDeR (dead:Nat→Value) (h:Bool) (r e w o y:List At) (j:Nat):projS [0,8,9,12,13,14,15] [0,4,5,6,7,8] (exec Tryz.prog KA2 Zl 400 (.code (c1 (c1 (c2 (c1 (c2 (c1 (c1 (c2 (c1 (c1 (c2 (c1 (c2 (c2 (c2 (c2 (c2 (c2 (bodyF Tryz.prog 158)))))))))))))))))))) (Kst.st ⟨[(0,A0),(8,PP 4),(9,PX 5),(12,PX 6),(13,PX 7),(14,IK j),(15,PX 8),(64,IK 48)],(stp0M h r e w o y),9⟩ 147 dead []))=some (Ex.exit 6,[LV.v (V1.one (At.ptr 0 0)),LV.v (V1.one (At.ptr 4 0)),LV.v (V1.one (At.ptx 5 0)),LV.v (V1.one (At.ptx 6 0)),LV.v (V1.one (At.ptx 7 0)),LV.v (V1.one (At.int IntKind.i64 (j:Int))),LV.v (V1.one (At.ptx 8 0))],(stp0O h r e w o y),[]):=by kernel_rfl
theorem mDe (h:Bool) (r e w o y:List At) (j:Nat) (hr:AllI r 300) (he:AllI e 48) (hw:AllI w 1152) (ho:AllI o 300) (hy:AllI y 48):∃ (h':Bool) (r' e' w' o' y':List At),AllI r' 300∧AllI e' 48∧AllI w' 1152∧AllI o' 300∧AllI y' 48∧To Tryz.prog 147 (c1 (c1 (c2 (c1 (c2 (c1 (c1 (c2 (c1 (c1 (c2 (c1 (c2 (c2 (c2 (c2 (c2 (c2 (bodyF Tryz.prog 158))))))))))))))))))) ⟨[(0,A0),(8,PP 4),(9,PX 5),(12,PX 6),(13,PX 7),(14,IK j),(15,PX 8),(64,IK 48)],(stp0M h r e w o y),9⟩ (.exit 6) ⟨[(0,A0),(8,PP 4),(9,PX 5),(12,PX 6),(13,PX 7),(14,IK j),(15,PX 8)],(stp0M h' r' e' w' o' y'),9⟩:=by
 refine ⟨(h),(r),(e),(w),(o),(y),(by repeat' first | assumption | apply AllI.set),(by repeat' first | assumption | apply AllI.set),(by repeat' first | assumption | apply AllI.set),(by repeat' first | assumption | apply AllI.set),(by repeat' first | assumption | apply AllI.set),To.run (z:=Zl) soundKA2 (slots:=[0,8,9,12,13,14,15]) (blks:=[0,4,5,6,7,8]) (vs:=[A0,PP 4,PX 5,PX 6,PX 7,IK j,PX 8]) (bs:=(stp0B (h) r e w o y)) (nbB:=9) (fun dead=>mDeR dead h r e w o y j) rfl rfl rfl ?_ (kstOK_of rfl (memOKc (Nat.lt_of_sub_eq_succ rfl) rfl rfl (memOKc (Nat.lt_of_sub_eq_succ rfl) (AllI.okb (n:=300) (by repeat' first | assumption | apply AllI.set) _) rfl (memOKc (Nat.lt_of_sub_eq_succ rfl) (AllI.okb (n:=48) (by repeat' first | assumption | apply AllI.set) _) rfl (memOKc (Nat.lt_of_sub_eq_succ rfl) (AllI.okb (n:=1152) (by repeat' first | assumption | apply AllI.set) _) rfl (memOKc (Nat.lt_of_sub_eq_succ rfl) (AllI.okb (n:=300) (by repeat' first | assumption | apply AllI.set) _) rfl (memOKc (Nat.lt_of_sub_eq_succ rfl) (AllI.okb (n:=48) (by repeat' first | assumption | apply AllI.set) _) rfl memOK0))))))) (Nat.le_refl _)⟩
 have lnr:=hr.len
 have lne:=he.len
 have lnw:=hw.len
 have lno:=ho.len
 have lny:=hy.len
 repeat' first | exact ae_nil | apply ae_cons
theorem mER (dead:Nat→Value) (h:Bool) (r e w o y:List At) (j:Nat):projS [0,8,9,12,13,14,15,17] [0,4,5,6,7,8] (exec Tryz.prog KA2 Zl 400 (.code (c1 (c2 (c2 (c1 (c1 (c2 (c1 (c1 (c2 (c1 (c2 (c2 (c2 (c2 (c2 (c2 (bodyF Tryz.prog 158)))))))))))))))))) (Kst.st ⟨[(0,A0),(8,PP 4),(9,PX 5),(12,PX 6),(13,PX 7),(14,IK j),(15,PX 8)],(stp0M h r e w o y),9⟩ 147 dead []))=some (Ex.normal,[LV.v (V1.one (At.ptr 0 0)),LV.v (V1.one (At.ptr 4 0)),LV.v (V1.one (At.ptx 5 0)),LV.v (V1.one (At.ptx 6 0)),LV.v (V1.one (At.ptx 7 0)),LV.v (V1.one (At.int IntKind.i64 (j:Int))),LV.v (V1.one (At.ptx 8 0)),LV.v (V1.one (At.int IntKind.i64 (clampV (dotV 30 (intL (List.take ((48 - 0)*1) (List.drop (0+(j:Int).toNat*48+0*1) w))) (intL (List.take ((48 - 0)*1) (List.drop (0+0*1) y)))) 1 72057594037927936)))],(stp0O (h||dotH 30 (intL (List.take ((48 - 0)*1) (List.drop (0+(j:Int).toNat*48+0*1) w))) (intL (List.take ((48 - 0)*1) (List.drop (0+0*1) y)))||clampH (dotV 30 (intL (List.take ((48 - 0)*1) (List.drop (0+(j:Int).toNat*48+0*1) w))) (intL (List.take ((48 - 0)*1) (List.drop (0+0*1) y)))) 1 72057594037927936) r e w o y),[(isIntL (List.take ((48 - 0)*1) (List.drop (0+(j:Int).toNat*48+0*1) w))&&(okL noP w&&(decide (0+(j:Int).toNat*48+0*1+(48 - 0)*1≤w.length)&&true)),true),(isIntL (List.take ((48 - 0)*1) (List.drop (0+0*1) y))&&(okL noP y&&(decide (0+0*1+(48 - 0)*1≤y.length)&&true)),true),(decide (0≤(j:Int))&&decide ((j:Int)<24),true)]):=by kernel_rfl
theorem mE (h:Bool) (r e w o y:List At) (j:Nat) (hr:AllI r 300) (he:AllI e 48) (hw:AllI w 1152) (ho:AllI o 300) (hy:AllI y 48) (hj:j<24):∃(d:Int) (h':Bool) (r' e' w' o' y':List At),AllI r' 300∧AllI e' 48∧AllI w' 1152∧AllI o' 300∧AllI y' 48∧To Tryz.prog 147 (c1 (c2 (c2 (c1 (c1 (c2 (c1 (c1 (c2 (c1 (c2 (c2 (c2 (c2 (c2 (c2 (bodyF Tryz.prog 158))))))))))))))))) ⟨[(0,A0),(8,PP 4),(9,PX 5),(12,PX 6),(13,PX 7),(14,IK j),(15,PX 8)],(stp0M h r e w o y),9⟩ .normal ⟨[(0,A0),(8,PP 4),(9,PX 5),(12,PX 6),(13,PX 7),(14,IK j),(15,PX 8),(17,I d)],(stp0M h' r' e' w' o' y'),9⟩:=by
 refine ⟨((clampV (dotV 30 (intL (List.take ((48 - 0)*1) (List.drop (0+(j:Int).toNat*48+0*1) w))) (intL (List.take ((48 - 0)*1) (List.drop (0+0*1) y)))) 1 72057594037927936)),((h||dotH 30 (intL (List.take ((48 - 0)*1) (List.drop (0+(j:Int).toNat*48+0*1) w))) (intL (List.take ((48 - 0)*1) (List.drop (0+0*1) y)))||clampH (dotV 30 (intL (List.take ((48 - 0)*1) (List.drop (0+(j:Int).toNat*48+0*1) w))) (intL (List.take ((48 - 0)*1) (List.drop (0+0*1) y)))) 1 72057594037927936)),(r),(e),(w),(o),(y),(by repeat' first | assumption | apply AllI.set),(by repeat' first | assumption | apply AllI.set),(by repeat' first | assumption | apply AllI.set),(by repeat' first | assumption | apply AllI.set),(by repeat' first | assumption | apply AllI.set),To.run (z:=Zl) soundKA2 (slots:=[0,8,9,12,13,14,15,17]) (blks:=[0,4,5,6,7,8]) (vs:=[A0,PP 4,PX 5,PX 6,PX 7,IK j,PX 8,I ((clampV (dotV 30 (intL (List.take ((48 - 0)*1) (List.drop (0+(j:Int).toNat*48+0*1) w))) (intL (List.take ((48 - 0)*1) (List.drop (0+0*1) y)))) 1 72057594037927936))]) (bs:=(stp0B ((h||dotH 30 (intL (List.take ((48 - 0)*1) (List.drop (0+(j:Int).toNat*48+0*1) w))) (intL (List.take ((48 - 0)*1) (List.drop (0+0*1) y)))||clampH (dotV 30 (intL (List.take ((48 - 0)*1) (List.drop (0+(j:Int).toNat*48+0*1) w))) (intL (List.take ((48 - 0)*1) (List.drop (0+0*1) y)))) 1 72057594037927936)) r e w o y)) (nbB:=9) (fun dead=>mER dead h r e w o y j) rfl rfl rfl ?_ (kstOK_of rfl (memOKc (Nat.lt_of_sub_eq_succ rfl) rfl rfl (memOKc (Nat.lt_of_sub_eq_succ rfl) (AllI.okb (n:=300) (by repeat' first | assumption | apply AllI.set) _) rfl (memOKc (Nat.lt_of_sub_eq_succ rfl) (AllI.okb (n:=48) (by repeat' first | assumption | apply AllI.set) _) rfl (memOKc (Nat.lt_of_sub_eq_succ rfl) (AllI.okb (n:=1152) (by repeat' first | assumption | apply AllI.set) _) rfl (memOKc (Nat.lt_of_sub_eq_succ rfl) (AllI.okb (n:=300) (by repeat' first | assumption | apply AllI.set) _) rfl (memOKc (Nat.lt_of_sub_eq_succ rfl) (AllI.okb (n:=48) (by repeat' first | assumption | apply AllI.set) _) rfl memOK0))))))) (Nat.le_refl _)⟩
 have lnr:=hr.len
 have lne:=he.len
 have lnw:=hw.len
 have lno:=ho.len
 have lny:=hy.len
 repeat' first | exact ae_nil | apply ae_cons
 all_goals first
  | (simp only [Bool.and_eq_true,hr.part,hr.ok,he.part,he.ok,hw.part,hw.ok,ho.part,ho.ok,hy.part,hy.ok,decide_eq_true_eq,true_and,and_true];omega)
theorem mFR (dead:Nat→Value) (h:Bool) (r e w o y:List At) (j:Nat) (d:Int):projS [0,8,9,12,13,14,15,17] [0,4,5,6,7,8] (exec Tryz.prog KA2 Zl 400 (.code (c1 (c2 (c2 (c2 (c1 (c1 (c2 (c1 (c1 (c2 (c1 (c2 (c2 (c2 (c2 (c2 (c2 (bodyF Tryz.prog 158))))))))))))))))))) (Kst.st ⟨[(0,A0),(8,PP 4),(9,PX 5),(12,PX 6),(13,PX 7),(14,IK j),(15,PX 8),(17,I d)],(stp0M h r e w o y),9⟩ 147 dead []))=some (Ex.normal,[LV.v (V1.one (At.ptr 0 0)),LV.v (V1.one (At.ptr 4 0)),LV.v (V1.one (At.ptx 5 0)),LV.v (V1.one (At.ptx 6 0)),LV.v (V1.one (At.ptx 7 0)),LV.v (V1.one (At.int IntKind.i64 (j:Int))),LV.v (V1.one (At.ptx 8 0)),LV.v (V1.one (At.int IntKind.i64 d))],(stp0O h r e w ((List.set o) (0+276+(j:Int).toNat*1) (At.int IntKind.i64 d)) y),[(decide (0+276+(j:Int).toNat*1<o.length),true),(decide (0≤(j:Int))&&decide ((j:Int)<24),true)]):=by kernel_rfl
theorem mF (h:Bool) (r e w o y:List At) (j:Nat) (d:Int) (hr:AllI r 300) (he:AllI e 48) (hw:AllI w 1152) (ho:AllI o 300) (hy:AllI y 48) (hj:j<24):∃ (h':Bool) (r' e' w' o' y':List At),AllI r' 300∧AllI e' 48∧AllI w' 1152∧AllI o' 300∧AllI y' 48∧To Tryz.prog 147 (c1 (c2 (c2 (c2 (c1 (c1 (c2 (c1 (c1 (c2 (c1 (c2 (c2 (c2 (c2 (c2 (c2 (bodyF Tryz.prog 158)))))))))))))))))) ⟨[(0,A0),(8,PP 4),(9,PX 5),(12,PX 6),(13,PX 7),(14,IK j),(15,PX 8),(17,I d)],(stp0M h r e w o y),9⟩ .normal ⟨[(0,A0),(8,PP 4),(9,PX 5),(12,PX 6),(13,PX 7),(14,IK j),(15,PX 8),(17,I d)],(stp0M h' r' e' w' o' y'),9⟩:=by
 refine ⟨(h),(r),(e),(w),((List.set o) (0+276+(j:Int).toNat*1) (At.int IntKind.i64 d)),(y),(by repeat' first | assumption | apply AllI.set),(by repeat' first | assumption | apply AllI.set),(by repeat' first | assumption | apply AllI.set),(by repeat' first | assumption | apply AllI.set),(by repeat' first | assumption | apply AllI.set),To.run (z:=Zl) soundKA2 (slots:=[0,8,9,12,13,14,15,17]) (blks:=[0,4,5,6,7,8]) (vs:=[A0,PP 4,PX 5,PX 6,PX 7,IK j,PX 8,I d]) (bs:=(stp0B (h) r e w ((List.set o) (0+276+(j:Int).toNat*1) (At.int IntKind.i64 d)) y)) (nbB:=9) (fun dead=>mFR dead h r e w o y j d) rfl rfl rfl ?_ (kstOK_of rfl (memOKc (Nat.lt_of_sub_eq_succ rfl) rfl rfl (memOKc (Nat.lt_of_sub_eq_succ rfl) (AllI.okb (n:=300) (by repeat' first | assumption | apply AllI.set) _) rfl (memOKc (Nat.lt_of_sub_eq_succ rfl) (AllI.okb (n:=48) (by repeat' first | assumption | apply AllI.set) _) rfl (memOKc (Nat.lt_of_sub_eq_succ rfl) (AllI.okb (n:=1152) (by repeat' first | assumption | apply AllI.set) _) rfl (memOKc (Nat.lt_of_sub_eq_succ rfl) (AllI.okb (n:=300) (by repeat' first | assumption | apply AllI.set) _) rfl (memOKc (Nat.lt_of_sub_eq_succ rfl) (AllI.okb (n:=48) (by repeat' first | assumption | apply AllI.set) _) rfl memOK0))))))) (Nat.le_refl _)⟩
 have lnr:=hr.len
 have lne:=he.len
 have lnw:=hw.len
 have lno:=ho.len
 have lny:=hy.len
 repeat' first | exact ae_nil | apply ae_cons
 all_goals first
  | (simp only [Bool.and_eq_true,hr.part,hr.ok,he.part,he.ok,hw.part,hw.ok,ho.part,ho.ok,hy.part,hy.ok,decide_eq_true_eq,true_and,and_true];omega)
theorem mGR (dead:Nat→Value) (h:Bool) (r e w o y:List At) (j:Nat) (d:Int):projS [0,8,9,12,13,14,15,17,96,97] [0,4,5,6,7,8] (exec Tryz.prog KA2 Zl 400 (.code (c1 (c2 (c2 (c2 (c2 (c1 (c1 (c2 (c1 (c1 (c2 (c1 (c2 (c2 (c2 (c2 (c2 (c2 (bodyF Tryz.prog 158)))))))))))))))))))) (Kst.st ⟨[(0,A0),(8,PP 4),(9,PX 5),(12,PX 6),(13,PX 7),(14,IK j),(15,PX 8),(17,I d)],(stp0M h r e w o y),9⟩ 147 dead []))=some (Ex.normal,[LV.v (V1.one (At.ptr 0 0)),LV.v (V1.one (At.ptr 4 0)),LV.v (V1.one (At.ptx 5 0)),LV.v (V1.one (At.ptx 6 0)),LV.v (V1.one (At.ptx 7 0)),LV.v (V1.one (At.int IntKind.i64 (j:Int))),LV.v (V1.one (At.ptx 8 0)),LV.v (V1.one (At.int IntKind.i64 d)),LV.v (V1.one (At.int IntKind.i64 (j:Int))),LV.v (V1.one (At.int IntKind.i64 0))],(stp0O h r e w o y),[]):=by kernel_rfl
theorem mG (h:Bool) (r e w o y:List At) (j:Nat) (d:Int) (hr:AllI r 300) (he:AllI e 48) (hw:AllI w 1152) (ho:AllI o 300) (hy:AllI y 48):∃ (h':Bool) (r' e' w' o' y':List At),AllI r' 300∧AllI e' 48∧AllI w' 1152∧AllI o' 300∧AllI y' 48∧To Tryz.prog 147 (c1 (c2 (c2 (c2 (c2 (c1 (c1 (c2 (c1 (c1 (c2 (c1 (c2 (c2 (c2 (c2 (c2 (c2 (bodyF Tryz.prog 158))))))))))))))))))) ⟨[(0,A0),(8,PP 4),(9,PX 5),(12,PX 6),(13,PX 7),(14,IK j),(15,PX 8),(17,I d)],(stp0M h r e w o y),9⟩ .normal ⟨[(0,A0),(8,PP 4),(9,PX 5),(12,PX 6),(13,PX 7),(14,IK j),(15,PX 8),(17,I d),(96,IK j),(97,IK 0)],(stp0M h' r' e' w' o' y'),9⟩:=by
 refine ⟨(h),(r),(e),(w),(o),(y),(by repeat' first | assumption | apply AllI.set),(by repeat' first | assumption | apply AllI.set),(by repeat' first | assumption | apply AllI.set),(by repeat' first | assumption | apply AllI.set),(by repeat' first | assumption | apply AllI.set),To.run (z:=Zl) soundKA2 (slots:=[0,8,9,12,13,14,15,17,96,97]) (blks:=[0,4,5,6,7,8]) (vs:=[A0,PP 4,PX 5,PX 6,PX 7,IK j,PX 8,I d,IK j,IK 0]) (bs:=(stp0B (h) r e w o y)) (nbB:=9) (fun dead=>mGR dead h r e w o y j d) rfl rfl rfl ?_ (kstOK_of rfl (memOKc (Nat.lt_of_sub_eq_succ rfl) rfl rfl (memOKc (Nat.lt_of_sub_eq_succ rfl) (AllI.okb (n:=300) (by repeat' first | assumption | apply AllI.set) _) rfl (memOKc (Nat.lt_of_sub_eq_succ rfl) (AllI.okb (n:=48) (by repeat' first | assumption | apply AllI.set) _) rfl (memOKc (Nat.lt_of_sub_eq_succ rfl) (AllI.okb (n:=1152) (by repeat' first | assumption | apply AllI.set) _) rfl (memOKc (Nat.lt_of_sub_eq_succ rfl) (AllI.okb (n:=300) (by repeat' first | assumption | apply AllI.set) _) rfl (memOKc (Nat.lt_of_sub_eq_succ rfl) (AllI.okb (n:=48) (by repeat' first | assumption | apply AllI.set) _) rfl memOK0))))))) (Nat.le_refl _)⟩
 have lnr:=hr.len
 have lne:=he.len
 have lnw:=hw.len
 have lno:=ho.len
 have lny:=hy.len
 repeat' first | exact ae_nil | apply ae_cons
theorem iAR (dead:Nat→Value) (h:Bool) (r e w o y:List At) (j i:Nat) (d:Int):projS [0,8,9,12,13,14,15,17,96,97] [0,4,5,6,7,8] (execL Tryz.prog KA2 Zl 400 (spineL 2 (c1 (c1 (c2 (c2 (c2 (c2 (c2 (c1 (c1 (c2 (c1 (c1 (c2 (c1 (c2 (c2 (c2 (c2 (c2 (c2 (bodyF Tryz.prog 158)))))))))))))))))))))) (Kst.st ⟨[(0,A0),(8,PP 4),(9,PX 5),(12,PX 6),(13,PX 7),(14,IK j),(15,PX 8),(17,I d),(96,IK j),(97,IK i)],(stp0M h r e w o y),9⟩ 147 dead [some true]))=some (Ex.normal,[LV.v (V1.one (At.ptr 0 0)),LV.v (V1.one (At.ptr 4 0)),LV.v (V1.one (At.ptx 5 0)),LV.v (V1.one (At.ptx 6 0)),LV.v (V1.one (At.ptx 7 0)),LV.v (V1.one (At.int IntKind.i64 (j:Int))),LV.v (V1.one (At.ptx 8 0)),LV.v (V1.one (At.int IntKind.i64 d)),LV.v (V1.one (At.int IntKind.i64 (j:Int))),LV.v (V1.one (At.int IntKind.i64 (i:Int)))],(stp0O h r e w o y),[(decide ((i:Int)<(j:Int)),true)]):=by kernel_rfl
theorem iA (h:Bool) (r e w o y:List At) (j i:Nat) (d:Int) (hr:AllI r 300) (he:AllI e 48) (hw:AllI w 1152) (ho:AllI o 300) (hy:AllI y 48) (hi:i<j):∃ (h':Bool) (r' e' w' o' y':List At),AllI r' 300∧AllI e' 48∧AllI w' 1152∧AllI o' 300∧AllI y' 48∧∀(ee:Ex) (CC:Kst),To Tryz.prog 147 (dropC 2 (c1 (c1 (c2 (c2 (c2 (c2 (c2 (c1 (c1 (c2 (c1 (c1 (c2 (c1 (c2 (c2 (c2 (c2 (c2 (c2 (bodyF Tryz.prog 158)))))))))))))))))))))) ⟨[(0,A0),(8,PP 4),(9,PX 5),(12,PX 6),(13,PX 7),(14,IK j),(15,PX 8),(17,I d),(96,IK j),(97,IK i)],(stp0M h' r' e' w' o' y'),9⟩ ee CC→To Tryz.prog 147 (c1 (c1 (c2 (c2 (c2 (c2 (c2 (c1 (c1 (c2 (c1 (c1 (c2 (c1 (c2 (c2 (c2 (c2 (c2 (c2 (bodyF Tryz.prog 158))))))))))))))))))))) ⟨[(0,A0),(8,PP 4),(9,PX 5),(12,PX 6),(13,PX 7),(14,IK j),(15,PX 8),(17,I d),(96,IK j),(97,IK i)],(stp0M h r e w o y),9⟩ ee CC:=by
 refine ⟨(h),(r),(e),(w),(o),(y),(by repeat' first | assumption | apply AllI.set),(by repeat' first | assumption | apply AllI.set),(by repeat' first | assumption | apply AllI.set),(by repeat' first | assumption | apply AllI.set),(by repeat' first | assumption | apply AllI.set),fun ee CC hC=>To.spineR (k:=2) (z:=Zl) soundKA2 (slots:=[0,8,9,12,13,14,15,17,96,97]) (blks:=[0,4,5,6,7,8]) (vs:=[A0,PP 4,PX 5,PX 6,PX 7,IK j,PX 8,I d,IK j,IK i]) (bs:=(stp0B (h) r e w o y)) (nbB:=9) (by kernel_rfl) (fun dead=>iAR dead h r e w o y j i d) rfl rfl rfl ?_ (kstOK_of rfl (memOKc (Nat.lt_of_sub_eq_succ rfl) rfl rfl (memOKc (Nat.lt_of_sub_eq_succ rfl) (AllI.okb (n:=300) (by repeat' first | assumption | apply AllI.set) _) rfl (memOKc (Nat.lt_of_sub_eq_succ rfl) (AllI.okb (n:=48) (by repeat' first | assumption | apply AllI.set) _) rfl (memOKc (Nat.lt_of_sub_eq_succ rfl) (AllI.okb (n:=1152) (by repeat' first | assumption | apply AllI.set) _) rfl (memOKc (Nat.lt_of_sub_eq_succ rfl) (AllI.okb (n:=300) (by repeat' first | assumption | apply AllI.set) _) rfl (memOKc (Nat.lt_of_sub_eq_succ rfl) (AllI.okb (n:=48) (by repeat' first | assumption | apply AllI.set) _) rfl memOK0))))))) (Nat.le_refl _) hC⟩
 have lnr:=hr.len
 have lne:=he.len
 have lnw:=hw.len
 have lno:=ho.len
 have lny:=hy.len
 repeat' first | exact ae_nil | apply ae_cons
 all_goals first
  | (simp only [Bool.and_eq_true,hr.part,hr.ok,he.part,he.ok,hw.part,hw.ok,ho.part,ho.ok,hy.part,hy.ok,decide_eq_true_eq,true_and,and_true];omega)
theorem iAeR (dead:Nat→Value) (h:Bool) (r e w o y:List At) (j:Nat) (d:Int):projS [0,8,9,12,13,14] [0,4,5,6,7,8] (exec Tryz.prog KA2 Zl 400 (.code (c1 (c1 (c2 (c2 (c2 (c2 (c2 (c1 (c1 (c2 (c1 (c1 (c2 (c1 (c2 (c2 (c2 (c2 (c2 (c2 (bodyF Tryz.prog 158)))))))))))))))))))))) (Kst.st ⟨[(0,A0),(8,PP 4),(9,PX 5),(12,PX 6),(13,PX 7),(14,IK j),(15,PX 8),(17,I d),(96,IK j),(97,IK j)],(stp0M h r e w o y),9⟩ 147 dead [some false]))=some (Ex.exit 8,[LV.v (V1.one (At.ptr 0 0)),LV.v (V1.one (At.ptr 4 0)),LV.v (V1.one (At.ptx 5 0)),LV.v (V1.one (At.ptx 6 0)),LV.v (V1.one (At.ptx 7 0)),LV.v (V1.one (At.int IntKind.i64 (j:Int)))],(stp0O h r e w o y),[(decide ((j:Int)<(j:Int)),false)]):=by kernel_rfl
theorem iAe (h:Bool) (r e w o y:List At) (j:Nat) (d:Int) (hr:AllI r 300) (he:AllI e 48) (hw:AllI w 1152) (ho:AllI o 300) (hy:AllI y 48):∃ (h':Bool) (r' e' w' o' y':List At),AllI r' 300∧AllI e' 48∧AllI w' 1152∧AllI o' 300∧AllI y' 48∧To Tryz.prog 147 (c1 (c1 (c2 (c2 (c2 (c2 (c2 (c1 (c1 (c2 (c1 (c1 (c2 (c1 (c2 (c2 (c2 (c2 (c2 (c2 (bodyF Tryz.prog 158))))))))))))))))))))) ⟨[(0,A0),(8,PP 4),(9,PX 5),(12,PX 6),(13,PX 7),(14,IK j),(15,PX 8),(17,I d),(96,IK j),(97,IK j)],(stp0M h r e w o y),9⟩ (.exit 8) ⟨[(0,A0),(8,PP 4),(9,PX 5),(12,PX 6),(13,PX 7),(14,IK j)],(stp0M h' r' e' w' o' y'),9⟩:=by
 refine ⟨(h),(r),(e),(w),(o),(y),(by repeat' first | assumption | apply AllI.set),(by repeat' first | assumption | apply AllI.set),(by repeat' first | assumption | apply AllI.set),(by repeat' first | assumption | apply AllI.set),(by repeat' first | assumption | apply AllI.set),To.run (z:=Zl) soundKA2 (slots:=[0,8,9,12,13,14]) (blks:=[0,4,5,6,7,8]) (vs:=[A0,PP 4,PX 5,PX 6,PX 7,IK j]) (bs:=(stp0B (h) r e w o y)) (nbB:=9) (fun dead=>iAeR dead h r e w o y j d) rfl rfl rfl ?_ (kstOK_of rfl (memOKc (Nat.lt_of_sub_eq_succ rfl) rfl rfl (memOKc (Nat.lt_of_sub_eq_succ rfl) (AllI.okb (n:=300) (by repeat' first | assumption | apply AllI.set) _) rfl (memOKc (Nat.lt_of_sub_eq_succ rfl) (AllI.okb (n:=48) (by repeat' first | assumption | apply AllI.set) _) rfl (memOKc (Nat.lt_of_sub_eq_succ rfl) (AllI.okb (n:=1152) (by repeat' first | assumption | apply AllI.set) _) rfl (memOKc (Nat.lt_of_sub_eq_succ rfl) (AllI.okb (n:=300) (by repeat' first | assumption | apply AllI.set) _) rfl (memOKc (Nat.lt_of_sub_eq_succ rfl) (AllI.okb (n:=48) (by repeat' first | assumption | apply AllI.set) _) rfl memOK0))))))) (Nat.le_refl _)⟩
 have lnr:=hr.len
 have lne:=he.len
 have lnw:=hw.len
 have lno:=ho.len
 have lny:=hy.len
 repeat' first | exact ae_nil | apply ae_cons
 all_goals first
  | (with_reducible refine decide_eq_false ?_;omega)
theorem iBR (dead:Nat→Value) (h:Bool) (r e w o y:List At) (j i:Nat) (d:Int):projS [0,8,9,12,13,14,15,17,96,97,18,19] [0,4,5,6,7,8] (execL Tryz.prog KA2 Zl 400 (spineL 2 (c1 (c1 (c2 (c2 (c1 (c1 (c2 (c2 (c2 (c2 (c2 (c1 (c1 (c2 (c1 (c1 (c2 (c1 (c2 (c2 (c2 (c2 (c2 (c2 (bodyF Tryz.prog 158)))))))))))))))))))))))))) (Kst.st ⟨[(0,A0),(8,PP 4),(9,PX 5),(12,PX 6),(13,PX 7),(14,IK j),(15,PX 8),(17,I d),(96,IK j),(97,IK i)],(stp0M h r e w o y),9⟩ 147 dead []))=some (Ex.normal,[LV.v (V1.one (At.ptr 0 0)),LV.v (V1.one (At.ptr 4 0)),LV.v (V1.one (At.ptx 5 0)),LV.v (V1.one (At.ptx 6 0)),LV.v (V1.one (At.ptx 7 0)),LV.v (V1.one (At.int IntKind.i64 (j:Int))),LV.v (V1.one (At.ptx 8 0)),LV.v (V1.one (At.int IntKind.i64 d)),LV.v (V1.one (At.int IntKind.i64 (j:Int))),LV.v (V1.one (At.int IntKind.i64 (i:Int))),LV.v (V1.one (At.int IntKind.i64 (i:Int))),LV.v (V1.one (At.int IntKind.i64 (divPV (dotV 30 (intL (List.take ((48 - 0)*1) (List.drop (0+(i:Int).toNat*48+0*1) w))) (intL (List.take ((48 - 0)*1) (List.drop (0+0*1) y)))) d 30)))],(stp0O (h||dotH 30 (intL (List.take ((48 - 0)*1) (List.drop (0+(i:Int).toNat*48+0*1) w))) (intL (List.take ((48 - 0)*1) (List.drop (0+0*1) y)))||divPH (dotV 30 (intL (List.take ((48 - 0)*1) (List.drop (0+(i:Int).toNat*48+0*1) w))) (intL (List.take ((48 - 0)*1) (List.drop (0+0*1) y)))) d 30) r e w o y),[(isIntL (List.take ((48 - 0)*1) (List.drop (0+(i:Int).toNat*48+0*1) w))&&(okL noP w&&(decide (0+(i:Int).toNat*48+0*1+(48 - 0)*1≤w.length)&&true)),true),(isIntL (List.take ((48 - 0)*1) (List.drop (0+0*1) y))&&(okL noP y&&(decide (0+0*1+(48 - 0)*1≤y.length)&&true)),true),(decide (0≤(i:Int))&&decide ((i:Int)<24),true)]):=by kernel_rfl
theorem iB (h:Bool) (r e w o y:List At) (j i:Nat) (d:Int) (hr:AllI r 300) (he:AllI e 48) (hw:AllI w 1152) (ho:AllI o 300) (hy:AllI y 48) (hj:j<24) (hi:i<j):∃(u:Int) (h':Bool) (r' e' w' o' y':List At),AllI r' 300∧AllI e' 48∧AllI w' 1152∧AllI o' 300∧AllI y' 48∧∀(ee:Ex) (CC:Kst),To Tryz.prog 147 (dropC 2 (c1 (c1 (c2 (c2 (c1 (c1 (c2 (c2 (c2 (c2 (c2 (c1 (c1 (c2 (c1 (c1 (c2 (c1 (c2 (c2 (c2 (c2 (c2 (c2 (bodyF Tryz.prog 158)))))))))))))))))))))))))) ⟨[(0,A0),(8,PP 4),(9,PX 5),(12,PX 6),(13,PX 7),(14,IK j),(15,PX 8),(17,I d),(96,IK j),(97,IK i),(18,IK i),(19,I u)],(stp0M h' r' e' w' o' y'),9⟩ ee CC→To Tryz.prog 147 (c1 (c1 (c2 (c2 (c1 (c1 (c2 (c2 (c2 (c2 (c2 (c1 (c1 (c2 (c1 (c1 (c2 (c1 (c2 (c2 (c2 (c2 (c2 (c2 (bodyF Tryz.prog 158))))))))))))))))))))))))) ⟨[(0,A0),(8,PP 4),(9,PX 5),(12,PX 6),(13,PX 7),(14,IK j),(15,PX 8),(17,I d),(96,IK j),(97,IK i)],(stp0M h r e w o y),9⟩ ee CC:=by
 refine ⟨((divPV (dotV 30 (intL (List.take ((48 - 0)*1) (List.drop (0+(i:Int).toNat*48+0*1) w))) (intL (List.take ((48 - 0)*1) (List.drop (0+0*1) y)))) d 30)),((h||dotH 30 (intL (List.take ((48 - 0)*1) (List.drop (0+(i:Int).toNat*48+0*1) w))) (intL (List.take ((48 - 0)*1) (List.drop (0+0*1) y)))||divPH (dotV 30 (intL (List.take ((48 - 0)*1) (List.drop (0+(i:Int).toNat*48+0*1) w))) (intL (List.take ((48 - 0)*1) (List.drop (0+0*1) y)))) d 30)),(r),(e),(w),(o),(y),(by repeat' first | assumption | apply AllI.set),(by repeat' first | assumption | apply AllI.set),(by repeat' first | assumption | apply AllI.set),(by repeat' first | assumption | apply AllI.set),(by repeat' first | assumption | apply AllI.set),fun ee CC hC=>To.spineR (k:=2) (z:=Zl) soundKA2 (slots:=[0,8,9,12,13,14,15,17,96,97,18,19]) (blks:=[0,4,5,6,7,8]) (vs:=[A0,PP 4,PX 5,PX 6,PX 7,IK j,PX 8,I d,IK j,IK i,IK i,I ((divPV (dotV 30 (intL (List.take ((48 - 0)*1) (List.drop (0+(i:Int).toNat*48+0*1) w))) (intL (List.take ((48 - 0)*1) (List.drop (0+0*1) y)))) d 30))]) (bs:=(stp0B ((h||dotH 30 (intL (List.take ((48 - 0)*1) (List.drop (0+(i:Int).toNat*48+0*1) w))) (intL (List.take ((48 - 0)*1) (List.drop (0+0*1) y)))||divPH (dotV 30 (intL (List.take ((48 - 0)*1) (List.drop (0+(i:Int).toNat*48+0*1) w))) (intL (List.take ((48 - 0)*1) (List.drop (0+0*1) y)))) d 30)) r e w o y)) (nbB:=9) (by kernel_rfl) (fun dead=>iBR dead h r e w o y j i d) rfl rfl rfl ?_ (kstOK_of rfl (memOKc (Nat.lt_of_sub_eq_succ rfl) rfl rfl (memOKc (Nat.lt_of_sub_eq_succ rfl) (AllI.okb (n:=300) (by repeat' first | assumption | apply AllI.set) _) rfl (memOKc (Nat.lt_of_sub_eq_succ rfl) (AllI.okb (n:=48) (by repeat' first | assumption | apply AllI.set) _) rfl (memOKc (Nat.lt_of_sub_eq_succ rfl) (AllI.okb (n:=1152) (by repeat' first | assumption | apply AllI.set) _) rfl (memOKc (Nat.lt_of_sub_eq_succ rfl) (AllI.okb (n:=300) (by repeat' first | assumption | apply AllI.set) _) rfl (memOKc (Nat.lt_of_sub_eq_succ rfl) (AllI.okb (n:=48) (by repeat' first | assumption | apply AllI.set) _) rfl memOK0))))))) (Nat.le_refl _) hC⟩
 have lnr:=hr.len
 have lne:=he.len
 have lnw:=hw.len
 have lno:=ho.len
 have lny:=hy.len
 repeat' first | exact ae_nil | apply ae_cons
 all_goals first
  | (simp only [Bool.and_eq_true,hr.part,hr.ok,he.part,he.ok,hw.part,hw.ok,ho.part,ho.ok,hy.part,hy.ok,decide_eq_true_eq,true_and,and_true];omega)
theorem iDR (dead:Nat→Value) (h:Bool) (r e w o y:List At) (j i:Nat) (d u:Int):projS [0,8,9,12,13,14,15,17,96,97,18,19,116] [0,4,5,6,7,8] (exec Tryz.prog KA2 Zl 400 (.code (c1 (c2 (c2 (c2 (c1 (c1 (c2 (c2 (c1 (c1 (c2 (c2 (c2 (c2 (c2 (c1 (c1 (c2 (c1 (c1 (c2 (c1 (c2 (c2 (c2 (c2 (c2 (c2 (bodyF Tryz.prog 158)))))))))))))))))))))))))))))) (Kst.st ⟨[(0,A0),(8,PP 4),(9,PX 5),(12,PX 6),(13,PX 7),(14,IK j),(15,PX 8),(17,I d),(96,IK j),(97,IK i),(18,IK i),(19,I u)],(stp0M h r e w o y),9⟩ 147 dead []))=some (Ex.normal,[LV.v (V1.one (At.ptr 0 0)),LV.v (V1.one (At.ptr 4 0)),LV.v (V1.one (At.ptx 5 0)),LV.v (V1.one (At.ptx 6 0)),LV.v (V1.one (At.ptx 7 0)),LV.v (V1.one (At.int IntKind.i64 (j:Int))),LV.v (V1.one (At.ptx 8 0)),LV.v (V1.one (At.int IntKind.i64 d)),LV.v (V1.one (At.int IntKind.i64 (j:Int))),LV.v (V1.one (At.int IntKind.i64 (i:Int))),LV.v (V1.one (At.int IntKind.i64 (i:Int))),LV.v (V1.one (At.int IntKind.i64 u)),LV.v (V1.one (At.int IntKind.i64 0))],(stp0O h r e w o y),[]):=by kernel_rfl
theorem iD (h:Bool) (r e w o y:List At) (j i:Nat) (d u:Int) (hr:AllI r 300) (he:AllI e 48) (hw:AllI w 1152) (ho:AllI o 300) (hy:AllI y 48):∃ (h':Bool) (r' e' w' o' y':List At),AllI r' 300∧AllI e' 48∧AllI w' 1152∧AllI o' 300∧AllI y' 48∧To Tryz.prog 147 (c1 (c2 (c2 (c2 (c1 (c1 (c2 (c2 (c1 (c1 (c2 (c2 (c2 (c2 (c2 (c1 (c1 (c2 (c1 (c1 (c2 (c1 (c2 (c2 (c2 (c2 (c2 (c2 (bodyF Tryz.prog 158))))))))))))))))))))))))))))) ⟨[(0,A0),(8,PP 4),(9,PX 5),(12,PX 6),(13,PX 7),(14,IK j),(15,PX 8),(17,I d),(96,IK j),(97,IK i),(18,IK i),(19,I u)],(stp0M h r e w o y),9⟩ .normal ⟨[(0,A0),(8,PP 4),(9,PX 5),(12,PX 6),(13,PX 7),(14,IK j),(15,PX 8),(17,I d),(96,IK j),(97,IK i),(18,IK i),(19,I u),(116,IK 0)],(stp0M h' r' e' w' o' y'),9⟩:=by
 refine ⟨(h),(r),(e),(w),(o),(y),(by repeat' first | assumption | apply AllI.set),(by repeat' first | assumption | apply AllI.set),(by repeat' first | assumption | apply AllI.set),(by repeat' first | assumption | apply AllI.set),(by repeat' first | assumption | apply AllI.set),To.run (z:=Zl) soundKA2 (slots:=[0,8,9,12,13,14,15,17,96,97,18,19,116]) (blks:=[0,4,5,6,7,8]) (vs:=[A0,PP 4,PX 5,PX 6,PX 7,IK j,PX 8,I d,IK j,IK i,IK i,I u,IK 0]) (bs:=(stp0B (h) r e w o y)) (nbB:=9) (fun dead=>iDR dead h r e w o y j i d u) rfl rfl rfl ?_ (kstOK_of rfl (memOKc (Nat.lt_of_sub_eq_succ rfl) rfl rfl (memOKc (Nat.lt_of_sub_eq_succ rfl) (AllI.okb (n:=300) (by repeat' first | assumption | apply AllI.set) _) rfl (memOKc (Nat.lt_of_sub_eq_succ rfl) (AllI.okb (n:=48) (by repeat' first | assumption | apply AllI.set) _) rfl (memOKc (Nat.lt_of_sub_eq_succ rfl) (AllI.okb (n:=1152) (by repeat' first | assumption | apply AllI.set) _) rfl (memOKc (Nat.lt_of_sub_eq_succ rfl) (AllI.okb (n:=300) (by repeat' first | assumption | apply AllI.set) _) rfl (memOKc (Nat.lt_of_sub_eq_succ rfl) (AllI.okb (n:=48) (by repeat' first | assumption | apply AllI.set) _) rfl memOK0))))))) (Nat.le_refl _)⟩
 have lnr:=hr.len
 have lne:=he.len
 have lnw:=hw.len
 have lno:=ho.len
 have lny:=hy.len
 repeat' first | exact ae_nil | apply ae_cons
theorem iER (dead:Nat→Value) (h:Bool) (r e w o y:List At) (j i:Nat) (d u:Int) (k:Nat):projS [0,8,9,12,13,14,15,17,96,97,18,19,116] [0,4,5,6,7,8] (exec Tryz.prog KA2 Zl 400 (.code (c1 (c1 (c2 (c2 (c2 (c2 (c1 (c1 (c2 (c2 (c1 (c1 (c2 (c2 (c2 (c2 (c2 (c1 (c1 (c2 (c1 (c1 (c2 (c1 (c2 (c2 (c2 (c2 (c2 (c2 (bodyF Tryz.prog 158)))))))))))))))))))))))))))))))) (Kst.st ⟨[(0,A0),(8,PP 4),(9,PX 5),(12,PX 6),(13,PX 7),(14,IK j),(15,PX 8),(17,I d),(96,IK j),(97,IK i),(18,IK i),(19,I u),(116,IK k)],(stp0M h r e w o y),9⟩ 147 dead [some true]))=some (Ex.normal,[LV.v (V1.one (At.ptr 0 0)),LV.v (V1.one (At.ptr 4 0)),LV.v (V1.one (At.ptx 5 0)),LV.v (V1.one (At.ptx 6 0)),LV.v (V1.one (At.ptx 7 0)),LV.v (V1.one (At.int IntKind.i64 (j:Int))),LV.v (V1.one (At.ptx 8 0)),LV.v (V1.one (At.int IntKind.i64 d)),LV.v (V1.one (At.int IntKind.i64 (j:Int))),LV.v (V1.one (At.int IntKind.i64 (i:Int))),LV.v (V1.one (At.int IntKind.i64 (i:Int))),LV.v (V1.one (At.int IntKind.i64 u)),LV.v (V1.one (At.int IntKind.i64 (wr IntKind.i64 ((k:Int)+1))))],(stp0O (h||mulH u (intAt w (0+(j:Int).toNat*48+(k:Int).toNat*1)) 30||subH (intAt w (0+(i:Int).toNat*48+(k:Int).toNat*1)) (mulV u (intAt w (0+(j:Int).toNat*48+(k:Int).toNat*1)) 30)) r e ((List.set w) (0+(i:Int).toNat*48+(k:Int).toNat*1) (At.int IntKind.i64 (subV (intAt w (0+(i:Int).toNat*48+(k:Int).toNat*1)) (mulV u (intAt w (0+(j:Int).toNat*48+(k:Int).toNat*1)) 30)))) o y),[(decide (0+(i:Int).toNat*48+(k:Int).toNat*1<w.length),true),(decide (0≤(k:Int))&&decide ((k:Int)<48),true),(decide (0≤(i:Int))&&decide ((i:Int)<24),true),(isIntAt IntKind.i64 w (0+(j:Int).toNat*48+(k:Int).toNat*1),true),(decide (0≤(k:Int))&&decide ((k:Int)<48),true),(decide (0≤(j:Int))&&decide ((j:Int)<24),true),(isIntAt IntKind.i64 w (0+(i:Int).toNat*48+(k:Int).toNat*1),true),(decide (0≤(k:Int))&&decide ((k:Int)<48),true),(decide (0≤(i:Int))&&decide ((i:Int)<24),true),(decide ((k:Int)<48),true)]):=by kernel_rfl
theorem iE (h:Bool) (r e w o y:List At) (j i:Nat) (d u:Int) (k:Nat) (hr:AllI r 300) (he:AllI e 48) (hw:AllI w 1152) (ho:AllI o 300) (hy:AllI y 48) (hj:j<24) (hi:i<j) (hk:k<48):∃ (h':Bool) (r' e' w' o' y':List At),AllI r' 300∧AllI e' 48∧AllI w' 1152∧AllI o' 300∧AllI y' 48∧To Tryz.prog 147 (c1 (c1 (c2 (c2 (c2 (c2 (c1 (c1 (c2 (c2 (c1 (c1 (c2 (c2 (c2 (c2 (c2 (c1 (c1 (c2 (c1 (c1 (c2 (c1 (c2 (c2 (c2 (c2 (c2 (c2 (bodyF Tryz.prog 158))))))))))))))))))))))))))))))) ⟨[(0,A0),(8,PP 4),(9,PX 5),(12,PX 6),(13,PX 7),(14,IK j),(15,PX 8),(17,I d),(96,IK j),(97,IK i),(18,IK i),(19,I u),(116,IK k)],(stp0M h r e w o y),9⟩ .normal ⟨[(0,A0),(8,PP 4),(9,PX 5),(12,PX 6),(13,PX 7),(14,IK j),(15,PX 8),(17,I d),(96,IK j),(97,IK i),(18,IK i),(19,I u),(116,IK (k+1))],(stp0M h' r' e' w' o' y'),9⟩:=by
 refine ⟨((h||mulH u (intAt w (0+(j:Int).toNat*48+(k:Int).toNat*1)) 30||subH (intAt w (0+(i:Int).toNat*48+(k:Int).toNat*1)) (mulV u (intAt w (0+(j:Int).toNat*48+(k:Int).toNat*1)) 30))),(r),(e),((List.set w) (0+(i:Int).toNat*48+(k:Int).toNat*1) (At.int IntKind.i64 (subV (intAt w (0+(i:Int).toNat*48+(k:Int).toNat*1)) (mulV u (intAt w (0+(j:Int).toNat*48+(k:Int).toNat*1)) 30)))),(o),(y),(by repeat' first | assumption | apply AllI.set),(by repeat' first | assumption | apply AllI.set),(by repeat' first | assumption | apply AllI.set),(by repeat' first | assumption | apply AllI.set),(by repeat' first | assumption | apply AllI.set),To.run (z:=Zl) soundKA2 (slots:=[0,8,9,12,13,14,15,17,96,97,18,19,116]) (blks:=[0,4,5,6,7,8]) (vs:=[A0,PP 4,PX 5,PX 6,PX 7,IK j,PX 8,I d,IK j,IK i,IK i,I u,IK (k+1)]) (bs:=(stp0B ((h||mulH u (intAt w (0+(j:Int).toNat*48+(k:Int).toNat*1)) 30||subH (intAt w (0+(i:Int).toNat*48+(k:Int).toNat*1)) (mulV u (intAt w (0+(j:Int).toNat*48+(k:Int).toNat*1)) 30))) r e ((List.set w) (0+(i:Int).toNat*48+(k:Int).toNat*1) (At.int IntKind.i64 (subV (intAt w (0+(i:Int).toNat*48+(k:Int).toNat*1)) (mulV u (intAt w (0+(j:Int).toNat*48+(k:Int).toNat*1)) 30)))) o y)) (nbB:=9) (fun dead=>iER dead h r e w o y j i d u k) rfl (by rw [wk k (by omega)];rfl) rfl ?_ (kstOK_of rfl (memOKc (Nat.lt_of_sub_eq_succ rfl) rfl rfl (memOKc (Nat.lt_of_sub_eq_succ rfl) (AllI.okb (n:=300) (by repeat' first | assumption | apply AllI.set) _) rfl (memOKc (Nat.lt_of_sub_eq_succ rfl) (AllI.okb (n:=48) (by repeat' first | assumption | apply AllI.set) _) rfl (memOKc (Nat.lt_of_sub_eq_succ rfl) (AllI.okb (n:=1152) (by repeat' first | assumption | apply AllI.set) _) rfl (memOKc (Nat.lt_of_sub_eq_succ rfl) (AllI.okb (n:=300) (by repeat' first | assumption | apply AllI.set) _) rfl (memOKc (Nat.lt_of_sub_eq_succ rfl) (AllI.okb (n:=48) (by repeat' first | assumption | apply AllI.set) _) rfl memOK0))))))) (Nat.le_refl _)⟩
 have lnr:=hr.len
 have lne:=he.len
 have lnw:=hw.len
 have lno:=ho.len
 have lny:=hy.len
 repeat' first | exact ae_nil | apply ae_cons
 all_goals first
  | (with_reducible refine AllI.ats (by assumption) _ ?_;simp only [Int.toNat_natCast];omega)
  | (simp only [Bool.and_eq_true,hr.part,hr.ok,he.part,he.ok,hw.part,hw.ok,ho.part,ho.ok,hy.part,hy.ok,decide_eq_true_eq,true_and,and_true];omega)
theorem iEeR (dead:Nat→Value) (h:Bool) (r e w o y:List At) (j i:Nat) (d u:Int):projS [0,8,9,12,13,14,15,17,96,97,18,19] [0,4,5,6,7,8] (exec Tryz.prog KA2 Zl 400 (.code (c1 (c1 (c2 (c2 (c2 (c2 (c1 (c1 (c2 (c2 (c1 (c1 (c2 (c2 (c2 (c2 (c2 (c1 (c1 (c2 (c1 (c1 (c2 (c1 (c2 (c2 (c2 (c2 (c2 (c2 (bodyF Tryz.prog 158)))))))))))))))))))))))))))))))) (Kst.st ⟨[(0,A0),(8,PP 4),(9,PX 5),(12,PX 6),(13,PX 7),(14,IK j),(15,PX 8),(17,I d),(96,IK j),(97,IK i),(18,IK i),(19,I u),(116,IK 48)],(stp0M h r e w o y),9⟩ 147 dead []))=some (Ex.exit 10,[LV.v (V1.one (At.ptr 0 0)),LV.v (V1.one (At.ptr 4 0)),LV.v (V1.one (At.ptx 5 0)),LV.v (V1.one (At.ptx 6 0)),LV.v (V1.one (At.ptx 7 0)),LV.v (V1.one (At.int IntKind.i64 (j:Int))),LV.v (V1.one (At.ptx 8 0)),LV.v (V1.one (At.int IntKind.i64 d)),LV.v (V1.one (At.int IntKind.i64 (j:Int))),LV.v (V1.one (At.int IntKind.i64 (i:Int))),LV.v (V1.one (At.int IntKind.i64 (i:Int))),LV.v (V1.one (At.int IntKind.i64 u))],(stp0O h r e w o y),[]):=by kernel_rfl
theorem iEe (h:Bool) (r e w o y:List At) (j i:Nat) (d u:Int) (hr:AllI r 300) (he:AllI e 48) (hw:AllI w 1152) (ho:AllI o 300) (hy:AllI y 48):∃ (h':Bool) (r' e' w' o' y':List At),AllI r' 300∧AllI e' 48∧AllI w' 1152∧AllI o' 300∧AllI y' 48∧To Tryz.prog 147 (c1 (c1 (c2 (c2 (c2 (c2 (c1 (c1 (c2 (c2 (c1 (c1 (c2 (c2 (c2 (c2 (c2 (c1 (c1 (c2 (c1 (c1 (c2 (c1 (c2 (c2 (c2 (c2 (c2 (c2 (bodyF Tryz.prog 158))))))))))))))))))))))))))))))) ⟨[(0,A0),(8,PP 4),(9,PX 5),(12,PX 6),(13,PX 7),(14,IK j),(15,PX 8),(17,I d),(96,IK j),(97,IK i),(18,IK i),(19,I u),(116,IK 48)],(stp0M h r e w o y),9⟩ (.exit 10) ⟨[(0,A0),(8,PP 4),(9,PX 5),(12,PX 6),(13,PX 7),(14,IK j),(15,PX 8),(17,I d),(96,IK j),(97,IK i),(18,IK i),(19,I u)],(stp0M h' r' e' w' o' y'),9⟩:=by
 refine ⟨(h),(r),(e),(w),(o),(y),(by repeat' first | assumption | apply AllI.set),(by repeat' first | assumption | apply AllI.set),(by repeat' first | assumption | apply AllI.set),(by repeat' first | assumption | apply AllI.set),(by repeat' first | assumption | apply AllI.set),To.run (z:=Zl) soundKA2 (slots:=[0,8,9,12,13,14,15,17,96,97,18,19]) (blks:=[0,4,5,6,7,8]) (vs:=[A0,PP 4,PX 5,PX 6,PX 7,IK j,PX 8,I d,IK j,IK i,IK i,I u]) (bs:=(stp0B (h) r e w o y)) (nbB:=9) (fun dead=>iEeR dead h r e w o y j i d u) rfl rfl rfl ?_ (kstOK_of rfl (memOKc (Nat.lt_of_sub_eq_succ rfl) rfl rfl (memOKc (Nat.lt_of_sub_eq_succ rfl) (AllI.okb (n:=300) (by repeat' first | assumption | apply AllI.set) _) rfl (memOKc (Nat.lt_of_sub_eq_succ rfl) (AllI.okb (n:=48) (by repeat' first | assumption | apply AllI.set) _) rfl (memOKc (Nat.lt_of_sub_eq_succ rfl) (AllI.okb (n:=1152) (by repeat' first | assumption | apply AllI.set) _) rfl (memOKc (Nat.lt_of_sub_eq_succ rfl) (AllI.okb (n:=300) (by repeat' first | assumption | apply AllI.set) _) rfl (memOKc (Nat.lt_of_sub_eq_succ rfl) (AllI.okb (n:=48) (by repeat' first | assumption | apply AllI.set) _) rfl memOK0))))))) (Nat.le_refl _)⟩
 have lnr:=hr.len
 have lne:=he.len
 have lnw:=hw.len
 have lno:=ho.len
 have lny:=hy.len
 repeat' first | exact ae_nil | apply ae_cons
theorem iFR (dead:Nat→Value) (h:Bool) (r e w o y:List At) (j i:Nat) (d u:Int):projS [0,8,9,12,13,14,15,17,96,97] [0,4,5,6,7,8] (exec Tryz.prog KA2 Zl 400 (.code (c2 (c2 (c2 (c1 (c1 (c2 (c2 (c2 (c2 (c2 (c1 (c1 (c2 (c1 (c1 (c2 (c1 (c2 (c2 (c2 (c2 (c2 (c2 (bodyF Tryz.prog 158))))))))))))))))))))))))) (Kst.st ⟨[(0,A0),(8,PP 4),(9,PX 5),(12,PX 6),(13,PX 7),(14,IK j),(15,PX 8),(17,I d),(96,IK j),(97,IK i),(18,IK i),(19,I u)],(stp0M h r e w o y),9⟩ 147 dead []))=some (Ex.normal,[LV.v (V1.one (At.ptr 0 0)),LV.v (V1.one (At.ptr 4 0)),LV.v (V1.one (At.ptx 5 0)),LV.v (V1.one (At.ptx 6 0)),LV.v (V1.one (At.ptx 7 0)),LV.v (V1.one (At.int IntKind.i64 (j:Int))),LV.v (V1.one (At.ptx 8 0)),LV.v (V1.one (At.int IntKind.i64 d)),LV.v (V1.one (At.int IntKind.i64 (j:Int))),LV.v (V1.one (At.int IntKind.i64 (wr IntKind.i64 ((i:Int)+1))))],(stp0O h r e w o y),[]):=by kernel_rfl
theorem iF (h:Bool) (r e w o y:List At) (j i:Nat) (d u:Int) (hr:AllI r 300) (he:AllI e 48) (hw:AllI w 1152) (ho:AllI o 300) (hy:AllI y 48) (hj:j<24) (hi:i<j):∃ (h':Bool) (r' e' w' o' y':List At),AllI r' 300∧AllI e' 48∧AllI w' 1152∧AllI o' 300∧AllI y' 48∧To Tryz.prog 147 (c2 (c2 (c2 (c1 (c1 (c2 (c2 (c2 (c2 (c2 (c1 (c1 (c2 (c1 (c1 (c2 (c1 (c2 (c2 (c2 (c2 (c2 (c2 (bodyF Tryz.prog 158)))))))))))))))))))))))) ⟨[(0,A0),(8,PP 4),(9,PX 5),(12,PX 6),(13,PX 7),(14,IK j),(15,PX 8),(17,I d),(96,IK j),(97,IK i),(18,IK i),(19,I u)],(stp0M h r e w o y),9⟩ .normal ⟨[(0,A0),(8,PP 4),(9,PX 5),(12,PX 6),(13,PX 7),(14,IK j),(15,PX 8),(17,I d),(96,IK j),(97,IK (i+1))],(stp0M h' r' e' w' o' y'),9⟩:=by
 refine ⟨(h),(r),(e),(w),(o),(y),(by repeat' first | assumption | apply AllI.set),(by repeat' first | assumption | apply AllI.set),(by repeat' first | assumption | apply AllI.set),(by repeat' first | assumption | apply AllI.set),(by repeat' first | assumption | apply AllI.set),To.run (z:=Zl) soundKA2 (slots:=[0,8,9,12,13,14,15,17,96,97]) (blks:=[0,4,5,6,7,8]) (vs:=[A0,PP 4,PX 5,PX 6,PX 7,IK j,PX 8,I d,IK j,IK (i+1)]) (bs:=(stp0B (h) r e w o y)) (nbB:=9) (fun dead=>iFR dead h r e w o y j i d u) rfl (by rw [wk i (by omega)];rfl) rfl ?_ (kstOK_of rfl (memOKc (Nat.lt_of_sub_eq_succ rfl) rfl rfl (memOKc (Nat.lt_of_sub_eq_succ rfl) (AllI.okb (n:=300) (by repeat' first | assumption | apply AllI.set) _) rfl (memOKc (Nat.lt_of_sub_eq_succ rfl) (AllI.okb (n:=48) (by repeat' first | assumption | apply AllI.set) _) rfl (memOKc (Nat.lt_of_sub_eq_succ rfl) (AllI.okb (n:=1152) (by repeat' first | assumption | apply AllI.set) _) rfl (memOKc (Nat.lt_of_sub_eq_succ rfl) (AllI.okb (n:=300) (by repeat' first | assumption | apply AllI.set) _) rfl (memOKc (Nat.lt_of_sub_eq_succ rfl) (AllI.okb (n:=48) (by repeat' first | assumption | apply AllI.set) _) rfl memOK0))))))) (Nat.le_refl _)⟩
 have lnr:=hr.len
 have lne:=he.len
 have lnw:=hw.len
 have lno:=ho.len
 have lny:=hy.len
 repeat' first | exact ae_nil | apply ae_cons
theorem sDL (h:Bool) (p f q r e:List At) (i:Nat) (hp:AllI p 300) (hf:AllI f 576) (hq:AllI q 24) (hr:AllI r 300) (he:AllI e 48) (hi:i<24):∃(h':Bool) (p' f' q' r' e':List At),AllI p' 300∧AllI f' 576∧AllI q' 24∧AllI r' 300∧AllI e' 48∧To Tryz.prog 147 (c2 (c2 (c2 (c1 (c1 (c2 (c2 (c1 (c1 (c2 (c1 (c2 (c2 (c2 (bodyF Tryz.prog 158))))))))))))))) ⟨[(0,A0),(5,PX 1),(6,PX 2),(7,PX 3),(8,PP 4),(9,PX 5),(10,IK i),(24,IK i),(41,IK 0)],(stp1M h p f q r e),6⟩ .normal ⟨[(0,A0),(5,PX 1),(6,PX 2),(7,PX 3),(8,PP 4),(9,PX 5),(10,IK i),(24,IK i)],(stp1M h' p' f' q' r' e'),6⟩:=by
 have round:∀(k:Nat) (s:Bool×List At×List At×List At×List At×List At),k<24→(AllI s.2.1 300∧AllI s.2.2.1 576∧AllI s.2.2.2.1 24∧AllI s.2.2.2.2.1 300∧AllI s.2.2.2.2.2 48)→∃s':Bool×List At×List At×List At×List At×List At,(AllI s'.2.1 300∧AllI s'.2.2.1 576∧AllI s'.2.2.2.1 24∧AllI s'.2.2.2.2.1 300∧AllI s'.2.2.2.2.2 48)∧To Tryz.prog 147 (c1 (c1 (c2 (c2 (c2 (c1 (c1 (c2 (c2 (c1 (c1 (c2 (c1 (c2 (c2 (c2 (bodyF Tryz.prog 158))))))))))))))))) ((fun (k:Nat) (s:Bool×List At×List At×List At×List At×List At)=>(⟨[(0,A0),(5,PX 1),(6,PX 2),(7,PX 3),(8,PP 4),(9,PX 5),(10,IK i),(24,IK i),(41,IK k)],(stp1M (s.1) (s.2.1) (s.2.2.1) (s.2.2.2.1) (s.2.2.2.2.1) (s.2.2.2.2.2)),6⟩:Kst)) k s) .normal ((fun (k:Nat) (s:Bool×List At×List At×List At×List At×List At)=>(⟨[(0,A0),(5,PX 1),(6,PX 2),(7,PX 3),(8,PP 4),(9,PX 5),(10,IK i),(24,IK i),(41,IK k)],(stp1M (s.1) (s.2.1) (s.2.2.1) (s.2.2.2.1) (s.2.2.2.2.1) (s.2.2.2.2.2)),6⟩:Kst)) (k+1) s'):=by
  rintro k ⟨h,p,f,q,r,e⟩ hlt ⟨k0,k1,k2,k3,k4⟩
  obtain ⟨h',p',f',q',r',e',q0,q1,q2,q3,q4,hT⟩:=sD h p f q r e i k k0 k1 k2 k3 k4 hi hlt
  exact ⟨(h',p',f',q',r',e'),⟨q0,q1,q2,q3,q4⟩,hT⟩
 have last:∀(s:Bool×List At×List At×List At×List At×List At),(AllI s.2.1 300∧AllI s.2.2.1 576∧AllI s.2.2.2.1 24∧AllI s.2.2.2.2.1 300∧AllI s.2.2.2.2.2 48)→∃s':Bool×List At×List At×List At×List At×List At,(AllI s'.2.1 300∧AllI s'.2.2.1 576∧AllI s'.2.2.2.1 24∧AllI s'.2.2.2.2.1 300∧AllI s'.2.2.2.2.2 48)∧To Tryz.prog 147 (c1 (c1 (c2 (c2 (c2 (c1 (c1 (c2 (c2 (c1 (c1 (c2 (c1 (c2 (c2 (c2 (bodyF Tryz.prog 158))))))))))))))))) ((fun (k:Nat) (s:Bool×List At×List At×List At×List At×List At)=>(⟨[(0,A0),(5,PX 1),(6,PX 2),(7,PX 3),(8,PP 4),(9,PX 5),(10,IK i),(24,IK i),(41,IK k)],(stp1M (s.1) (s.2.1) (s.2.2.1) (s.2.2.2.1) (s.2.2.2.2.1) (s.2.2.2.2.2)),6⟩:Kst)) (24) s) (.exit 2) ((fun (s:Bool×List At×List At×List At×List At×List At)=>(⟨[(0,A0),(5,PX 1),(6,PX 2),(7,PX 3),(8,PP 4),(9,PX 5),(10,IK i),(24,IK i)],(stp1M (s.1) (s.2.1) (s.2.2.1) (s.2.2.2.1) (s.2.2.2.2.1) (s.2.2.2.2.2)),6⟩:Kst)) s'):=by
  rintro ⟨h,p,f,q,r,e⟩ ⟨k0,k1,k2,k3,k4⟩
  obtain ⟨h',p',f',q',r',e',q0,q1,q2,q3,q4,hT⟩:=sDe h p f q r e i k0 k1 k2 k3 k4
  exact ⟨(h',p',f',q',r',e'),⟨q0,q1,q2,q3,q4⟩,hT⟩
 obtain ⟨⟨h',p',f',q',r',e'⟩,⟨q0,q1,q2,q3,q4⟩,hT⟩:=loop_upE (id:=2) (by kernel_rfl) (by kernel_rfl) round last (h,p,f,q,r,e) ⟨hp,hf,hq,hr,he⟩
 exact ⟨h',p',f',q',r',e',q0,q1,q2,q3,q4,hT⟩
theorem mDL (h:Bool) (r e w o y:List At) (j:Nat) (hr:AllI r 300) (he:AllI e 48) (hw:AllI w 1152) (ho:AllI o 300) (hy:AllI y 48) (hj:j<24):∃(h':Bool) (r' e' w' o' y':List At),AllI r' 300∧AllI e' 48∧AllI w' 1152∧AllI o' 300∧AllI y' 48∧To Tryz.prog 147 (c2 (c1 (c2 (c1 (c1 (c2 (c1 (c1 (c2 (c1 (c2 (c2 (c2 (c2 (c2 (c2 (bodyF Tryz.prog 158))))))))))))))))) ⟨[(0,A0),(8,PP 4),(9,PX 5),(12,PX 6),(13,PX 7),(14,IK j),(15,PX 8),(64,IK 0)],(stp0M h r e w o y),9⟩ .normal ⟨[(0,A0),(8,PP 4),(9,PX 5),(12,PX 6),(13,PX 7),(14,IK j),(15,PX 8)],(stp0M h' r' e' w' o' y'),9⟩:=by
 have round:∀(m:Nat) (s:Bool×List At×List At×List At×List At×List At),m<48→(AllI s.2.1 300∧AllI s.2.2.1 48∧AllI s.2.2.2.1 1152∧AllI s.2.2.2.2.1 300∧AllI s.2.2.2.2.2 48)→∃s':Bool×List At×List At×List At×List At×List At,(AllI s'.2.1 300∧AllI s'.2.2.1 48∧AllI s'.2.2.2.1 1152∧AllI s'.2.2.2.2.1 300∧AllI s'.2.2.2.2.2 48)∧To Tryz.prog 147 (c1 (c1 (c2 (c1 (c2 (c1 (c1 (c2 (c1 (c1 (c2 (c1 (c2 (c2 (c2 (c2 (c2 (c2 (bodyF Tryz.prog 158))))))))))))))))))) ((fun (m:Nat) (s:Bool×List At×List At×List At×List At×List At)=>(⟨[(0,A0),(8,PP 4),(9,PX 5),(12,PX 6),(13,PX 7),(14,IK j),(15,PX 8),(64,IK m)],(stp0M (s.1) (s.2.1) (s.2.2.1) (s.2.2.2.1) (s.2.2.2.2.1) (s.2.2.2.2.2)),9⟩:Kst)) m s) .normal ((fun (m:Nat) (s:Bool×List At×List At×List At×List At×List At)=>(⟨[(0,A0),(8,PP 4),(9,PX 5),(12,PX 6),(13,PX 7),(14,IK j),(15,PX 8),(64,IK m)],(stp0M (s.1) (s.2.1) (s.2.2.1) (s.2.2.2.1) (s.2.2.2.2.1) (s.2.2.2.2.2)),9⟩:Kst)) (m+1) s'):=by
  rintro m ⟨h,r,e,w,o,y⟩ hlt ⟨k0,k1,k2,k3,k4⟩
  obtain ⟨h',r',e',w',o',y',q0,q1,q2,q3,q4,hT⟩:=mD h r e w o y j m k0 k1 k2 k3 k4 hj hlt
  exact ⟨(h',r',e',w',o',y'),⟨q0,q1,q2,q3,q4⟩,hT⟩
 have last:∀(s:Bool×List At×List At×List At×List At×List At),(AllI s.2.1 300∧AllI s.2.2.1 48∧AllI s.2.2.2.1 1152∧AllI s.2.2.2.2.1 300∧AllI s.2.2.2.2.2 48)→∃s':Bool×List At×List At×List At×List At×List At,(AllI s'.2.1 300∧AllI s'.2.2.1 48∧AllI s'.2.2.2.1 1152∧AllI s'.2.2.2.2.1 300∧AllI s'.2.2.2.2.2 48)∧To Tryz.prog 147 (c1 (c1 (c2 (c1 (c2 (c1 (c1 (c2 (c1 (c1 (c2 (c1 (c2 (c2 (c2 (c2 (c2 (c2 (bodyF Tryz.prog 158))))))))))))))))))) ((fun (m:Nat) (s:Bool×List At×List At×List At×List At×List At)=>(⟨[(0,A0),(8,PP 4),(9,PX 5),(12,PX 6),(13,PX 7),(14,IK j),(15,PX 8),(64,IK m)],(stp0M (s.1) (s.2.1) (s.2.2.1) (s.2.2.2.1) (s.2.2.2.2.1) (s.2.2.2.2.2)),9⟩:Kst)) (48) s) (.exit 6) ((fun (s:Bool×List At×List At×List At×List At×List At)=>(⟨[(0,A0),(8,PP 4),(9,PX 5),(12,PX 6),(13,PX 7),(14,IK j),(15,PX 8)],(stp0M (s.1) (s.2.1) (s.2.2.1) (s.2.2.2.1) (s.2.2.2.2.1) (s.2.2.2.2.2)),9⟩:Kst)) s'):=by
  rintro ⟨h,r,e,w,o,y⟩ ⟨k0,k1,k2,k3,k4⟩
  obtain ⟨h',r',e',w',o',y',q0,q1,q2,q3,q4,hT⟩:=mDe h r e w o y j k0 k1 k2 k3 k4
  exact ⟨(h',r',e',w',o',y'),⟨q0,q1,q2,q3,q4⟩,hT⟩
 obtain ⟨⟨h',r',e',w',o',y'⟩,⟨q0,q1,q2,q3,q4⟩,hT⟩:=loop_upE (id:=6) (by kernel_rfl) (by kernel_rfl) round last (h,r,e,w,o,y) ⟨hr,he,hw,ho,hy⟩
 exact ⟨h',r',e',w',o',y',q0,q1,q2,q3,q4,hT⟩
theorem iEL (h:Bool) (r e w o y:List At) (j i:Nat) (d u:Int) (hr:AllI r 300) (he:AllI e 48) (hw:AllI w 1152) (ho:AllI o 300) (hy:AllI y 48) (hj:j<24) (hi:i<j):∃(h':Bool) (r' e' w' o' y':List At),AllI r' 300∧AllI e' 48∧AllI w' 1152∧AllI o' 300∧AllI y' 48∧To Tryz.prog 147 (c2 (c2 (c2 (c2 (c1 (c1 (c2 (c2 (c1 (c1 (c2 (c2 (c2 (c2 (c2 (c1 (c1 (c2 (c1 (c1 (c2 (c1 (c2 (c2 (c2 (c2 (c2 (c2 (bodyF Tryz.prog 158))))))))))))))))))))))))))))) ⟨[(0,A0),(8,PP 4),(9,PX 5),(12,PX 6),(13,PX 7),(14,IK j),(15,PX 8),(17,I d),(96,IK j),(97,IK i),(18,IK i),(19,I u),(116,IK 0)],(stp0M h r e w o y),9⟩ .normal ⟨[(0,A0),(8,PP 4),(9,PX 5),(12,PX 6),(13,PX 7),(14,IK j),(15,PX 8),(17,I d),(96,IK j),(97,IK i),(18,IK i),(19,I u)],(stp0M h' r' e' w' o' y'),9⟩:=by
 have round:∀(k:Nat) (s:Bool×List At×List At×List At×List At×List At),k<48→(AllI s.2.1 300∧AllI s.2.2.1 48∧AllI s.2.2.2.1 1152∧AllI s.2.2.2.2.1 300∧AllI s.2.2.2.2.2 48)→∃s':Bool×List At×List At×List At×List At×List At,(AllI s'.2.1 300∧AllI s'.2.2.1 48∧AllI s'.2.2.2.1 1152∧AllI s'.2.2.2.2.1 300∧AllI s'.2.2.2.2.2 48)∧To Tryz.prog 147 (c1 (c1 (c2 (c2 (c2 (c2 (c1 (c1 (c2 (c2 (c1 (c1 (c2 (c2 (c2 (c2 (c2 (c1 (c1 (c2 (c1 (c1 (c2 (c1 (c2 (c2 (c2 (c2 (c2 (c2 (bodyF Tryz.prog 158))))))))))))))))))))))))))))))) ((fun (k:Nat) (s:Bool×List At×List At×List At×List At×List At)=>(⟨[(0,A0),(8,PP 4),(9,PX 5),(12,PX 6),(13,PX 7),(14,IK j),(15,PX 8),(17,I d),(96,IK j),(97,IK i),(18,IK i),(19,I u),(116,IK k)],(stp0M (s.1) (s.2.1) (s.2.2.1) (s.2.2.2.1) (s.2.2.2.2.1) (s.2.2.2.2.2)),9⟩:Kst)) k s) .normal ((fun (k:Nat) (s:Bool×List At×List At×List At×List At×List At)=>(⟨[(0,A0),(8,PP 4),(9,PX 5),(12,PX 6),(13,PX 7),(14,IK j),(15,PX 8),(17,I d),(96,IK j),(97,IK i),(18,IK i),(19,I u),(116,IK k)],(stp0M (s.1) (s.2.1) (s.2.2.1) (s.2.2.2.1) (s.2.2.2.2.1) (s.2.2.2.2.2)),9⟩:Kst)) (k+1) s'):=by
  rintro k ⟨h,r,e,w,o,y⟩ hlt ⟨k0,k1,k2,k3,k4⟩
  obtain ⟨h',r',e',w',o',y',q0,q1,q2,q3,q4,hT⟩:=iE h r e w o y j i d u k k0 k1 k2 k3 k4 hj hi hlt
  exact ⟨(h',r',e',w',o',y'),⟨q0,q1,q2,q3,q4⟩,hT⟩
 have last:∀(s:Bool×List At×List At×List At×List At×List At),(AllI s.2.1 300∧AllI s.2.2.1 48∧AllI s.2.2.2.1 1152∧AllI s.2.2.2.2.1 300∧AllI s.2.2.2.2.2 48)→∃s':Bool×List At×List At×List At×List At×List At,(AllI s'.2.1 300∧AllI s'.2.2.1 48∧AllI s'.2.2.2.1 1152∧AllI s'.2.2.2.2.1 300∧AllI s'.2.2.2.2.2 48)∧To Tryz.prog 147 (c1 (c1 (c2 (c2 (c2 (c2 (c1 (c1 (c2 (c2 (c1 (c1 (c2 (c2 (c2 (c2 (c2 (c1 (c1 (c2 (c1 (c1 (c2 (c1 (c2 (c2 (c2 (c2 (c2 (c2 (bodyF Tryz.prog 158))))))))))))))))))))))))))))))) ((fun (k:Nat) (s:Bool×List At×List At×List At×List At×List At)=>(⟨[(0,A0),(8,PP 4),(9,PX 5),(12,PX 6),(13,PX 7),(14,IK j),(15,PX 8),(17,I d),(96,IK j),(97,IK i),(18,IK i),(19,I u),(116,IK k)],(stp0M (s.1) (s.2.1) (s.2.2.1) (s.2.2.2.1) (s.2.2.2.2.1) (s.2.2.2.2.2)),9⟩:Kst)) (48) s) (.exit 10) ((fun (s:Bool×List At×List At×List At×List At×List At)=>(⟨[(0,A0),(8,PP 4),(9,PX 5),(12,PX 6),(13,PX 7),(14,IK j),(15,PX 8),(17,I d),(96,IK j),(97,IK i),(18,IK i),(19,I u)],(stp0M (s.1) (s.2.1) (s.2.2.1) (s.2.2.2.1) (s.2.2.2.2.1) (s.2.2.2.2.2)),9⟩:Kst)) s'):=by
  rintro ⟨h,r,e,w,o,y⟩ ⟨k0,k1,k2,k3,k4⟩
  obtain ⟨h',r',e',w',o',y',q0,q1,q2,q3,q4,hT⟩:=iEe h r e w o y j i d u k0 k1 k2 k3 k4
  exact ⟨(h',r',e',w',o',y'),⟨q0,q1,q2,q3,q4⟩,hT⟩
 obtain ⟨⟨h',r',e',w',o',y'⟩,⟨q0,q1,q2,q3,q4⟩,hT⟩:=loop_upE (id:=10) (by kernel_rfl) (by kernel_rfl) round last (h,r,e,w,o,y) ⟨hr,he,hw,ho,hy⟩
 exact ⟨h',r',e',w',o',y',q0,q1,q2,q3,q4,hT⟩
end Go.Proofs.YtnlhpaidmiogbaaGreat

/- thornton.Step: its loops together; its summary: numbers, whatever they are. -/
namespace Go.Proofs.YtnlhpaidmiogbaaGreat
open Go.Lr
set_option linter.unusedVariables false
set_option linter.unusedSimpArgs false
set_option maxRecDepth 20000
abbrev st20M (h:Bool) (x0 x1 x2 x3 x4:List At):Mem:=[(0,flag 61 h),(4,⟨56,(0,0),0,x0⟩),(5,⟨308,(0,0),0,x1⟩),(6,⟨351,(0,0),0,x2⟩),(7,⟨56,(0,0),0,x3⟩),(8,⟨308,(0,0),0,x4⟩)]
abbrev st20B (h:Bool) (x0 x1 x2 x3 x4:List At):List Blk:=[flag 61 h,⟨56,(0,0),0,x0⟩,⟨308,(0,0),0,x1⟩,⟨351,(0,0),0,x2⟩,⟨56,(0,0),0,x3⟩,⟨308,(0,0),0,x4⟩]
abbrev st21M (h:Bool) (x0 x1 x2 x3 x4:List At):Mem:=[(0,flag 61 h),(1,⟨56,(0,0),0,x0⟩),(2,⟨271,(0,0),0,x1⟩),(3,⟨47,(0,0),0,x2⟩),(4,⟨56,(0,0),0,x3⟩),(5,⟨308,(0,0),0,x4⟩)]
abbrev st22M (h:Bool) (x0 x1 x2 x3:List At):Mem:=[(0,flag 61 h),(4,⟨56,(0,0),0,x0⟩),(5,⟨308,(0,0),0,x1⟩),(6,⟨351,(0,0),0,x2⟩),(7,⟨56,(0,0),0,x3⟩)]
abbrev st22B (h:Bool) (x0 x1 x2 x3:List At):List Blk:=[flag 61 h,⟨56,(0,0),0,x0⟩,⟨308,(0,0),0,x1⟩,⟨351,(0,0),0,x2⟩,⟨56,(0,0),0,x3⟩]
theorem ok1 {nb:Nat} (hnb:9≤nb+3) {h:Bool} {p f q r e:List At} (hp:AllI p 300) (hf:AllI f 576) (hq:AllI q 24) (hr:AllI r 300) (he:AllI e 48):memOKb nb (st21M h p f q r e)=true:=
 memOKc (by omega) rfl rfl (memOKc (by omega) (hp.okb _) rfl (memOKc (by omega) (hf.okb _) rfl (memOKc (by omega) (hq.okb _) rfl (memOKc (by omega) (hr.okb _) rfl (memOKc (by omega) (he.okb _) rfl memOK0)))))
theorem ok3 {nb:Nat} (hnb:9≤nb+1) {h:Bool} {r e w o:List At} (hr:AllI r 300) (he:AllI e 48) (hw:AllI w 1152) (ho:AllI o 300):memOKb nb (st22M h r e w o)=true:=
 memOKc (by omega) rfl rfl (memOKc (by omega) (hr.okb _) rfl (memOKc (by omega) (he.okb _) rfl (memOKc (by omega) (hw.okb _) rfl (memOKc (by omega) (ho.okb _) rfl memOK0))))
theorem ok4 {nb:Nat} (hnb:9≤nb+0) {h:Bool} {r e w o y:List At} (hr:AllI r 300) (he:AllI e 48) (hw:AllI w 1152) (ho:AllI o 300) (hy:AllI y 48):memOKb nb (st20M h r e w o y)=true:=
 memOKc (by omega) rfl rfl (memOKc (by omega) (hr.okb _) rfl (memOKc (by omega) (he.okb _) rfl (memOKc (by omega) (hw.okb _) rfl (memOKc (by omega) (ho.okb _) rfl (memOKc (by omega) (hy.okb _) rfl memOK0)))))
theorem sO (h:Bool) (p f q r e:List At) (i:Nat) (hp:AllI p 300) (hf:AllI f 576) (hq:AllI q 24) (hr:AllI r 300) (he:AllI e 48) (hi:i<24):∃(h':Bool) (p' f' q' r' e':List At),AllI p' 300∧AllI f' 576∧AllI q' 24∧AllI r' 300∧AllI e' 48∧To Tryz.prog 147 (c1 (c1 (c2 (c1 (c2 (c2 (c2 (bodyF Tryz.prog 158)))))))) ⟨[(0,A0),(5,PX 1),(6,PX 2),(7,PX 3),(8,PP 4),(9,PX 5),(24,IK i)],(st21M h p f q r e),6⟩ .normal ⟨[(0,A0),(5,PX 1),(6,PX 2),(7,PX 3),(8,PP 4),(9,PX 5),(24,IK (i+1))],(st21M h' p' f' q' r' e'),6⟩:=by
 obtain ⟨h1,p1,f1,q1,r1,e1,zp1,zf1,zq1,zr1,ze1,t1⟩:=sA h p f q r e i hp hf hq hr he hi
 obtain ⟨h2,p2,f2,q2,r2,e2,zp2,zf2,zq2,zr2,ze2,t2⟩:=sB h1 p1 f1 q1 r1 e1 i zp1 zf1 zq1 zr1 ze1 hi
 obtain ⟨h3,p3,f3,q3,r3,e3,zp3,zf3,zq3,zr3,ze3,t3⟩:=sC h2 p2 f2 q2 r2 e2 i zp2 zf2 zq2 zr2 ze2
 obtain ⟨h4,p4,f4,q4,r4,e4,zp4,zf4,zq4,zr4,ze4,t4⟩:=sDL h3 p3 f3 q3 r3 e3 i zp3 zf3 zq3 zr3 ze3 hi
 obtain ⟨h5,p5,f5,q5,r5,e5,zp5,zf5,zq5,zr5,ze5,t5⟩:=sE h4 p4 f4 q4 r4 e4 i zp4 zf4 zq4 zr4 ze4 hi
 exact ⟨h5,p5,f5,q5,r5,e5,zp5,zf5,zq5,zr5,ze5,t1 _ _ (To.seq (by kernel_rfl) (To.block (id:=1) (by kernel_rfl) (t2 _ _ (To.seq (by kernel_rfl) t3 t4)) (.inr rfl)) t5)⟩
theorem sOL (h:Bool) (p f q r e:List At) (hp:AllI p 300) (hf:AllI f 576) (hq:AllI q 24) (hr:AllI r 300) (he:AllI e 48):∃(h':Bool) (p' f' q' r' e':List At),AllI p' 300∧AllI f' 576∧AllI q' 24∧AllI r' 300∧AllI e' 48∧To Tryz.prog 147 (c2 (c1 (c2 (c2 (c2 (bodyF Tryz.prog 158)))))) ⟨[(0,A0),(5,PX 1),(6,PX 2),(7,PX 3),(8,PP 4),(9,PX 5),(24,IK 0)],(st21M h p f q r e),6⟩ .normal ⟨[(0,A0),(5,PX 1),(6,PX 2),(7,PX 3),(8,PP 4),(9,PX 5)],(st21M h' p' f' q' r' e'),6⟩:=by
 have round:∀(i:Nat) (s:Bool×List At×List At×List At×List At×List At),i<24→(AllI s.2.1 300∧AllI s.2.2.1 576∧AllI s.2.2.2.1 24∧AllI s.2.2.2.2.1 300∧AllI s.2.2.2.2.2 48)→∃s':Bool×List At×List At×List At×List At×List At,(AllI s'.2.1 300∧AllI s'.2.2.1 576∧AllI s'.2.2.2.1 24∧AllI s'.2.2.2.2.1 300∧AllI s'.2.2.2.2.2 48)∧To Tryz.prog 147 (c1 (c1 (c2 (c1 (c2 (c2 (c2 (bodyF Tryz.prog 158)))))))) ((fun (i:Nat) (s:Bool×List At×List At×List At×List At×List At)=>(⟨[(0,A0),(5,PX 1),(6,PX 2),(7,PX 3),(8,PP 4),(9,PX 5),(24,IK i)],(st21M (s.1) (s.2.1) (s.2.2.1) (s.2.2.2.1) (s.2.2.2.2.1) (s.2.2.2.2.2)),6⟩:Kst)) i s) .normal ((fun (i:Nat) (s:Bool×List At×List At×List At×List At×List At)=>(⟨[(0,A0),(5,PX 1),(6,PX 2),(7,PX 3),(8,PP 4),(9,PX 5),(24,IK i)],(st21M (s.1) (s.2.1) (s.2.2.1) (s.2.2.2.1) (s.2.2.2.2.1) (s.2.2.2.2.2)),6⟩:Kst)) (i+1) s'):=by
  rintro i ⟨h,p,f,q,r,e⟩ hlt ⟨k0,k1,k2,k3,k4⟩
  obtain ⟨h',p',f',q',r',e',q0,q1,q2,q3,q4,hT⟩:=sO h p f q r e i k0 k1 k2 k3 k4 hlt
  exact ⟨(h',p',f',q',r',e'),⟨q0,q1,q2,q3,q4⟩,hT⟩
 have last:∀(s:Bool×List At×List At×List At×List At×List At),(AllI s.2.1 300∧AllI s.2.2.1 576∧AllI s.2.2.2.1 24∧AllI s.2.2.2.2.1 300∧AllI s.2.2.2.2.2 48)→∃s':Bool×List At×List At×List At×List At×List At,(AllI s'.2.1 300∧AllI s'.2.2.1 576∧AllI s'.2.2.2.1 24∧AllI s'.2.2.2.2.1 300∧AllI s'.2.2.2.2.2 48)∧To Tryz.prog 147 (c1 (c1 (c2 (c1 (c2 (c2 (c2 (bodyF Tryz.prog 158)))))))) ((fun (i:Nat) (s:Bool×List At×List At×List At×List At×List At)=>(⟨[(0,A0),(5,PX 1),(6,PX 2),(7,PX 3),(8,PP 4),(9,PX 5),(24,IK i)],(st21M (s.1) (s.2.1) (s.2.2.1) (s.2.2.2.1) (s.2.2.2.2.1) (s.2.2.2.2.2)),6⟩:Kst)) (24) s) (.exit 0) ((fun (s:Bool×List At×List At×List At×List At×List At)=>(⟨[(0,A0),(5,PX 1),(6,PX 2),(7,PX 3),(8,PP 4),(9,PX 5)],(st21M (s.1) (s.2.1) (s.2.2.1) (s.2.2.2.1) (s.2.2.2.2.1) (s.2.2.2.2.2)),6⟩:Kst)) s'):=by
  rintro ⟨h,p,f,q,r,e⟩ ⟨k0,k1,k2,k3,k4⟩
  obtain ⟨h',p',f',q',r',e',q0,q1,q2,q3,q4,hT⟩:=sAe h p f q r e k0 k1 k2 k3 k4
  exact ⟨(h',p',f',q',r',e'),⟨q0,q1,q2,q3,q4⟩,hT⟩
 obtain ⟨⟨h',p',f',q',r',e'⟩,⟨q0,q1,q2,q3,q4⟩,hT⟩:=loop_upE (id:=0) (by kernel_rfl) (by kernel_rfl) round last (h,p,f,q,r,e) ⟨hp,hf,hq,hr,he⟩
 exact ⟨h',p',f',q',r',e',q0,q1,q2,q3,q4,hT⟩
theorem iCR (dead:Nat→Value) (h:Bool) (r e w o y:List At) (j i:Nat) (d u:Int):projS [0,8,9,12,13,14,15,17,96,97,18,19] [0,4,5,6,7,8] (exec Tryz.prog KA2 Zl 400 (.code (c1 (c2 (c2 (c1 (c1 (c2 (c2 (c1 (c1 (c2 (c2 (c2 (c2 (c2 (c1 (c1 (c2 (c1 (c1 (c2 (c1 (c2 (c2 (c2 (c2 (c2 (c2 (bodyF Tryz.prog 158))))))))))))))))))))))))))))) (Kst.st ⟨[(0,A0),(8,PP 4),(9,PX 5),(12,PX 6),(13,PP 7),(14,IK j),(15,PX 8),(17,I d),(96,IK j),(97,IK i),(18,IK i),(19,I u)],(st20M h r e w (intsAt o 0 300) y),9⟩ 147 dead []))=some (.normal,[A0,PP 4,PX 5,PX 6,PP 7,IK j,PX 8,I d,IK j,IK i,IK i,I u],[some (flag 61 h),some ⟨56,(0,0),0,r⟩,some ⟨308,(0,0),0,e⟩,some ⟨351,(0,0),0,w⟩,some ⟨56,(0,0),0,intsAt ((intsAt o 0 300).set (0+0+(plV (i:Int) (j:Int)).toNat*1) (.int .i64 u)) 0 300⟩,some ⟨308,(0,0),0,y⟩],[(decide (0≤(i:Int)),true),(decide ((i:Int)<(j:Int)),true),(decide ((j:Int)<24),true)]):=by kernel_rfl
theorem iC (h:Bool) (r e w o y:List At) (j i:Nat) (d u:Int) (hr:AllI r 300) (he:AllI e 48) (hw:AllI w 1152) (ho:AllI o 300) (hy:AllI y 48) (hj:j<24) (hi:i<j):∃(h':Bool) (r' e' w' o' y':List At),AllI r' 300∧AllI e' 48∧AllI w' 1152∧AllI o' 300∧AllI y' 48∧To Tryz.prog 147 (c1 (c2 (c2 (c1 (c1 (c2 (c2 (c1 (c1 (c2 (c2 (c2 (c2 (c2 (c1 (c1 (c2 (c1 (c1 (c2 (c1 (c2 (c2 (c2 (c2 (c2 (c2 (bodyF Tryz.prog 158)))))))))))))))))))))))))))) ⟨[(0,A0),(8,PP 4),(9,PX 5),(12,PX 6),(13,PX 7),(14,IK j),(15,PX 8),(17,I d),(96,IK j),(97,IK i),(18,IK i),(19,I u)],(st20M h r e w o y),9⟩ .normal ⟨[(0,A0),(8,PP 4),(9,PX 5),(12,PX 6),(13,PX 7),(14,IK j),(15,PX 8),(17,I d),(96,IK j),(97,IK i),(18,IK i),(19,I u)],(st20M h' r' e' w' o' y'),9⟩:=by
 have ho2:AllI (intsAt ((intsAt o 0 300).set (0+0+(plV (i:Int) (j:Int)).toNat*1) (.int .i64 u)) 0 300) 300:=AllI.ints _ _ _
 refine ⟨h,r,e,w,(intsAt ((intsAt o 0 300).set (0+0+(plV (i:Int) (j:Int)).toNat*1) (.int .i64 u)) 0 300),y,hr,he,hw,ho2,hy, ?_⟩
 have hio:=AllI.ints o 0 300
 have key:To Tryz.prog 147 (c1 (c2 (c2 (c1 (c1 (c2 (c2 (c1 (c1 (c2 (c2 (c2 (c2 (c2 (c1 (c1 (c2 (c1 (c1 (c2 (c1 (c2 (c2 (c2 (c2 (c2 (c2 (bodyF Tryz.prog 158)))))))))))))))))))))))))))) ⟨[(0,A0),(8,PP 4),(9,PX 5),(12,PX 6),(13,PX 7),(14,IK j),(15,PX 8),(17,I d),(96,IK j),(97,IK i),(18,IK i),(19,I u)],(st20M h r e w (intsAt o 0 300) y),9⟩ .normal ⟨[(0,A0),(8,PP 4),(9,PX 5),(12,PX 6),(13,PX 7),(14,IK j),(15,PX 8),(17,I d),(96,IK j),(97,IK i),(18,IK i),(19,I u)],(st20M h r e w (intsAt ((intsAt o 0 300).set (0+0+(plV (i:Int) (j:Int)).toNat*1) (.int .i64 u)) 0 300) y),9⟩:=by
  refine To.post (B:=⟨[(0,A0),(8,PP 4),(9,PX 5),(12,PX 6),(13,PP 7),(14,IK j),(15,PX 8),(17,I d),(96,IK j),(97,IK i),(18,IK i),(19,I u)],(st20M h r e w (intsAt ((intsAt o 0 300).set (0+0+(plV (i:Int) (j:Int)).toNat*1) (.int .i64 u)) 0 300) y),9⟩) (To.pre (B:=⟨[(0,A0),(8,PP 4),(9,PX 5),(12,PX 6),(13,PP 7),(14,IK j),(15,PX 8),(17,I d),(96,IK j),(97,IK i),(18,IK i),(19,I u)],(st20M h r e w (intsAt o 0 300) y),9⟩) (To.exec (z:=Zl) soundKA2 (slots:=[0,8,9,12,13,14,15,17,96,97,18,19]) (blks:=[0,4,5,6,7,8]) (vs:=[A0,PP 4,PX 5,PX 6,PP 7,IK j,PX 8,I d,IK j,IK i,IK i,I u]) (bs:=(st20B h r e w (intsAt ((intsAt o 0 300).set (0+0+(plV (i:Int) (j:Int)).toNat*1) (.int .i64 u)) 0 300) y)) (nbB:=9) (fun dead=>iCR dead h r e w o y j i d u) (ae_cons (decide_eq_true (by omega)) (ae_cons (decide_eq_true (by omega)) (ae_cons (decide_eq_true (by omega)) ae_nil))) (kstOK_of rfl (ok4 (by omega) hr he hw ho2 hy)) (Nat.le_refl _)) (kstOK_of rfl (ok4 (by omega) hr he hw hio hy)) (fun q hq=>by
   simp only [List.mem_cons,List.not_mem_nil,or_false] at hq
   rcases hq with rfl | rfl | rfl | rfl | rfl | rfl | rfl | rfl | rfl | rfl | rfl | rfl
   ·exact ⟨A0,by simp,fun _=>rfl⟩
   ·exact ⟨PP 4,by simp,fun _=>rfl⟩
   ·exact ⟨PX 5,by simp,fun _=>rfl⟩
   ·exact ⟨PX 6,by simp,fun _=>rfl⟩
   ·exact ⟨PX 7,by simp,fun _=>rfl⟩
   ·exact ⟨IK j,by simp,fun _=>rfl⟩
   ·exact ⟨PX 8,by simp,fun _=>rfl⟩
   ·exact ⟨I d,by simp,fun _=>rfl⟩
   ·exact ⟨IK j,by simp,fun _=>rfl⟩
   ·exact ⟨IK i,by simp,fun _=>rfl⟩
   ·exact ⟨IK i,by simp,fun _=>rfl⟩
   ·exact ⟨I u,by simp,fun _=>rfl⟩
   ) rfl rfl) (kstOK_of rfl (ok4 (by omega) hr he hw ho2 hy)) (fun q hq=>by
   simp only [List.mem_cons,List.not_mem_nil,or_false] at hq
   rcases hq with rfl | rfl | rfl | rfl | rfl | rfl | rfl | rfl | rfl | rfl | rfl | rfl
   ·exact ⟨A0,by simp,fun _=>rfl⟩
   ·exact ⟨PP 4,by simp,fun _=>rfl⟩
   ·exact ⟨PX 5,by simp,fun _=>rfl⟩
   ·exact ⟨PX 6,by simp,fun _=>rfl⟩
   ·exact ⟨PP 7,by simp,fun _=>rfl⟩
   ·exact ⟨IK j,by simp,fun _=>rfl⟩
   ·exact ⟨PX 8,by simp,fun _=>rfl⟩
   ·exact ⟨I d,by simp,fun _=>rfl⟩
   ·exact ⟨IK j,by simp,fun _=>rfl⟩
   ·exact ⟨IK i,by simp,fun _=>rfl⟩
   ·exact ⟨IK i,by simp,fun _=>rfl⟩
   ·exact ⟨I u,by simp,fun _=>rfl⟩
   ) rfl rfl
 have eo:intsAt o 0 300=o:=ho.eq.symm
 generalize intsAt ((intsAt o 0 300).set (0+0+(plV (i:Int) (j:Int)).toNat*1) (.int .i64 u)) 0 300=o2 at key ho2 ⊢
 rw [eo] at key
 exact key
theorem iO (h:Bool) (r e w o y:List At) (j:Nat) (d:Int) (i:Nat) (hr:AllI r 300) (he:AllI e 48) (hw:AllI w 1152) (ho:AllI o 300) (hy:AllI y 48) (hj:j<24) (hi:i<j):∃(h':Bool) (r' e' w' o' y':List At),AllI r' 300∧AllI e' 48∧AllI w' 1152∧AllI o' 300∧AllI y' 48∧To Tryz.prog 147 (c1 (c1 (c2 (c2 (c2 (c2 (c2 (c1 (c1 (c2 (c1 (c1 (c2 (c1 (c2 (c2 (c2 (c2 (c2 (c2 (bodyF Tryz.prog 158))))))))))))))))))))) ⟨[(0,A0),(8,PP 4),(9,PX 5),(12,PX 6),(13,PX 7),(14,IK j),(15,PX 8),(17,I d),(96,IK j),(97,IK i)],(st20M h r e w o y),9⟩ .normal ⟨[(0,A0),(8,PP 4),(9,PX 5),(12,PX 6),(13,PX 7),(14,IK j),(15,PX 8),(17,I d),(96,IK j),(97,IK (i+1))],(st20M h' r' e' w' o' y'),9⟩:=by
 obtain ⟨h1,r1,e1,w1,o1,y1,zr1,ze1,zw1,zo1,zy1,t1⟩:=iA h r e w o y j i d hr he hw ho hy hi
 obtain ⟨u,h2,r2,e2,w2,o2,y2,zr2,ze2,zw2,zo2,zy2,t2⟩:=iB h1 r1 e1 w1 o1 y1 j i d zr1 ze1 zw1 zo1 zy1 hj hi
 obtain ⟨h3,r3,e3,w3,o3,y3,zr3,ze3,zw3,zo3,zy3,t3⟩:=iC h2 r2 e2 w2 o2 y2 j i d u zr2 ze2 zw2 zo2 zy2 hj hi
 obtain ⟨h4,r4,e4,w4,o4,y4,zr4,ze4,zw4,zo4,zy4,t4⟩:=iD h3 r3 e3 w3 o3 y3 j i d u zr3 ze3 zw3 zo3 zy3
 obtain ⟨h5,r5,e5,w5,o5,y5,zr5,ze5,zw5,zo5,zy5,t5⟩:=iEL h4 r4 e4 w4 o4 y4 j i d u zr4 ze4 zw4 zo4 zy4 hj hi
 obtain ⟨h6,r6,e6,w6,o6,y6,zr6,ze6,zw6,zo6,zy6,t6⟩:=iF h5 r5 e5 w5 o5 y5 j i d u zr5 ze5 zw5 zo5 zy5 hj hi
 exact ⟨h6,r6,e6,w6,o6,y6,zr6,ze6,zw6,zo6,zy6,t1 _ _ (To.seq (by kernel_rfl) (To.block (id:=9) (by kernel_rfl) (t2 _ _ (To.seq (by kernel_rfl) t3 (To.seq (by kernel_rfl) t4 t5))) (.inr rfl)) t6)⟩
theorem iOL (h:Bool) (r e w o y:List At) (j:Nat) (d:Int) (hr:AllI r 300) (he:AllI e 48) (hw:AllI w 1152) (ho:AllI o 300) (hy:AllI y 48) (hj:j<24):∃(h':Bool) (r' e' w' o' y':List At),AllI r' 300∧AllI e' 48∧AllI w' 1152∧AllI o' 300∧AllI y' 48∧To Tryz.prog 147 (c2 (c2 (c2 (c2 (c2 (c1 (c1 (c2 (c1 (c1 (c2 (c1 (c2 (c2 (c2 (c2 (c2 (c2 (bodyF Tryz.prog 158))))))))))))))))))) ⟨[(0,A0),(8,PP 4),(9,PX 5),(12,PX 6),(13,PX 7),(14,IK j),(15,PX 8),(17,I d),(96,IK j),(97,IK 0)],(st20M h r e w o y),9⟩ .normal ⟨[(0,A0),(8,PP 4),(9,PX 5),(12,PX 6),(13,PX 7),(14,IK j)],(st20M h' r' e' w' o' y'),9⟩:=by
 have round:∀(i:Nat) (s:Bool×List At×List At×List At×List At×List At),i<j→(AllI s.2.1 300∧AllI s.2.2.1 48∧AllI s.2.2.2.1 1152∧AllI s.2.2.2.2.1 300∧AllI s.2.2.2.2.2 48)→∃s':Bool×List At×List At×List At×List At×List At,(AllI s'.2.1 300∧AllI s'.2.2.1 48∧AllI s'.2.2.2.1 1152∧AllI s'.2.2.2.2.1 300∧AllI s'.2.2.2.2.2 48)∧To Tryz.prog 147 (c1 (c1 (c2 (c2 (c2 (c2 (c2 (c1 (c1 (c2 (c1 (c1 (c2 (c1 (c2 (c2 (c2 (c2 (c2 (c2 (bodyF Tryz.prog 158))))))))))))))))))))) ((fun (i:Nat) (s:Bool×List At×List At×List At×List At×List At)=>(⟨[(0,A0),(8,PP 4),(9,PX 5),(12,PX 6),(13,PX 7),(14,IK j),(15,PX 8),(17,I d),(96,IK j),(97,IK i)],(st20M (s.1) (s.2.1) (s.2.2.1) (s.2.2.2.1) (s.2.2.2.2.1) (s.2.2.2.2.2)),9⟩:Kst)) i s) .normal ((fun (i:Nat) (s:Bool×List At×List At×List At×List At×List At)=>(⟨[(0,A0),(8,PP 4),(9,PX 5),(12,PX 6),(13,PX 7),(14,IK j),(15,PX 8),(17,I d),(96,IK j),(97,IK i)],(st20M (s.1) (s.2.1) (s.2.2.1) (s.2.2.2.1) (s.2.2.2.2.1) (s.2.2.2.2.2)),9⟩:Kst)) (i+1) s'):=by
  rintro i ⟨h,r,e,w,o,y⟩ hlt ⟨k0,k1,k2,k3,k4⟩
  obtain ⟨h',r',e',w',o',y',q0,q1,q2,q3,q4,hT⟩:=iO h r e w o y j d i k0 k1 k2 k3 k4 hj hlt
  exact ⟨(h',r',e',w',o',y'),⟨q0,q1,q2,q3,q4⟩,hT⟩
 have last:∀(s:Bool×List At×List At×List At×List At×List At),(AllI s.2.1 300∧AllI s.2.2.1 48∧AllI s.2.2.2.1 1152∧AllI s.2.2.2.2.1 300∧AllI s.2.2.2.2.2 48)→∃s':Bool×List At×List At×List At×List At×List At,(AllI s'.2.1 300∧AllI s'.2.2.1 48∧AllI s'.2.2.2.1 1152∧AllI s'.2.2.2.2.1 300∧AllI s'.2.2.2.2.2 48)∧To Tryz.prog 147 (c1 (c1 (c2 (c2 (c2 (c2 (c2 (c1 (c1 (c2 (c1 (c1 (c2 (c1 (c2 (c2 (c2 (c2 (c2 (c2 (bodyF Tryz.prog 158))))))))))))))))))))) ((fun (i:Nat) (s:Bool×List At×List At×List At×List At×List At)=>(⟨[(0,A0),(8,PP 4),(9,PX 5),(12,PX 6),(13,PX 7),(14,IK j),(15,PX 8),(17,I d),(96,IK j),(97,IK i)],(st20M (s.1) (s.2.1) (s.2.2.1) (s.2.2.2.1) (s.2.2.2.2.1) (s.2.2.2.2.2)),9⟩:Kst)) (j) s) (.exit 8) ((fun (s:Bool×List At×List At×List At×List At×List At)=>(⟨[(0,A0),(8,PP 4),(9,PX 5),(12,PX 6),(13,PX 7),(14,IK j)],(st20M (s.1) (s.2.1) (s.2.2.1) (s.2.2.2.1) (s.2.2.2.2.1) (s.2.2.2.2.2)),9⟩:Kst)) s'):=by
  rintro ⟨h,r,e,w,o,y⟩ ⟨k0,k1,k2,k3,k4⟩
  obtain ⟨h',r',e',w',o',y',q0,q1,q2,q3,q4,hT⟩:=iAe h r e w o y j d k0 k1 k2 k3 k4
  exact ⟨(h',r',e',w',o',y'),⟨q0,q1,q2,q3,q4⟩,hT⟩
 obtain ⟨⟨h',r',e',w',o',y'⟩,⟨q0,q1,q2,q3,q4⟩,hT⟩:=loop_upE (id:=8) (by kernel_rfl) (by kernel_rfl) round last (h,r,e,w,o,y) ⟨hr,he,hw,ho,hy⟩
 exact ⟨h',r',e',w',o',y',q0,q1,q2,q3,q4,hT⟩
theorem mHR (dead:Nat→Value) (h:Bool) (r e w o y:List At) (j:Nat):projS [0,8,9,12,13,14] [0,4,5,6,7] (exec Tryz.prog KA2 Zl 400 (.code (c2 (c2 (c1 (c1 (c2 (c1 (c2 (c2 (c2 (c2 (c2 (c2 (bodyF Tryz.prog 158)))))))))))))) (Kst.st ⟨[(0,A0),(8,PP 4),(9,PX 5),(12,PX 6),(13,PX 7),(14,IK j)],(st20M h r e w o y),9⟩ 147 dead []))=some (.normal,[A0,PP 4,PX 5,PX 6,PX 7,I (wr .i64 ((j:Int) - 1))],[some (flag 61 h),some ⟨56,(0,0),0,r⟩,some ⟨308,(0,0),0,e⟩,some ⟨351,(0,0),0,w⟩,some ⟨56,(0,0),0,o⟩],[]):=by kernel_rfl
theorem mO (h:Bool) (r e w o:List At) (k:Nat) (hr:AllI r 300) (he:AllI e 48) (hw:AllI w 1152) (ho:AllI o 300) (hk:k<24):∃(h':Bool) (r' e' w' o':List At),AllI r' 300∧AllI e' 48∧AllI w' 1152∧AllI o' 300∧To Tryz.prog 147 (c1 (c1 (c2 (c1 (c2 (c2 (c2 (c2 (c2 (c2 (bodyF Tryz.prog 158))))))))))) ⟨[(0,A0),(8,PP 4),(9,PX 5),(12,PX 6),(13,PX 7),(14,I (23 - (k:Int)))],(st22M h r e w o),8⟩ .normal ⟨[(0,A0),(8,PP 4),(9,PX 5),(12,PX 6),(13,PX 7),(14,I (23 - ((k+1:Nat):Int)))],(st22M h' r' e' w' o'),8⟩:=by
 have e1:(23 - (k:Int))=((23 - k:Nat):Int):=by omega
 have e2:(23 - ((k+1:Nat):Int))=wr .i64 (((23 - k:Nat):Int) - 1):=by
  show _=w64 (((23 - k:Nat):Int) - 1)
  rw [w64_in (by omega) (by omega)];omega
 rw [e1,e2]
 obtain ⟨j,hj0⟩:∃j,j=23 - k:=⟨_,rfl⟩
 rw [←hj0]
 have hj:j<24:=by omega
 clear e1 e2 hj0
 obtain ⟨h1,r1,e1,w1,o1,zr1,ze1,zw1,zo1,t1⟩:=mA h r e w o j hr he hw ho
 obtain ⟨h2,r2,e2,w2,o2,y2,zr2,ze2,zw2,zo2,zy2,t2⟩:=mB h1 r1 e1 w1 o1 j zr1 ze1 zw1 zo1
 obtain ⟨h3,r3,e3,w3,o3,y3,zr3,ze3,zw3,zo3,zy3,t3⟩:=mC h2 r2 e2 w2 o2 y2 j zr2 ze2 zw2 zo2 zy2
 obtain ⟨h4,r4,e4,w4,o4,y4,zr4,ze4,zw4,zo4,zy4,t4⟩:=mDL h3 r3 e3 w3 o3 y3 j zr3 ze3 zw3 zo3 zy3 hj
 obtain ⟨d,h5,r5,e5,w5,o5,y5,zr5,ze5,zw5,zo5,zy5,t5⟩:=mE h4 r4 e4 w4 o4 y4 j zr4 ze4 zw4 zo4 zy4 hj
 obtain ⟨h6,r6,e6,w6,o6,y6,zr6,ze6,zw6,zo6,zy6,t6⟩:=mF h5 r5 e5 w5 o5 y5 j d zr5 ze5 zw5 zo5 zy5 hj
 obtain ⟨h7,r7,e7,w7,o7,y7,zr7,ze7,zw7,zo7,zy7,t7⟩:=mG h6 r6 e6 w6 o6 y6 j d zr6 ze6 zw6 zo6 zy6
 obtain ⟨h8,r8,e8,w8,o8,y8,zr8,ze8,zw8,zo8,zy8,t8⟩:=iOL h7 r7 e7 w7 o7 y7 j d zr7 ze7 zw7 zo7 zy7 hj
 refine ⟨h8,r8,e8,w8,o8,zr8,ze8,zw8,zo8,To.lower (n:=9) (To.seq (by kernel_rfl) t1 (To.seq (by kernel_rfl) (To.block (id:=5) (by kernel_rfl) (To.seq (by kernel_rfl) t2 (To.pre (To.seq (by kernel_rfl) (To.seq (by kernel_rfl) t3 t4) (To.seq (by kernel_rfl) t5 (To.seq (by kernel_rfl) t6 (To.seq (by kernel_rfl) t7 t8)))) (kstOK_of rfl (ok4 (by omega) zr2 ze2 zw2 zo2 zy2)) (fun q hq=>by
   simp only [List.mem_cons,List.not_mem_nil,or_false] at hq
   rcases hq with rfl | rfl | rfl | rfl | rfl | rfl | rfl
   ·exact ⟨A0,by simp,fun _=>rfl⟩
   ·exact ⟨PP 4,by simp,fun _=>rfl⟩
   ·exact ⟨PX 5,by simp,fun _=>rfl⟩
   ·exact ⟨PX 6,by simp,fun _=>rfl⟩
   ·exact ⟨PX 7,by simp,fun _=>rfl⟩
   ·exact ⟨IK j,by simp,fun _=>rfl⟩
   ·exact ⟨PP 8,by simp,fun _=>rfl⟩
   ) rfl rfl)) (.inr rfl)) (To.exec (z:=Zl) soundKA2 (slots:=[0,8,9,12,13,14]) (blks:=[0,4,5,6,7]) (vs:=[A0,PP 4,PX 5,PX 6,PX 7,I (wr .i64 ((j:Int) - 1))]) (bs:=(st22B h8 r8 e8 w8 o8)) (nbB:=9) (fun dead=>mHR dead h8 r8 e8 w8 o8 y8 j) ae_nil (kstOK_of rfl (ok3 (by omega) zr8 ze8 zw8 zo8)) (Nat.le_refl _)))) (Nat.le_refl _) (kstOK_of rfl (ok3 (by omega) zr8 ze8 zw8 zo8))⟩
theorem mOL (h:Bool) (r e w o:List At) (hr:AllI r 300) (he:AllI e 48) (hw:AllI w 1152) (ho:AllI o 300):∃(h':Bool) (r' e' w' o':List At),AllI r' 300∧AllI e' 48∧AllI w' 1152∧AllI o' 300∧To Tryz.prog 147 (c2 (c1 (c2 (c2 (c2 (c2 (c2 (c2 (bodyF Tryz.prog 158))))))))) ⟨[(0,A0),(8,PP 4),(9,PX 5),(12,PX 6),(13,PX 7),(14,I (23 - (0:Int)))],(st22M h r e w o),8⟩ .normal ⟨[(0,A0),(8,PP 4),(9,PX 5),(12,PX 6),(13,PX 7)],(st22M h' r' e' w' o'),8⟩:=by
 have round:∀(k:Nat) (s:Bool×List At×List At×List At×List At),k<24→(AllI s.2.1 300∧AllI s.2.2.1 48∧AllI s.2.2.2.1 1152∧AllI s.2.2.2.2 300)→∃s':Bool×List At×List At×List At×List At,(AllI s'.2.1 300∧AllI s'.2.2.1 48∧AllI s'.2.2.2.1 1152∧AllI s'.2.2.2.2 300)∧To Tryz.prog 147 (c1 (c1 (c2 (c1 (c2 (c2 (c2 (c2 (c2 (c2 (bodyF Tryz.prog 158))))))))))) ((fun (k:Nat) (s:Bool×List At×List At×List At×List At)=>(⟨[(0,A0),(8,PP 4),(9,PX 5),(12,PX 6),(13,PX 7),(14,I (23 - (k:Int)))],(st22M (s.1) (s.2.1) (s.2.2.1) (s.2.2.2.1) (s.2.2.2.2)),8⟩:Kst)) k s) .normal ((fun (k:Nat) (s:Bool×List At×List At×List At×List At)=>(⟨[(0,A0),(8,PP 4),(9,PX 5),(12,PX 6),(13,PX 7),(14,I (23 - (k:Int)))],(st22M (s.1) (s.2.1) (s.2.2.1) (s.2.2.2.1) (s.2.2.2.2)),8⟩:Kst)) (k+1) s'):=by
  rintro k ⟨h,r,e,w,o⟩ hlt ⟨k0,k1,k2,k3⟩
  obtain ⟨h',r',e',w',o',q0,q1,q2,q3,hT⟩:=mO h r e w o k k0 k1 k2 k3 hlt
  exact ⟨(h',r',e',w',o'),⟨q0,q1,q2,q3⟩,hT⟩
 have last:∀(s:Bool×List At×List At×List At×List At),(AllI s.2.1 300∧AllI s.2.2.1 48∧AllI s.2.2.2.1 1152∧AllI s.2.2.2.2 300)→∃s':Bool×List At×List At×List At×List At,(AllI s'.2.1 300∧AllI s'.2.2.1 48∧AllI s'.2.2.2.1 1152∧AllI s'.2.2.2.2 300)∧To Tryz.prog 147 (c1 (c1 (c2 (c1 (c2 (c2 (c2 (c2 (c2 (c2 (bodyF Tryz.prog 158))))))))))) ((fun (k:Nat) (s:Bool×List At×List At×List At×List At)=>(⟨[(0,A0),(8,PP 4),(9,PX 5),(12,PX 6),(13,PX 7),(14,I (23 - (k:Int)))],(st22M (s.1) (s.2.1) (s.2.2.1) (s.2.2.2.1) (s.2.2.2.2)),8⟩:Kst)) (24) s) (.exit 4) ((fun (s:Bool×List At×List At×List At×List At)=>(⟨[(0,A0),(8,PP 4),(9,PX 5),(12,PX 6),(13,PX 7)],(st22M (s.1) (s.2.1) (s.2.2.1) (s.2.2.2.1) (s.2.2.2.2)),8⟩:Kst)) s'):=by
  rintro ⟨h,r,e,w,o⟩ ⟨k0,k1,k2,k3⟩
  obtain ⟨h',r',e',w',o',q0,q1,q2,q3,hT⟩:=mAe h r e w o k0 k1 k2 k3
  exact ⟨(h',r',e',w',o'),⟨q0,q1,q2,q3⟩,hT⟩
 obtain ⟨⟨h',r',e',w',o'⟩,⟨q0,q1,q2,q3⟩,hT⟩:=loop_upE (id:=4) (by kernel_rfl) (by kernel_rfl) round last (h,r,e,w,o) ⟨hr,he,hw,ho⟩
 exact ⟨h',r',e',w',o',q0,q1,q2,q3,hT⟩
end Go.Proofs.YtnlhpaidmiogbaaGreat

/- thornton.Step: the whole; its summary: three hundred numbers, whatever they are. -/
namespace Go.Proofs.YtnlhpaidmiogbaaGreat
open Go.Lr
set_option linter.unusedVariables false
set_option linter.unusedSimpArgs false
set_option maxRecDepth 20000
abbrev st30M (h:Bool) (x0 x1 x2 x3 x4:List At):Mem:=[(0,flag 61 h),(1,⟨56,(0,0),0,x0⟩),(2,⟨271,(0,0),0,x1⟩),(3,⟨47,(0,0),0,x2⟩),(4,⟨56,(0,0),0,x3⟩),(5,⟨308,(0,0),0,x4⟩)]
abbrev st30B (h:Bool) (x0 x1 x2 x3 x4:List At):List Blk:=[flag 61 h,⟨56,(0,0),0,x0⟩,⟨271,(0,0),0,x1⟩,⟨47,(0,0),0,x2⟩,⟨56,(0,0),0,x3⟩,⟨308,(0,0),0,x4⟩]
abbrev st31M (h:Bool) (x0 x1 x2 x3:List At):Mem:=[(0,flag 61 h),(4,⟨56,(0,0),0,x0⟩),(5,⟨308,(0,0),0,x1⟩),(6,⟨351,(0,0),0,x2⟩),(7,⟨56,(0,0),0,x3⟩)]
theorem stp0 (dead:Nat→Value) (h:Bool) (p f q:List At):projS [0,5,6,7,8,9] [0,1,2,3,4,5] (execL Tryz.prog KA2 Zl 400 (spineL 3 (bodyF Tryz.prog 158)) (Kst.st ⟨argsL 0 [A0,.v (.agg (intsAt p 0 300)),.v (.agg (intsAt f 0 576)),.v (.agg (intsAt q 0 24))],[(0,flag 61 h)],1⟩ 147 dead []))=some (.normal,[A0,PP 1,PP 2,PP 3,PP 4,PP 5],[some (flag 61 (Go.Lr.exH Tryz.prog 201 61 300 [.v (.agg (intsAt p 0 300))] h)),some ⟨56,(0,0),0,(mkI (Go.Lr.exN Tryz.prog 201 61 300 [.v (.agg (intsAt p 0 300))] h) 0 300)⟩,some ⟨271,(0,0),0,intsAt f 0 576⟩,some ⟨47,(0,0),0,intsAt q 0 24⟩,some ⟨56,(0,0),0,zc 56⟩,some ⟨308,(0,0),0,zc 308⟩],[]):=by kernel_rfl
theorem stRow (dead:Nat→Value) (h:Bool) (p f q r e:List At):projS [0,8,9,12] [0,4,5,6] (exec Tryz.prog KA2 Zl 400 (.code (c1 (c2 (c2 (c2 (c2 (bodyF Tryz.prog 158))))))) (Kst.st ⟨[(0,A0),(5,PX 1),(6,PP 2),(8,PP 4),(9,PX 5)],(st30M h p (intsAt f 0 576) q r e),6⟩ 147 dead []))=some (.normal,[A0,PP 4,PX 5,PP 6],[some (flag 61 (rowQ (intsAt p 0 300) (intsAt f 0 576) h).2.2),some ⟨56,(0,0),0,r⟩,some ⟨308,(0,0),0,e⟩,some ⟨351,(0,0),0,mkI (intAt (rowQ (intsAt p 0 300) (intsAt f 0 576) h).2.1) 0 1152⟩],[(areInts p 0 300&&decide (300≠0),true)]):=by kernel_rfl
theorem stRowTo (h:Bool) (p f q r e:List At) (hp:AllI p 300) (hf:AllI f 576) (hq:AllI q 24) (hr:AllI r 300) (he:AllI e 48):∃(h':Bool) (w':List At),AllI w' 1152∧To Tryz.prog 147 (c1 (c2 (c2 (c2 (c2 (bodyF Tryz.prog 158)))))) ⟨[(0,A0),(5,PX 1),(6,PP 2),(8,PP 4),(9,PX 5)],(st30M h p f q r e),6⟩ .normal ⟨[(0,A0),(8,PP 4),(9,PX 5),(12,PP 6)],[(0,flag 61 h'),(4,⟨56,(0,0),0,r⟩),(5,⟨308,(0,0),0,e⟩),(6,⟨351,(0,0),0,w'⟩)],7⟩:=by
 have hif:=AllI.ints f 0 576
 have hwq:AllI (mkI (intAt (rowQ (intsAt p 0 300) (intsAt f 0 576) h).2.1) 0 1152) 1152:=AllI.mkF _ _ _
 refine ⟨(rowQ (intsAt p 0 300) (intsAt f 0 576) h).2.2,mkI (intAt (rowQ (intsAt p 0 300) (intsAt f 0 576) h).2.1) 0 1152,hwq, ?_⟩
 have key:To Tryz.prog 147 (c1 (c2 (c2 (c2 (c2 (bodyF Tryz.prog 158)))))) ⟨[(0,A0),(5,PX 1),(6,PP 2),(8,PP 4),(9,PX 5)],(st30M h p (intsAt f 0 576) q r e),6⟩ .normal ⟨[(0,A0),(8,PP 4),(9,PX 5),(12,PP 6)],[(0,flag 61 (rowQ (intsAt p 0 300) (intsAt f 0 576) h).2.2),(4,⟨56,(0,0),0,r⟩),(5,⟨308,(0,0),0,e⟩),(6,⟨351,(0,0),0,mkI (intAt (rowQ (intsAt p 0 300) (intsAt f 0 576) h).2.1) 0 1152⟩)],7⟩:=
  To.exec (z:=Zl) soundKA2 (slots:=[0,8,9,12]) (blks:=[0,4,5,6]) (vs:=[A0,PP 4,PX 5,PP 6]) (bs:=[flag 61 (rowQ (intsAt p 0 300) (intsAt f 0 576) h).2.2,⟨56,(0,0),0,r⟩,⟨308,(0,0),0,e⟩,⟨351,(0,0),0,mkI (intAt (rowQ (intsAt p 0 300) (intsAt f 0 576) h).2.1) 0 1152⟩]) (nbB:=7) (fun dead=>stRow dead h p f q r e) (ae_cons (by rw [hp.areI 300 0 (Nat.le_refl _)];rfl) ae_nil) (kstOK_of rfl (memOKc (by omega) rfl rfl (memOKc (by omega) (hr.okb _) rfl (memOKc (by omega) (he.okb _) rfl (memOKc (by omega) (hwq.okb _) rfl memOK0))))) (Nat.le_of_ble_eq_true rfl)
 have eo:intsAt f 0 576=f:=hf.eq.symm
 generalize rowQ (intsAt p 0 300) (intsAt f 0 576) h=qq at key hwq ⊢
 rw [eo] at key
 exact key
theorem stZ (dead:Nat→Value) (h:Bool) (r e w o:List At):projS [8] [0,4] (exec Tryz.prog KA2 Zl 400 (.code (c2 (c2 (c2 (c2 (c2 (c2 (c2 (bodyF Tryz.prog 158))))))))) (Kst.st ⟨[(0,A0),(8,PP 4),(9,PX 5),(12,PX 6),(13,PX 7)],(st31M h (intsAt r 0 300) e w o),8⟩ 147 dead []))=some (.ret,[PP 4],[some (flag 61 h),some ⟨56,(0,0),0,intsAt o 0 300⟩],[(areInts o 0 300&&decide (300≠0),true)]):=by kernel_rfl
theorem stZTo (h:Bool) (r e w o:List At) (hr:AllI r 300) (he:AllI e 48) (hw:AllI w 1152) (ho:AllI o 300):To Tryz.prog 147 (c2 (c2 (c2 (c2 (c2 (c2 (c2 (bodyF Tryz.prog 158)))))))) ⟨[(0,A0),(8,PP 4),(9,PX 5),(12,PX 6),(13,PX 7)],(st31M h r e w o),8⟩ .ret ⟨[(8,PP 4)],[(0,flag 61 h),(4,⟨56,(0,0),0,intsAt o 0 300⟩)],8⟩:=by
 have hir:=AllI.ints r 0 300
 have key:To Tryz.prog 147 (c2 (c2 (c2 (c2 (c2 (c2 (c2 (bodyF Tryz.prog 158)))))))) ⟨[(0,A0),(8,PP 4),(9,PX 5),(12,PX 6),(13,PX 7)],(st31M h (intsAt r 0 300) e w o),8⟩ .ret ⟨[(8,PP 4)],[(0,flag 61 h),(4,⟨56,(0,0),0,intsAt o 0 300⟩)],8⟩:=
  To.exec (z:=Zl) soundKA2 (slots:=[8]) (blks:=[0,4]) (vs:=[PP 4]) (bs:=[flag 61 h,⟨56,(0,0),0,intsAt o 0 300⟩]) (nbB:=8) (fun dead=>stZ dead h r e w o) (ae_cons (by rw [ho.areI 300 0 (Nat.le_refl _)];rfl) ae_nil) (kstOK_of rfl (memOKc (by omega) rfl rfl (memOKc (by omega) ((AllI.ints o 0 300).okb _) rfl memOK0))) (Nat.le_refl _)
 have eo:intsAt r 0 300=r:=hr.eq.symm
 rw [eo] at key
 exact key
theorem stTo (h:Bool) (p f q:List At) (hp:AllI p 300) (hf:AllI f 576) (hq:AllI q 24):∃l h',AllI l 300∧ExA Tryz.prog 158 61 [.v (.agg p),.v (.agg f),.v (.agg q)] h (.v (.agg l)) h':=by
 rw [hp.eq,hf.eq,hq.eq]
 have zp0:AllI (mkI (Go.Lr.exN Tryz.prog 201 61 300 [.v (.agg (intsAt p 0 300))] h) 0 300) 300:=AllI.mkF _ _ _
 have zf0:=AllI.ints f 0 576
 have zq0:=AllI.ints q 0 24
 obtain ⟨h1,p1,f1,q1,r1,e1,zp1,zf1,zq1,zr1,ze1,t1⟩:=sI (Go.Lr.exH Tryz.prog 201 61 300 [.v (.agg (intsAt p 0 300))] h) (mkI (Go.Lr.exN Tryz.prog 201 61 300 [.v (.agg (intsAt p 0 300))] h) 0 300) (intsAt f 0 576) (intsAt q 0 24) (zc 56) (zc 308) zp0 zf0 zq0 zcCov zc48I
 obtain ⟨h2,p2,f2,q2,r2,e2,zp2,zf2,zq2,zr2,ze2,t2⟩:=sOL h1 p1 f1 q1 r1 e1 zp1 zf1 zq1 zr1 ze1
 obtain ⟨h3,w3,zw3,t3⟩:=stRowTo h2 p2 f2 q2 r2 e2 zp2 zf2 zq2 zr2 ze2
 obtain ⟨h4,r4,e4,w4,o4,zr4,ze4,zw4,zo4,t4⟩:=mN h3 r2 e2 w3 zr2 ze2 zw3
 obtain ⟨h5,r5,e5,w5,o5,zr5,ze5,zw5,zo5,t5⟩:=mI h4 r4 e4 w4 o4 zr4 ze4 zw4 zo4
 obtain ⟨h6,r6,e6,w6,o6,zr6,ze6,zw6,zo6,t6⟩:=mOL h5 r5 e5 w5 o5 zr5 ze5 zw5 zo5
 have t7:=stZTo h6 r6 e6 w6 o6 zr6 ze6 zw6 zo6
 refine ⟨intsAt o6 0 300,h6,AllI.ints _ _ _,acc_of_To (B:=⟨[(8,PP 4)],[(0,flag 61 h6),(4,⟨56,(0,0),0,intsAt o6 0 300⟩)],8⟩) (e:= .ret) (c:=bodyF Tryz.prog 158) Tryz.func158 (by kernel_rfl) (Nat.le_of_ble_eq_true (by kernel_rfl)) (Nat.le_of_ble_eq_true (by kernel_rfl)) (plainVs_iff.2 fun v hv=> ?_) ?_ (.inr rfl) (fun dead=>by kernel_rfl) ((AllI.ints o6 0 300).ok) rfl⟩
 ·simp only [List.mem_cons,List.not_mem_nil,or_false] at hv
  rcases hv with rfl | rfl | rfl
  ·exact (AllI.ints p 0 300).ok
  ·exact zf0.ok
  ·exact zq0.ok
 ·refine To.spine (z:=Zl) soundKA2 (k:=3) (slots:=[0,5,6,7,8,9]) (blks:=[0,1,2,3,4,5]) (vs:=[A0,PP 1,PP 2,PP 3,PP 4,PP 5]) (bs:=(st30B (Go.Lr.exH Tryz.prog 201 61 300 [.v (.agg (intsAt p 0 300))] h) (mkI (Go.Lr.exN Tryz.prog 201 61 300 [.v (.agg (intsAt p 0 300))] h) 0 300) (intsAt f 0 576) (intsAt q 0 24) (zc 56) (zc 308))) (nbB:=6) (by kernel_rfl) (fun dead=>stp0 dead h p f q) ae_nil (kstOK_of rfl (ok1 (by omega) zp0 zf0 zq0 zcCov zc48I)) (Nat.le_of_ble_eq_true rfl) ?_
  refine To.pre (To.seq (by kernel_rfl) (To.seq (by kernel_rfl) t1 t2) (To.seq (by kernel_rfl) (To.pre t3 (kstOK_of rfl (ok1 (by omega) zp2 zf2 zq2 zr2 ze2)) (fun q hq=>by
   simp only [List.mem_cons,List.not_mem_nil,or_false] at hq
   rcases hq with rfl | rfl | rfl | rfl | rfl
   ·exact ⟨A0,by simp,fun _=>rfl⟩
   ·exact ⟨PX 1,by simp,fun _=>rfl⟩
   ·exact ⟨PX 2,by simp,fun _=>rfl⟩
   ·exact ⟨PP 4,by simp,fun _=>rfl⟩
   ·exact ⟨PX 5,by simp,fun _=>rfl⟩
   ) rfl rfl) (To.seq (by kernel_rfl) (To.pre t4 (kstOK_of rfl (memOKc (by omega) rfl rfl (memOKc (by omega) (zr2.okb _) rfl (memOKc (by omega) (ze2.okb _) rfl (memOKc (by omega) (zw3.okb _) rfl memOK0))))) (fun q hq=>by
   simp only [List.mem_cons,List.not_mem_nil,or_false] at hq
   rcases hq with rfl | rfl | rfl | rfl
   ·exact ⟨A0,by simp,fun _=>rfl⟩
   ·exact ⟨PP 4,by simp,fun _=>rfl⟩
   ·exact ⟨PX 5,by simp,fun _=>rfl⟩
   ·exact ⟨PP 6,by simp,fun _=>rfl⟩
   ) rfl rfl) (To.seq (by kernel_rfl) (To.pre (To.seq (by kernel_rfl) t5 t6) (kstOK_of rfl (ok3 (by omega) zr4 ze4 zw4 zo4)) (fun q hq=>by
   simp only [List.mem_cons,List.not_mem_nil,or_false] at hq
   rcases hq with rfl | rfl | rfl | rfl | rfl
   ·exact ⟨A0,by simp,fun _=>rfl⟩
   ·exact ⟨PP 4,by simp,fun _=>rfl⟩
   ·exact ⟨PX 5,by simp,fun _=>rfl⟩
   ·exact ⟨PX 6,by simp,fun _=>rfl⟩
   ·exact ⟨PP 7,by simp,fun _=>rfl⟩
   ) rfl rfl) t7)))) (kstOK_of rfl (ok1 (by omega) zp0 zf0 zq0 zcCov zc48I)) (fun q hq=>by
   simp only [List.mem_cons,List.not_mem_nil,or_false] at hq
   rcases hq with rfl | rfl | rfl | rfl | rfl | rfl
   ·exact ⟨A0,by simp,fun _=>rfl⟩
   ·exact ⟨PP 1,by simp,fun _=>rfl⟩
   ·exact ⟨PP 2,by simp,fun _=>rfl⟩
   ·exact ⟨PP 3,by simp,fun _=>rfl⟩
   ·exact ⟨PP 4,by simp,fun _=>rfl⟩
   ·exact ⟨PP 5,by simp,fun _=>rfl⟩
   ) rfl rfl
noncomputable def thS:List LV→Bool→Option (LV×Bool×List (Bool×Bool)):=exF Tryz.prog 158 61 (fun args=>match args with | [.v (.agg p),.v (.agg f),.v (.agg q)]=>allIB p 300&&allIB f 576&&allIB q 24 | _=>false) 300
theorem sumTh:SumOK Tryz.prog 158 (accSum 61 thS):=by
 refine exF_ok (own_of soundKA2 Tryz.func158 (by kernel_rfl)) fun args hb hok _=> ?_
 split at hok
 ·simp only [Bool.and_eq_true] at hok
  exact stTo hb _ _ _ (allIB_ok hok.1.1) (allIB_ok hok.1.2) (allIB_ok hok.2)
 ·cases hok
end Go.Proofs.YtnlhpaidmiogbaaGreat

/- still: its summary at closed lengths. -/
namespace Go.Proofs.YtnlhpaidmiogbaaGreat
open Go.Lr
set_option linter.unusedVariables false
noncomputable def KR0:FuncId→Option SumK:=S47
theorem soundKR0:Sound Tryz.prog KR0:=sound47
noncomputable def KR1:FuncId→Option SumK:=more KR0 146 (autoP Tryz.prog KR0 Zl 9000 146)
theorem soundKR1:Sound Tryz.prog KR1:=soundKR0.more (autoP_ok soundKR0 (own_of soundKR0 Tryz.func146 (by kernel_rfl)))
noncomputable def KR2:FuncId→Option SumK:=more KR1 145 (autoP Tryz.prog KR1 Zl 9000 145)
theorem soundKR2:Sound Tryz.prog KR2:=soundKR1.more (autoP_ok soundKR1 (own_of soundKR1 Tryz.func145 (by kernel_rfl)))
noncomputable def KR3:FuncId→Option SumK:=more KR2 141 (accSum 114 (autoF Tryz.prog KR2 Zl 9000 141 114))
theorem soundKR3:Sound Tryz.prog KR3:=soundKR2.more (autoF_ok soundKR2 (own_of soundKR2 Tryz.func141 (by kernel_rfl)))
noncomputable def KR4:FuncId→Option SumK:=more KR3 45 (accSum 114 (autoF Tryz.prog KR3 Zl 9000 45 114))
theorem soundKR4:Sound Tryz.prog KR4:=soundKR3.more (autoF_ok soundKR3 (own_of soundKR3 Tryz.func45 (by kernel_rfl)))
noncomputable def KR5:FuncId→Option SumK:=more KR4 44 (accSum 114 (autoF Tryz.prog KR4 Zl 9000 44 114))
theorem soundKR5:Sound Tryz.prog KR5:=soundKR4.more (autoF_ok soundKR4 (own_of soundKR4 Tryz.func44 (by kernel_rfl)))
theorem stillR (t:Int):ansB (runF Tryz.prog KR5 Zl 9000 19 [I t,I 8000] [] 0 [])=some (.v (.agg [.int .i64 t,.int .i64 8000,.int .i64 0,.int .i64 0,.int .i64 0,.int .i64 0,.int .i64 0,.int .i64 (-84238486)]),true):=by kernel_rfl
def stillS:List LV→Option (LV×List (Bool×Bool))
 | [.v (.one (.int .i64 t)),.v (.one (.int .i64 us))]=>some (.v (.agg [.int .i64 t,.int .i64 8000,.int .i64 0,.int .i64 0,.int .i64 0,.int .i64 0,.int .i64 0,.int .i64 (-84238486)]),[(decide (us=8000),true)])
 | _=>none
theorem sumStill:SumOK Tryz.prog 19 (pureSum stillS):=by
 refine pureSum_run (z:=Zl) soundKR5 (own_of soundKR5 Tryz.func19 (by kernel_rfl)) fun args v cs hF hc=> ?_
 unfold stillS at hF
 split at hF
 ·rename_i t us
  cases hF
  have hu:us=8000:=of_decide_eq_true (hd_of hc)
  subst hu
  obtain ⟨cs',h1,h2⟩:=ansB_ok (stillR t)
  exact ⟨9000,[],cs',h1,h2⟩
 ·cases hF
end Go.Proofs.YtnlhpaidmiogbaaGreat

/- A function that is handed a flag that lies in a greater block: what it is told of is the flag alone. -/
set_option linter.unusedVariables false
namespace Go.Lr
open Go.RowKit
def ptrAt:Nat→List LV→Option (Nat×Nat)
 | 0,.v (.one (.ptr c o))::_=>some (c,o)
 | n+1,_::l=>ptrAt n l
 | _,_=>none
def setAt:Nat→List LV→LV→List LV
 | 0,_::l,v=>v::l
 | n+1,a::l,v=>a::setAt n l v
 | _,[],_=>[]
def restOf:Nat→List LV→List LV
 | 0,_::l=>l
 | n+1,a::l=>a::restOf n l
 | _,[]=>[]
def lookB:List Nat→List Blk→Nat→Option Blk
 | i::l,k::ks,j=>match Nat.beq i j with
  | true=>some k
  | false=>lookB l ks j
 | _,_,_=>none
def narM (c:Nat) (f:Blk) (seen:List Nat) (ks:List Blk) (i:Nat):Option Blk:=
 match Nat.beq i c with
 | true=>some f
 | false=>lookB seen ks i
def okNC (c i:Nat):Bool:=match Nat.beq i c with
 | true=>false
 | false=>true
def dropK (c:Nat):List (Nat×Option Blk)→List (Nat×Option Blk)
 | []=>[]
 | (i,s)::l=>match Nat.beq i c with
  | true=>dropK c l
  | false=>(i,s)::dropK c l
def flagOf (ty:TypeId) (c:Nat) (h:Bool):List (Nat×Option Blk)→Option Bool
 | []=>some h
 | (i,s)::l=>match Nat.beq i c with
  | true=>match s with
   | some ⟨t,(0,0),0,[.bool h']⟩=>match Nat.beq t ty with
    | true=>some h'
    | false=>none
   | _=>none
  | false=>flagOf ty c h l
def narG (j:Nat) (ty:TypeId) (s:List LV→List Nat→List Blk→Nat→Option Dl):List LV→List Nat→List Blk→Nat→Option Dl:=fun args seen ks nb=>
 match ptrAt j args with
 | some (c,o)=>match lookB seen ks c with
  | some ⟨tt,(0,0),es,l⟩=>match atL l o with
   | some (.bool h)=>match okArgs (okNC c) (restOf j args),reach (narM c ⟨ty,(0,0),0,[.bool h]⟩ seen ks) 20000 (refsLVs (setAt j args (.v (.one (.ptr c 0))))) [] with
    | true,some seen'=>match liveAll (narM c ⟨ty,(0,0),0,[.bool h]⟩ seen ks) seen' with
     | some ks'=>match okBs (okNC c) ks',s (setAt j args (.v (.one (.ptr c 0)))) seen' ks' nb with
      | true,some d=>match d.val.ok (okNC c),okBs (okNC c) d.nw,okWs (okNC c) d.wr,flagOf ty c h d.wr with
       | true,true,true,some h'=>match nodupB (wkeys d.wr),allIn (wkeys d.wr) seen' with
        | true,true=>some ⟨d.val,(c,some ⟨tt,(0,0),es,l.set o (.bool h')⟩)::dropK c d.wr,d.nw,d.rd,d.cs⟩
        | _,_=>none
       | _,_,_,_=>none
      | _,_=>none
     | none=>none
    | _,_=>none
   | _=>none
  | _=>none
 | none=>none
theorem okNC_iff {c i:Nat}:okNC c i=true↔i≠c:=by
 unfold okNC
 rw [nbeq]
 by_cases h:i=c
 ·simp [h]
 ·simp [h]
theorem lookB_live {g:Nat→Option Blk}:∀{seen:List Nat} {ks:List Blk} {i:Nat} {b:Blk},liveAll g seen=some ks→lookB seen ks i=some b→g i=some b
 | [],ks,i,b,_,h=>by simp [lookB] at h
 | a::l,ks,i,b,hl,h=>by
  obtain ⟨k,r,h1,h2,rfl⟩:=liveAll_cons hl
  simp only [lookB,nbeq] at h
  by_cases e:a=i
  ·subst e
   simp only [decide_true] at h
   cases h
   exact h1
  ·simp only [e,decide_false] at h
   exact lookB_live h2 h
open Classical in
noncomputable def gX (g:Nat→Option Blk) (c:Nat) (k:Blk):Nat→Option Blk:=fun i=>if i=c then some k else match g i with
 | some b=>if okL (okNC c) b.cells=true then some b else none
 | none=>none
theorem gX_get {g:Nat→Option Blk} {c i:Nat} {k b:Blk} (h:gX g c k i=some b) (hi:i≠c):g i=some b∧okL (okNC c) b.cells=true:=by
 unfold gX at h
 rw [if_neg hi] at h
 split at h
 ·rename_i b' hb
  split at h
  ·rename_i ho;cases h;exact ⟨hb,ho⟩
  ·cases h
 ·cases h
theorem gX_of {g:Nat→Option Blk} {c i:Nat} {k b:Blk} (h:g i=some b) (ho:okL (okNC c) b.cells=true) (hi:i≠c):gX g c k i=some b:=by
 unfold gX
 rw [if_neg hi,h]
 simp only [ho,if_true]
theorem gX_no {g:Nat→Option Blk} {c i:Nat} {k b:Blk} (h:g i=some b) (ho:¬okL (okNC c) b.cells=true) (hi:i≠c):gX g c k i=none:=by
 unfold gX
 rw [if_neg hi,h]
 show (if okL (okNC c) b.cells=true then some b else none)=none
 rw [if_neg ho]
theorem gX_c {g:Nat→Option Blk} {c:Nat} {k:Blk}:gX g c k c=some k:=by unfold gX;rw [if_pos rfl]
theorem gX_some {g:Nat→Option Blk} {c i:Nat} {k kc:Blk} (hc:g c=some kc) (h:(gX g c k i).isSome):(g i).isSome:=by
 by_cases hi:i=c
 ·rw [hi,hc];rfl
 ·obtain ⟨b,hb⟩:=Option.isSome_iff_exists.1 h
  rw [(gX_get hb hi).1];rfl
theorem blkAt_cong {p:Nat→Bool} {E E':Env} {i:Nat} {b:Blk} {w:World} (h:∀q,p q=true→E' q=E q) (hb:okL p b.cells=true) (he:E' i=E i) (k:blkAt E i b w):blkAt E' i b w:=by
 obtain ⟨r,h1,h2,h3⟩:=k
 refine ⟨r, ?_,h2,fun hne=>by rw [he];exact h3 hne⟩
 rw [he,h1,denL_congr (E:=E) (E':=E') h hb]
theorem dropK_wr {g:Nat→Option Blk} {c k:Nat} (hk:k≠c):∀(l:List (Nat×Option Blk)) (g:Nat→Option Blk),wrG g (dropK c l) k=wrG g l k
 | [],g=>rfl
 | (i,s)::l,g=>by
  simp only [dropK,nbeq]
  by_cases h:i=c
  ·simp only [h,decide_true]
   rw [dropK_wr (g:=g) hk l g]
   simp only [wrG]
   exact wrG_congr l k (.inr (by rw [if_neg hk]))
  ·simp only [h,decide_false,wrG]
   exact dropK_wr (g:=g) hk l _
theorem dropK_mem {c:Nat}:∀{l:List (Nat×Option Blk)} {x:Nat×Option Blk},x∈dropK c l→x∈l∧x.1≠c
 | [],x,h=>by simp [dropK] at h
 | (i,s)::l,x,h=>by
  simp only [dropK,nbeq] at h
  by_cases e:i=c
  ·simp only [e,decide_true] at h
   obtain ⟨h1,h2⟩:=dropK_mem h
   exact ⟨List.mem_cons_of_mem _ h1,h2⟩
  ·simp only [e,decide_false] at h
   rcases List.mem_cons.1 h with rfl | h
   ·exact ⟨List.mem_cons_self ..,e⟩
   ·obtain ⟨h1,h2⟩:=dropK_mem h
    exact ⟨List.mem_cons_of_mem _ h1,h2⟩
theorem flagOf_wr {ty:TypeId} {c:Nat} {h h':Bool}:∀{l:List (Nat×Option Blk)} {g:Nat→Option Blk},flagOf ty c h l=some h'→(l.map (·.1)).Nodup→g c=some ⟨ty,(0,0),0,[.bool h]⟩→wrG g l c=some ⟨ty,(0,0),0,[.bool h']⟩
 | [],g,hf,_,hg=>by
  simp only [flagOf,Option.some.injEq] at hf
  subst hf
  exact hg
 | (i,s)::l,g,hf,hn,hg=>by
  simp only [List.map_cons,List.nodup_cons] at hn
  simp only [flagOf,nbeq] at hf
  by_cases e:i=c
  ·subst e
   simp only [decide_true] at hf
   split at hf
   ·rename_i t h2
    split at hf
    ·rename_i ht
     cases hf
     have:t=ty:=of_decide_eq_true ht
     subst this
     simp only [wrG]
     rw [wrG_none l i fun x hx e=>hn.1 (by rw [←e];exact List.mem_map_of_mem hx),if_pos rfl]
    ·cases hf
   ·cases hf
  ·simp only [e,decide_false] at hf
   simp only [wrG]
   exact flagOf_wr hf hn.2 (by rw [if_neg (Ne.symm e)];exact hg)
theorem setAt_den {c o:Nat} {E E':Env} (h:∀i,okNC c i=true→E' i=E i) (he:(LV.v (.one (.ptr c 0))).den E'=(LV.v (.one (.ptr c o))).den E):
  ∀{j:Nat} {args:List LV},ptrAt j args=some (c,o)→okArgs (okNC c) (restOf j args)=true→(setAt j args (.v (.one (.ptr c 0)))).map (LV.den E')=args.map (LV.den E)
 | 0,[],hp,_=>by simp [ptrAt] at hp
 | 0,a::l,hp,hr=>by
  unfold ptrAt at hp
  split at hp
  ·rename_i heq
   cases heq
   cases hp
   simp only [restOf] at hr
   simp only [setAt,List.map_cons,he]
   congr 1
   exact List.map_congr_left fun u hu=>LV.den_congr h (okArgs_iff hr u hu)
  ·rename_i heq _;cases heq
  ·cases hp
 | j+1,[],hp,_=>by simp [ptrAt] at hp
 | j+1,a::l,hp,hr=>by
  simp only [ptrAt] at hp
  simp only [restOf,okArgs] at hr
  split at hr
  ·rename_i ha
   simp only [setAt,List.map_cons]
   rw [setAt_den h he hp hr,LV.den_congr h ha]
  ·cases hr
theorem setAt_mem {c o:Nat}:∀{j:Nat} {args:List LV} {u:LV},ptrAt j args=some (c,o)→u∈setAt j args (.v (.one (.ptr c 0)))→u∈args∨u = .v (.one (.ptr c 0))∧(.v (.one (.ptr c o)):LV)∈args
 | 0,[],u,hp,_=>by simp [ptrAt] at hp
 | 0,a::l,u,hp,hu=>by
  unfold ptrAt at hp
  split at hp
  ·rename_i heq
   cases heq
   cases hp
   simp only [setAt,List.mem_cons] at hu
   rcases hu with rfl | hu
   ·exact .inr ⟨rfl,List.mem_cons_self ..⟩
   ·exact .inl (List.mem_cons_of_mem _ hu)
  ·rename_i heq _;cases heq
  ·cases hp
 | j+1,[],u,hp,_=>by simp [ptrAt] at hp
 | j+1,a::l,u,hp,hu=>by
  simp only [ptrAt] at hp
  simp only [setAt,List.mem_cons] at hu
  rcases hu with rfl | hu
  ·exact .inl (List.mem_cons_self ..)
  ·rcases setAt_mem hp hu with h | ⟨h1,h2⟩
   ·exact .inl (List.mem_cons_of_mem _ h)
   ·exact .inr ⟨h1,List.mem_cons_of_mem _ h2⟩
theorem narG_ok {P:Program} {f:FuncId} {j:Nat} {ty:TypeId} {s:List LV→List Nat→List Blk→Nat→Option Dl} (hS:GenOK P f s):GenOK P f (narG j ty s):=by
 intro args seen ks g nb p d E w hl hd hnd hcs hrel hg hargs hn
 unfold narG at hd
 split at hd
 ·rename_i c o hptr
  split at hd
  ·rename_i tt es l hlook
   split at hd
   ·rename_i h hat
    split at hd
    ·rename_i seen' hrest hreach
     split at hd
     ·rename_i ks' hks'
      split at hd
      ·rename_i d0 hokb hs0
       split at hd
       ·rename_i h' hval hnw hwr hfl
        split at hd
        ·rename_i hnd0 hin0
         cases hd
         have hnd0:=nodupB_iff.1 hnd0
         have hin0:=allIn_sub hin0
         rw [wkeys_eq] at hnd0 hin0
         have hkc:g c=some ⟨tt,(0,0),es,l⟩:=lookB_live hl hlook
         obtain ⟨r,g1,g2,g3⟩:=hrel.blk c _ hkc
         have hlt:o<l.length:=atL_lt hat
         generalize hL:cellLoc (E c) E tt l r o=L
         have hLb:L.blk=(E c).blk:=by rw [←hL];rfl
         have hEb:∀i,(eW E c L i).1=(E i).1:=fun i=>by rw [←hL];exact eW_blk
         have hEi:∀i,i≠c→eW E c L i=E i:=fun i hi=>by unfold eW;rw [if_neg hi]
         have hEc:eW E c L c=L:=by unfold eW;rw [if_pos rfl]
         have hEn:∀i,okNC c i=true→eW E c L i=E i:=fun i hi=>hEi i (okNC_iff.1 hi)
         have hrelW:Rel (eW E c L) (gX g c (flag ty h)) w:=by
          refine ⟨fun i b hb=> ?_,fun i j hi hj he=>hrel.inj i j (gX_some hkc hi) (gX_some hkc hj) (by rw [←hEb i,←hEb j];exact he)⟩
          by_cases hi:i=c
          ·subst hi
           rw [gX_c] at hb
           cases hb
           refine ⟨[], ?_,fun _=>rfl,fun hne=>absurd rfl hne⟩
           rw [hEc]
           have e:=cellLoc_eq (L:=E i) (E:=E) (t:=tt) (l:=l) (r:=r) (o:=o) ty (h:=h) hlt
           rw [set_same hat,hL] at e
           show w.heap[L.blk]? = some (flagW L ty h)
           rw [e,hLb];exact g1
          ·obtain ⟨q1,q2⟩:=gX_get hb hi
           exact blkAt_cong hEn q2 (hEi i hi) (hrel.blk i b q1)
         have hargs':(setAt j args (.v (.one (.ptr c 0)))).map (LV.den (eW E c L))=args.map (LV.den E):=by
          refine setAt_den hEn ?_ hptr hrest
          show Value.pointer (some ⟨(eW E c L c).1,0+(eW E c L c).pre.length,none⟩)=Value.pointer (some ⟨(E c).1,o+(E c).pre.length,none⟩)
          have e:(eW E c L c).pre.length=o+(E c).pre.length:=by
           rw [hEc,←hL];unfold cellLoc;simp;omega
          rw [e,hEb,Nat.zero_add]
         have hnarX:∀i b,okL (okNC c) b.cells=true→narM c ⟨ty,(0,0),0,[.bool h]⟩ seen ks i=some b→gX g c (flag ty h) i=some b:=by
          intro i b hb hi
          unfold narM at hi
          rw [nbeq] at hi
          by_cases e:i=c
          ·subst e
           simp only [decide_true] at hi
           cases hi
           exact gX_c
          ·simp only [e,decide_false] at hi
           exact gX_of (lookB_live hl hi) hb e
         have hliveX:liveAll (gX g c (flag ty h)) seen'=some ks':=liveAll_congr hks' fun i b _ hb hi=>hnarX i b (okBs_iff.1 hokb b hb) hi
         have hpc:p c=true:=(hg c _ hkc).1
         have hnc:c<nb∨nb+d0.nw.length≤c:=by
          by_cases e:c<nb
          ·exact .inl e
          ·by_cases e2:nb+d0.nw.length≤c
           ·exact .inr e2
           ·have:=hn c (by omega) (by show c<nb+d0.nw.length;omega)
            rw [hpc] at this;cases this
         have main:=hS _ seen' ks' (gX g c (flag ty h)) nb p d0 (eW E c L) w hliveX hs0 (by rw [wkeys_eq];exact hnd0) hcs hrelW
          (fun i b hb=>by
           by_cases hi:i=c
           ·subst hi;rw [gX_c] at hb;cases hb;exact ⟨hpc,rfl⟩
           ·exact hg i b (gX_get hb hi).1)
          (fun u hu=>by
           rcases setAt_mem hptr hu with hu2 | ⟨e2,hu2⟩
           ·exact hargs u hu2
           ·rw [e2];exact hpc) hn
         have hkeyX:∀i,i∈d0.wr.map (·.1)→(gX g c (flag ty h) i).isSome:=fun i hi=>liveAll_some hliveX i (hin0 i hi)
         have conv:∀(E':Env) (w':World),Post w (eW E c L) (gX g c (flag ty h)) nb ⟨d0.val,d0.wr,d0.nw,[],[]⟩ E' w'→
           (d0.val.den E'=d0.val.den fun i=>if i=c then E c else E' i)∧
           Post w E g nb ⟨d0.val,(c,some ⟨tt,(0,0),es,l.set o (.bool h')⟩)::dropK c d0.wr,d0.nw,[],[]⟩ (fun i=>if i=c then E c else E' i) w':=by
          intro E' w' hp
          have hEc':E' c=L:=by rw [hp.agree c hnc,hEc]
          have hN:∀i,okNC c i=true→(fun i=>if i=c then E c else E' i) i=E' i:=fun i hi=>if_neg (okNC_iff.1 hi)
          have hN1:∀i,((fun i=>if i=c then E c else E' i) i).1=(E' i).1:=by
           intro i
           by_cases hi:i=c
           ·subst hi
            show (if i=i then E i else E' i).1=_
            rw [if_pos rfl,hEc',hLb]
           ·show (if i=c then E c else E' i).1=_
            rw [if_neg hi]
          have hold:∀i,i<nb∨nb+d0.nw.length≤i→(fun i=>if i=c then E c else E' i) i=E i:=by
           intro i hi
           by_cases hic:i=c
           ·subst hic;exact if_pos rfl
           ·show (if i=c then E c else E' i)=_
            rw [if_neg hic,hp.agree i hi,hEi i hic]
          have hpo:∀q,p q=true→(fun i=>if i=c then E c else E' i) q=E q:=by
           intro q hq
           refine hold q ?_
           by_cases e:q<nb
           ·exact .inl e
           ·by_cases e2:nb+d0.nw.length≤q
            ·exact .inr e2
            ·have:=hn q (by omega) (by show q<nb+d0.nw.length;omega)
             rw [hq] at this;cases this
          have hwc:wrG g ((c,some ⟨tt,(0,0),es,l.set o (.bool h')⟩)::dropK c d0.wr) c=some ⟨tt,(0,0),es,l.set o (.bool h')⟩:=by
           simp only [wrG]
           rw [wrG_none _ c fun x hx=>(dropK_mem hx).2,if_pos rfl]
          have hwi:∀i,i≠c→i∈d0.wr.map (·.1)→wrG g ((c,some ⟨tt,(0,0),es,l.set o (.bool h')⟩)::dropK c d0.wr) i=wrG (gX g c (flag ty h)) d0.wr i:=by
           intro i hi hm
           simp only [wrG]
           rw [dropK_wr (g:=g) hi]
           exact wrG_congr d0.wr i (.inl hm)
          have hwo:∀i,i≠c→i ∉ d0.wr.map (·.1)→wrG g ((c,some ⟨tt,(0,0),es,l.set o (.bool h')⟩)::dropK c d0.wr) i=g i:=by
           intro i hi hm
           rw [wrG_none]
           intro x hx e
           rcases List.mem_cons.1 hx with rfl | hx
           ·exact hi e.symm
           ·exact hm (by rw [←e];exact List.mem_map_of_mem (dropK_mem hx).1)
          have hXo:∀i,i ∉ d0.wr.map (·.1)→wrG (gX g c (flag ty h)) d0.wr i=gX g c (flag ty h) i:=fun i hm=>wrG_none _ i fun x hx e=>hm (by rw [←e];exact List.mem_map_of_mem hx)
          have hcase:∀i b,nwG (wrG g ((c,some ⟨tt,(0,0),es,l.set o (.bool h')⟩)::dropK c d0.wr)) nb d0.nw i=some b→
            (i=c∧b=⟨tt,(0,0),es,l.set o (.bool h')⟩)∨(i≠c∧okL (okNC c) b.cells=true∧nwG (wrG (gX g c (flag ty h)) d0.wr) nb d0.nw i=some b)∨(i≠c∧(i<nb∨nb+d0.nw.length≤i)∧g i=some b∧gX g c (flag ty h) i=none):=by
           intro i b hb
           by_cases hic:i=c
           ·subst hic
            rw [nwG_none _ _ _ hnc,hwc] at hb
            cases hb
            exact .inl ⟨rfl,rfl⟩
           ·right
            by_cases hnew:nb≤i∧i<nb+d0.nw.length
            ·left
             rw [nwG_at _ _ _ hnew.1 hnew.2] at hb
             refine ⟨hic,okBs_iff.1 hnw b (List.mem_of_getElem? hb), ?_⟩
             rw [nwG_at _ _ _ hnew.1 hnew.2];exact hb
            ·have hno:i<nb∨nb+d0.nw.length≤i:=by omega
             rw [nwG_none _ _ _ hno] at hb
             by_cases hm:i∈d0.wr.map (·.1)
             ·left
              rw [hwi i hic hm] at hb
              refine ⟨hic, ?_,by rw [nwG_none _ _ _ hno];exact hb⟩
              obtain ⟨x,hx,rfl⟩:=List.mem_map.1 hm
              rw [wrG_in _ hnd0 x hx] at hb
              exact okWs_iff hwr x hx b hb
             ·rw [hwo i hic hm] at hb
              by_cases ho:okL (okNC c) b.cells=true
              ·left
               exact ⟨hic,ho,by rw [nwG_none _ _ _ hno,hXo i hm];exact gX_of hb ho hic⟩
              ·right
               exact ⟨hic,hno,hb,gX_no hb ho hic⟩
          refine ⟨(LV.den_congr hN hval).symm,fun i hi=>hold i hi,⟨fun i b hb=> ?_,fun i k hi hk he=> ?_⟩,hp.os,hp.tape,hp.output,hp.size,fun k hk hne=>hp.frame k hk fun i hi=>by rw [hEb];exact hne i (gX_some hkc hi),fun i i1 i2=> ?_⟩
          ·rcases hcase i b hb with ⟨rfl,rfl⟩ | ⟨hic,ho,hb2⟩ | ⟨hic,hno,hb2,hx⟩
           ·have hb2:=hp.rel.blk i (flag ty h') (by
             simp only
             rw [nwG_none _ _ _ hnc]
             exact flagOf_wr hfl hnd0 gX_c)
            obtain ⟨r2,u1,u2,-⟩:=hb2
            rw [hEc',u2 rfl] at u1
            have e:=cellLoc_eq (L:=E i) (E:=E) (t:=tt) (l:=l) (r:=r) (o:=o) ty (h:=h') hlt
            rw [hL] at e
            have hn2:okL p (l.set o (.bool h'))=true:=by
             rw [okL_iff]
             intro a ha
             rcases List.mem_or_eq_of_mem_set ha with ha | rfl
             ·exact okL_iff.1 (hg i _ hkc).2 a ha
             ·rfl
            refine blkAt_cong (E:=E) hpo hn2 (if_pos rfl) ⟨r, ?_,g2,fun hne=>by show (l.set o _).length+_=_;rw [List.length_set];exact g3 hne⟩
            rw [←hLb]
            exact u1.trans (congrArg some e)
           ·exact blkAt_cong hN ho (if_neg hic) (hp.rel.blk i b hb2)
           ·obtain ⟨r2,u1,u2,u3⟩:=hrel.blk i b hb2
            refine blkAt_cong (E:=E) hpo (hg i b hb2).2 (hold i hno) ⟨r2, ?_,u2,u3⟩
            rw [hp.frame _ (Array.getElem?_eq_some_iff.1 u1).1 fun q hq hqe=> ?_]
            ·exact u1
            ·rw [hEb] at hqe
             have:=hrel.inj q i (gX_some hkc hq) (by rw [hb2];rfl) hqe
             rw [this,hx] at hq
             cases hq
          ·obtain ⟨b,hb⟩:=Option.isSome_iff_exists.1 hi
           obtain ⟨b2,hb2⟩:=Option.isSome_iff_exists.1 hk
           have he':(E' i).1=(E' k).1:=by rw [←hN1 i,←hN1 k];exact he
           have dom:∀i b,nwG (wrG g ((c,some ⟨tt,(0,0),es,l.set o (.bool h')⟩)::dropK c d0.wr)) nb d0.nw i=some b→
             (nwG (wrG (gX g c (flag ty h)) d0.wr) nb d0.nw i).isSome∨((i<nb∨nb+d0.nw.length≤i)∧(g i).isSome∧gX g c (flag ty h) i=none):=by
            intro i b hb
            rcases hcase i b hb with ⟨rfl,rfl⟩ | ⟨hic,ho,hb2⟩ | ⟨hic,hno,hb2,hx⟩
            ·left;rw [nwG_none _ _ _ hnc,flagOf_wr (g:=gX g i (flag ty h)) hfl hnd0 gX_c];rfl
            ·left;rw [hb2];rfl
            ·right;exact ⟨hno,by rw [hb2];rfl,hx⟩
           have mix:∀i k,(nwG (wrG (gX g c (flag ty h)) d0.wr) nb d0.nw i).isSome→(k<nb∨nb+d0.nw.length≤k)→(g k).isSome→gX g c (flag ty h) k=none→(E' i).1=(E' k).1→False:=by
            intro i k hi hno hgk hxk he
            rw [hp.agree k hno,hEb] at he
            obtain ⟨bk,hbk⟩:=Option.isSome_iff_exists.1 hgk
            obtain ⟨rk,v1,-,-⟩:=hrel.blk k bk hbk
            have hks:=(Array.getElem?_eq_some_iff.1 v1).1
            by_cases hnew:nb≤i∧i<nb+d0.nw.length
            ·rcases hp.fresh i hnew.1 hnew.2 with hf | ⟨q,q1,q2⟩
             ·omega
             ·rw [hEb] at q2
              have:=hrel.inj q k (gX_some hkc q1) hgk (by rw [←q2,he])
              rw [this,hxk] at q1
              cases q1
            ·have hno2:i<nb∨nb+d0.nw.length≤i:=by omega
             rw [nwG_none _ _ _ hno2] at hi
             have hXi:(gX g c (flag ty h) i).isSome:=by
              by_cases hm:i∈d0.wr.map (·.1)
              ·exact hkeyX i hm
              ·rw [hXo i hm] at hi;exact hi
             rw [hp.agree i hno2,hEb] at he
             have:=hrel.inj i k (gX_some hkc hXi) hgk he
             rw [this,hxk] at hXi
             cases hXi
           rcases dom i b hb with h1 | ⟨h1,h2,h3⟩
           ·rcases dom k b2 hb2 with k1 | ⟨k1,k2,k3⟩
            ·exact hp.rel.inj i k h1 k1 he'
            ·exact absurd he' fun e=>mix i k h1 k1 k2 k3 e
           ·rcases dom k b2 hb2 with k1 | ⟨k1,k2,k3⟩
            ·exact absurd he'.symm fun e=>mix k i k1 h1 h2 h3 e
            ·rw [hp.agree i h1,hp.agree k k1,hEb,hEb] at he'
             exact hrel.inj i k h2 k2 he'
          ·rcases hp.fresh i i1 i2 with hf | ⟨q,q1,q2⟩
           ·left;rw [hN1];exact hf
           ·right;exact ⟨q,gX_some hkc q1,by rw [hN1,q2,hEb]⟩
         rw [hargs'] at main
         refine main.imp (fun ⟨fn,h1,h2,h3,h4⟩=>⟨fn,h1,h2,h3,h4.mono ?_⟩) (fun ⟨u,w',h1,E',h2,h3⟩=>⟨u,w',h1,_, ?_,(conv E' w' h3).2⟩)
         ·rintro e w' ⟨u,rfl,E',rfl,h3⟩
          exact ⟨_,rfl,_,(conv E' w' h3).1,(conv E' w' h3).2⟩
         ·rw [h2];exact (conv E' w' h3).1
        ·cases hd
       ·cases hd
      ·cases hd
     ·cases hd
    ·cases hd
   ·cases hd
  ·cases hd
 ·cases hd
end Go.Lr
