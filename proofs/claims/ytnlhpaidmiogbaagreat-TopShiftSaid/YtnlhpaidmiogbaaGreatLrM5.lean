/- Joined texts. What each part proves stands ahead of it; no condition. -/
import Derived.Test.YtnlhpaidmiogbaaGreatLrM4
import Derived.Test.YtnlhpaidmiogbaaGreatLrM2

/- thornton.rows: the rounds of its loops. -/
namespace Go.Proofs.YtnlhpaidmiogbaaGreat
open Go.Lr
set_option linter.unusedVariables false
set_option linter.unusedSimpArgs false
set_option maxRecDepth 20000
abbrev qo (h:Bool) (x0 x1 x2 x3:List At):Mem:=[(0,flag 61 h),(2,⟨271,(0,0),0,x0⟩),(6,⟨56,(0,0),0,x1⟩),(7,⟨351,(0,0),0,x2⟩),(8,⟨47,(0,0),0,x3⟩)]
abbrev jbj (h:Bool) (x0 x1 x2 x3:List At):List Blk:=[flag 61 h,⟨271,(0,0),0,x0⟩,⟨56,(0,0),0,x1⟩,⟨351,(0,0),0,x2⟩,⟨47,(0,0),0,x3⟩]
abbrev jdn (h:Bool) (x0 x1 x2 x3:List At):List (Option Blk):=[some ⟨61,(0,0),0,[At.bool h]⟩,some ⟨271,(0,0),0,x0⟩,some ⟨56,(0,0),0,x1⟩,some ⟨351,(0,0),0,x2⟩,some ⟨47,(0,0),0,x3⟩]
abbrev xa (h:Bool) (x0 x1 x2:List At):Mem:=[(0,flag 61 h),(2,⟨271,(0,0),0,x0⟩),(6,⟨56,(0,0),0,x1⟩),(7,⟨351,(0,0),0,x2⟩)]
abbrev jbk (h:Bool) (x0 x1 x2:List At):List Blk:=[flag 61 h,⟨271,(0,0),0,x0⟩,⟨56,(0,0),0,x1⟩,⟨351,(0,0),0,x2⟩]
abbrev jbl (h:Bool) (x0 x1 x2:List At):List (Option Blk):=[some ⟨61,(0,0),0,[At.bool h]⟩,some ⟨271,(0,0),0,x0⟩,some ⟨56,(0,0),0,x1⟩,some ⟨351,(0,0),0,x2⟩]
theorem jDU (dead:Nat→Value) (h:Bool) (f p w y:List At) (k m:Nat):jI [0,2,4,7,8,9,13,17,18] [0,2,6,7,8] (exec Tryz.prog KA1 Zl 400 (.code (c1 (c1 (c2 (c1 (c2 (c2 (c1 (c1 (c2 (c2 (c1 (c1 (c2 (c1 (c2 (c2 (jk Tryz.prog 202)))))))))))))))))) (Kst.st ⟨[(0,A0),(2,PX 2),(4,PX 6),(7,PX 7),(8,IK k),(9,PX 8),(13,IK k),(17,IK (k+1)),(18,IK m)],(qo h f p w y),9⟩ 54 dead [some true]))=some (Ex.normal,[LV.v (V1.one (At.ptr 0 0)),LV.v (V1.one (At.ptx 2 0)),LV.v (V1.one (At.ptx 6 0)),LV.v (V1.one (At.ptx 7 0)),LV.v (V1.one (At.int IntKind.i64 (k:Int))),LV.v (V1.one (At.ptx 8 0)),LV.v (V1.one (At.int IntKind.i64 (k:Int))),LV.v (V1.one (At.int IntKind.i64 ((k+1:Nat):Int))),LV.v (V1.one (At.int IntKind.i64 (wr IntKind.i64 ((m:Int)+1))))],(jdn h f p w ((List.set y) (0+(m:Int).toNat*1) (At.int IntKind.i64 (bif (m:Int)==(k:Int) then 1073741824 else jo (jq p 0 300) (0+0+(plV (m:Int) (k:Int)).toNat*1))))),[(decide (0+(m:Int).toNat*1<y.length),true),(decide (0≤(m:Int))&&decide ((m:Int)<24),true),(decide (0≤(m:Int)),true),(decide ((m:Int)≤(k:Int)),true),(decide ((k:Int)<24),true),(qT p 0 300&&true,true),(decide ((m:Int)<((k+1:Nat):Int)),true)]):=by kernel_rfl
theorem rwM (h:Bool) (f p w y:List At) (k m:Nat) (hf:AllI f 576) (hp:AllI p 300) (hw:AllI w 1152) (hy:AllI y 24) (hk:k<24) (hm:m<k+1):∃ (h':Bool) (f' p' w' y':List At),AllI f' 576∧AllI p' 300∧AllI w' 1152∧AllI y' 24∧To Tryz.prog 54 (c1 (c1 (c2 (c1 (c2 (c2 (c1 (c1 (c2 (c2 (c1 (c1 (c2 (c1 (c2 (c2 (jk Tryz.prog 202))))))))))))))))) ⟨[(0,A0),(2,PX 2),(4,PX 6),(7,PX 7),(8,IK k),(9,PX 8),(13,IK k),(17,IK (k+1)),(18,IK m)],(qo h f p w y),9⟩ .normal ⟨[(0,A0),(2,PX 2),(4,PX 6),(7,PX 7),(8,IK k),(9,PX 8),(13,IK k),(17,IK (k+1)),(18,IK (m+1))],(qo h' f' p' w' y'),9⟩:=by
 refine ⟨(h),(f),(p),(w),((List.set y) (0+(m:Int).toNat*1) (At.int IntKind.i64 (bif (m:Int)==(k:Int) then 1073741824 else jo (jq p 0 300) (0+0+(plV (m:Int) (k:Int)).toNat*1)))),(by repeat' first | assumption | apply AllI.set),(by repeat' first | assumption | apply AllI.set),(by repeat' first | assumption | apply AllI.set),(by repeat' first | assumption | apply AllI.set),To.run (z:=Zl) soundKA1 (slots:=[0,2,4,7,8,9,13,17,18]) (blks:=[0,2,6,7,8]) (vs:=[A0,PX 2,PX 6,PX 7,IK k,PX 8,IK k,IK (k+1),IK (m+1)]) (bs:=(jbj (h) f p w ((List.set y) (0+(m:Int).toNat*1) (At.int IntKind.i64 (bif (m:Int)==(k:Int) then 1073741824 else jo (jq p 0 300) (0+0+(plV (m:Int) (k:Int)).toNat*1)))))) (nbB:=9) (fun dead=>jDU dead h f p w y k m) rfl (by rw [wk m (by omega)];rfl) rfl ?_ (jr rfl (je (Nat.lt_of_sub_eq_succ rfl) rfl rfl (je (Nat.lt_of_sub_eq_succ rfl) (AllI.okb (n:=576) (by repeat' first | assumption | apply AllI.set) _) rfl (je (Nat.lt_of_sub_eq_succ rfl) (AllI.okb (n:=300) (by repeat' first | assumption | apply AllI.set) _) rfl (je (Nat.lt_of_sub_eq_succ rfl) (AllI.okb (n:=1152) (by repeat' first | assumption | apply AllI.set) _) rfl (je (Nat.lt_of_sub_eq_succ rfl) (AllI.okb (n:=24) (by repeat' first | assumption | apply AllI.set) _) rfl jU)))))) (Nat.le_refl _)⟩
 have lnf:=hf.len
 have lnp:=hp.len
 have lnw:=hw.len
 have lny:=hy.len
 repeat' first | exact jd | apply ja
 all_goals first
  | (rw [hp.areI 300 0 (Nat.le_refl _)];rfl)
  | (simp only [Bool.and_eq_true,hf.part,hf.ok,hp.part,hp.ok,hw.part,hw.ok,hy.part,hy.ok,decide_eq_true_eq,true_and,and_true];omega)
theorem jyq (dead:Nat→Value) (h:Bool) (f p w y:List At) (k:Nat):jI [0,2,4,7,8,9,13] [0,2,6,7,8] (exec Tryz.prog KA1 Zl 400 (.code (c1 (c1 (c2 (c1 (c2 (c2 (c1 (c1 (c2 (c2 (c1 (c1 (c2 (c1 (c2 (c2 (jk Tryz.prog 202)))))))))))))))))) (Kst.st ⟨[(0,A0),(2,PX 2),(4,PX 6),(7,PX 7),(8,IK k),(9,PX 8),(13,IK k),(17,IK (k+1)),(18,IK (k+1))],(qo h f p w y),9⟩ 54 dead [some false]))=some (Ex.exit 2,[LV.v (V1.one (At.ptr 0 0)),LV.v (V1.one (At.ptx 2 0)),LV.v (V1.one (At.ptx 6 0)),LV.v (V1.one (At.ptx 7 0)),LV.v (V1.one (At.int IntKind.i64 (k:Int))),LV.v (V1.one (At.ptx 8 0)),LV.v (V1.one (At.int IntKind.i64 (k:Int)))],(jdn h f p w y),[(decide (((k+1:Nat):Int)<((k+1:Nat):Int)),false)]):=by kernel_rfl
theorem jDV (h:Bool) (f p w y:List At) (k:Nat) (hf:AllI f 576) (hp:AllI p 300) (hw:AllI w 1152) (hy:AllI y 24):∃ (h':Bool) (f' p' w' y':List At),AllI f' 576∧AllI p' 300∧AllI w' 1152∧AllI y' 24∧To Tryz.prog 54 (c1 (c1 (c2 (c1 (c2 (c2 (c1 (c1 (c2 (c2 (c1 (c1 (c2 (c1 (c2 (c2 (jk Tryz.prog 202))))))))))))))))) ⟨[(0,A0),(2,PX 2),(4,PX 6),(7,PX 7),(8,IK k),(9,PX 8),(13,IK k),(17,IK (k+1)),(18,IK (k+1))],(qo h f p w y),9⟩ (.exit 2) ⟨[(0,A0),(2,PX 2),(4,PX 6),(7,PX 7),(8,IK k),(9,PX 8),(13,IK k)],(qo h' f' p' w' y'),9⟩:=by
 refine ⟨(h),(f),(p),(w),(y),(by repeat' first | assumption | apply AllI.set),(by repeat' first | assumption | apply AllI.set),(by repeat' first | assumption | apply AllI.set),(by repeat' first | assumption | apply AllI.set),To.run (z:=Zl) soundKA1 (slots:=[0,2,4,7,8,9,13]) (blks:=[0,2,6,7,8]) (vs:=[A0,PX 2,PX 6,PX 7,IK k,PX 8,IK k]) (bs:=(jbj (h) f p w y)) (nbB:=9) (fun dead=>jyq dead h f p w y k) rfl rfl rfl ?_ (jr rfl (je (Nat.lt_of_sub_eq_succ rfl) rfl rfl (je (Nat.lt_of_sub_eq_succ rfl) (AllI.okb (n:=576) (by repeat' first | assumption | apply AllI.set) _) rfl (je (Nat.lt_of_sub_eq_succ rfl) (AllI.okb (n:=300) (by repeat' first | assumption | apply AllI.set) _) rfl (je (Nat.lt_of_sub_eq_succ rfl) (AllI.okb (n:=1152) (by repeat' first | assumption | apply AllI.set) _) rfl (je (Nat.lt_of_sub_eq_succ rfl) (AllI.okb (n:=24) (by repeat' first | assumption | apply AllI.set) _) rfl jU)))))) (Nat.le_refl _)⟩
 have lnf:=hf.len
 have lnp:=hp.len
 have lnw:=hw.len
 have lny:=hy.len
 repeat' first | exact jd | apply ja
 all_goals first
  | (with_reducible refine decide_eq_false ?_;omega)
theorem jDW (dead:Nat→Value) (h:Bool) (f p w y:List At) (k i:Nat):jI [0,2,4,7,8,9,13,28] [0,2,6,7,8] (exec Tryz.prog KA1 Zl 400 (.code (c1 (c1 (c2 (c2 (c2 (c2 (c1 (c1 (c2 (c2 (c1 (c1 (c2 (c1 (c2 (c2 (jk Tryz.prog 202)))))))))))))))))) (Kst.st ⟨[(0,A0),(2,PX 2),(4,PX 6),(7,PX 7),(8,IK k),(9,PX 8),(13,IK k),(28,IK i)],(qo h f p w y),9⟩ 54 dead [some true]))=some (Ex.normal,[LV.v (V1.one (At.ptr 0 0)),LV.v (V1.one (At.ptx 2 0)),LV.v (V1.one (At.ptx 6 0)),LV.v (V1.one (At.ptx 7 0)),LV.v (V1.one (At.int IntKind.i64 (k:Int))),LV.v (V1.one (At.ptx 8 0)),LV.v (V1.one (At.int IntKind.i64 (k:Int))),LV.v (V1.one (At.int IntKind.i64 (wr IntKind.i64 ((i:Int)+1))))],(jdn (h||yz 30 (kQ (List.take ((24 - 0)*1) (List.drop (0+(i:Int).toNat*24+0*1) f))) (kQ (List.take ((24 - 0)*1) (List.drop (0+0*1) y)))) f p ((List.set w) (0+(i:Int).toNat*48+(k:Int).toNat*1) (At.int IntKind.i64 (qP 30 (kQ (List.take ((24 - 0)*1) (List.drop (0+(i:Int).toNat*24+0*1) f))) (kQ (List.take ((24 - 0)*1) (List.drop (0+0*1) y)))))) y),[(decide (0+(i:Int).toNat*48+(k:Int).toNat*1<w.length),true),(decide (0≤(k:Int))&&decide ((k:Int)<48),true),(decide (0≤(i:Int))&&decide ((i:Int)<24),true),(qJ (List.take ((24 - 0)*1) (List.drop (0+(i:Int).toNat*24+0*1) f))&&(okL noP f&&(decide (0+(i:Int).toNat*24+0*1+(24 - 0)*1≤f.length)&&true)),true),(qJ (List.take ((24 - 0)*1) (List.drop (0+0*1) y))&&(okL noP y&&(decide (0+0*1+(24 - 0)*1≤y.length)&&true)),true),(decide (0≤(i:Int))&&decide ((i:Int)<24),true),(decide ((i:Int)<24),true)]):=by kernel_rfl
theorem rwI (h:Bool) (f p w y:List At) (k i:Nat) (hf:AllI f 576) (hp:AllI p 300) (hw:AllI w 1152) (hy:AllI y 24) (hk:k<24) (hi:i<24):∃ (h':Bool) (f' p' w' y':List At),AllI f' 576∧AllI p' 300∧AllI w' 1152∧AllI y' 24∧To Tryz.prog 54 (c1 (c1 (c2 (c2 (c2 (c2 (c1 (c1 (c2 (c2 (c1 (c1 (c2 (c1 (c2 (c2 (jk Tryz.prog 202))))))))))))))))) ⟨[(0,A0),(2,PX 2),(4,PX 6),(7,PX 7),(8,IK k),(9,PX 8),(13,IK k),(28,IK i)],(qo h f p w y),9⟩ .normal ⟨[(0,A0),(2,PX 2),(4,PX 6),(7,PX 7),(8,IK k),(9,PX 8),(13,IK k),(28,IK (i+1))],(qo h' f' p' w' y'),9⟩:=by
 refine ⟨((h||yz 30 (kQ (List.take ((24 - 0)*1) (List.drop (0+(i:Int).toNat*24+0*1) f))) (kQ (List.take ((24 - 0)*1) (List.drop (0+0*1) y))))),(f),(p),((List.set w) (0+(i:Int).toNat*48+(k:Int).toNat*1) (At.int IntKind.i64 (qP 30 (kQ (List.take ((24 - 0)*1) (List.drop (0+(i:Int).toNat*24+0*1) f))) (kQ (List.take ((24 - 0)*1) (List.drop (0+0*1) y)))))),(y),(by repeat' first | assumption | apply AllI.set),(by repeat' first | assumption | apply AllI.set),(by repeat' first | assumption | apply AllI.set),(by repeat' first | assumption | apply AllI.set),To.run (z:=Zl) soundKA1 (slots:=[0,2,4,7,8,9,13,28]) (blks:=[0,2,6,7,8]) (vs:=[A0,PX 2,PX 6,PX 7,IK k,PX 8,IK k,IK (i+1)]) (bs:=(jbj ((h||yz 30 (kQ (List.take ((24 - 0)*1) (List.drop (0+(i:Int).toNat*24+0*1) f))) (kQ (List.take ((24 - 0)*1) (List.drop (0+0*1) y))))) f p ((List.set w) (0+(i:Int).toNat*48+(k:Int).toNat*1) (At.int IntKind.i64 (qP 30 (kQ (List.take ((24 - 0)*1) (List.drop (0+(i:Int).toNat*24+0*1) f))) (kQ (List.take ((24 - 0)*1) (List.drop (0+0*1) y)))))) y)) (nbB:=9) (fun dead=>jDW dead h f p w y k i) rfl (by rw [wk i (by omega)];rfl) rfl ?_ (jr rfl (je (Nat.lt_of_sub_eq_succ rfl) rfl rfl (je (Nat.lt_of_sub_eq_succ rfl) (AllI.okb (n:=576) (by repeat' first | assumption | apply AllI.set) _) rfl (je (Nat.lt_of_sub_eq_succ rfl) (AllI.okb (n:=300) (by repeat' first | assumption | apply AllI.set) _) rfl (je (Nat.lt_of_sub_eq_succ rfl) (AllI.okb (n:=1152) (by repeat' first | assumption | apply AllI.set) _) rfl (je (Nat.lt_of_sub_eq_succ rfl) (AllI.okb (n:=24) (by repeat' first | assumption | apply AllI.set) _) rfl jU)))))) (Nat.le_refl _)⟩
 have lnf:=hf.len
 have lnp:=hp.len
 have lnw:=hw.len
 have lny:=hy.len
 repeat' first | exact jd | apply ja
 all_goals first
  | (simp only [Bool.and_eq_true,hf.part,hf.ok,hp.part,hp.ok,hw.part,hw.ok,hy.part,hy.ok,decide_eq_true_eq,true_and,and_true];omega)
theorem jyr (dead:Nat→Value) (h:Bool) (f p w y:List At) (k:Nat):jI [0,2,4,7,8,9,13] [0,2,6,7,8] (exec Tryz.prog KA1 Zl 400 (.code (c1 (c1 (c2 (c2 (c2 (c2 (c1 (c1 (c2 (c2 (c1 (c1 (c2 (c1 (c2 (c2 (jk Tryz.prog 202)))))))))))))))))) (Kst.st ⟨[(0,A0),(2,PX 2),(4,PX 6),(7,PX 7),(8,IK k),(9,PX 8),(13,IK k),(28,IK 24)],(qo h f p w y),9⟩ 54 dead []))=some (Ex.exit 4,[LV.v (V1.one (At.ptr 0 0)),LV.v (V1.one (At.ptx 2 0)),LV.v (V1.one (At.ptx 6 0)),LV.v (V1.one (At.ptx 7 0)),LV.v (V1.one (At.int IntKind.i64 (k:Int))),LV.v (V1.one (At.ptx 8 0)),LV.v (V1.one (At.int IntKind.i64 (k:Int)))],(jdn h f p w y),[]):=by kernel_rfl
theorem jDX (h:Bool) (f p w y:List At) (k:Nat) (hf:AllI f 576) (hp:AllI p 300) (hw:AllI w 1152) (hy:AllI y 24):∃ (h':Bool) (f' p' w' y':List At),AllI f' 576∧AllI p' 300∧AllI w' 1152∧AllI y' 24∧To Tryz.prog 54 (c1 (c1 (c2 (c2 (c2 (c2 (c1 (c1 (c2 (c2 (c1 (c1 (c2 (c1 (c2 (c2 (jk Tryz.prog 202))))))))))))))))) ⟨[(0,A0),(2,PX 2),(4,PX 6),(7,PX 7),(8,IK k),(9,PX 8),(13,IK k),(28,IK 24)],(qo h f p w y),9⟩ (.exit 4) ⟨[(0,A0),(2,PX 2),(4,PX 6),(7,PX 7),(8,IK k),(9,PX 8),(13,IK k)],(qo h' f' p' w' y'),9⟩:=by
 refine ⟨(h),(f),(p),(w),(y),(by repeat' first | assumption | apply AllI.set),(by repeat' first | assumption | apply AllI.set),(by repeat' first | assumption | apply AllI.set),(by repeat' first | assumption | apply AllI.set),To.run (z:=Zl) soundKA1 (slots:=[0,2,4,7,8,9,13]) (blks:=[0,2,6,7,8]) (vs:=[A0,PX 2,PX 6,PX 7,IK k,PX 8,IK k]) (bs:=(jbj (h) f p w y)) (nbB:=9) (fun dead=>jyr dead h f p w y k) rfl rfl rfl ?_ (jr rfl (je (Nat.lt_of_sub_eq_succ rfl) rfl rfl (je (Nat.lt_of_sub_eq_succ rfl) (AllI.okb (n:=576) (by repeat' first | assumption | apply AllI.set) _) rfl (je (Nat.lt_of_sub_eq_succ rfl) (AllI.okb (n:=300) (by repeat' first | assumption | apply AllI.set) _) rfl (je (Nat.lt_of_sub_eq_succ rfl) (AllI.okb (n:=1152) (by repeat' first | assumption | apply AllI.set) _) rfl (je (Nat.lt_of_sub_eq_succ rfl) (AllI.okb (n:=24) (by repeat' first | assumption | apply AllI.set) _) rfl jU)))))) (Nat.le_refl _)⟩
 have lnf:=hf.len
 have lnp:=hp.len
 have lnw:=hw.len
 have lny:=hy.len
 repeat' first | exact jd | apply ja
theorem jDY (dead:Nat→Value) (h:Bool) (f p w:List At) (i:Nat):jI [0,2,4,7,45] [0,2,6,7] (exec Tryz.prog KA1 Zl 400 (.code (c1 (c1 (c2 (c1 (c2 (c2 (c2 (jk Tryz.prog 202))))))))) (Kst.st ⟨[(0,A0),(2,PX 2),(4,PX 6),(7,PX 7),(45,IK i)],(xa h f p w),8⟩ 54 dead [some true]))=some (Ex.normal,[LV.v (V1.one (At.ptr 0 0)),LV.v (V1.one (At.ptx 2 0)),LV.v (V1.one (At.ptx 6 0)),LV.v (V1.one (At.ptx 7 0)),LV.v (V1.one (At.int IntKind.i64 (wr IntKind.i64 ((i:Int)+1))))],(jbl h f p ((List.set w) (0+(i:Int).toNat*48+(wr IntKind.i64 (24+(i:Int))).toNat*1) (At.int IntKind.i64 1073741824))),[(decide (0+(i:Int).toNat*48+(wr IntKind.i64 (24+(i:Int))).toNat*1<w.length),true),(decide (0≤wr IntKind.i64 (24+(i:Int)))&&decide (wr IntKind.i64 (24+(i:Int))<48),true),(decide (0≤(i:Int))&&decide ((i:Int)<24),true),(decide ((i:Int)<24),true)]):=by kernel_rfl
theorem rwD (h:Bool) (f p w:List At) (i:Nat) (hf:AllI f 576) (hp:AllI p 300) (hw:AllI w 1152) (hi:i<24):∃ (h':Bool) (f' p' w':List At),AllI f' 576∧AllI p' 300∧AllI w' 1152∧To Tryz.prog 54 (c1 (c1 (c2 (c1 (c2 (c2 (c2 (jk Tryz.prog 202)))))))) ⟨[(0,A0),(2,PX 2),(4,PX 6),(7,PX 7),(45,IK i)],(xa h f p w),8⟩ .normal ⟨[(0,A0),(2,PX 2),(4,PX 6),(7,PX 7),(45,IK (i+1))],(xa h' f' p' w'),8⟩:=by
 refine ⟨(h),(f),(p),((List.set w) (0+(i:Int).toNat*48+(wr IntKind.i64 (24+(i:Int))).toNat*1) (At.int IntKind.i64 1073741824)),(by repeat' first | assumption | apply AllI.set),(by repeat' first | assumption | apply AllI.set),(by repeat' first | assumption | apply AllI.set),To.run (z:=Zl) soundKA1 (slots:=[0,2,4,7,45]) (blks:=[0,2,6,7]) (vs:=[A0,PX 2,PX 6,PX 7,IK (i+1)]) (bs:=(jbk (h) f p ((List.set w) (0+(i:Int).toNat*48+(wr IntKind.i64 (24+(i:Int))).toNat*1) (At.int IntKind.i64 1073741824)))) (nbB:=8) (fun dead=>jDY dead h f p w i) rfl (by rw [wk i (by omega)];rfl) rfl ?_ (jr rfl (je (Nat.lt_of_sub_eq_succ rfl) rfl rfl (je (Nat.lt_of_sub_eq_succ rfl) (AllI.okb (n:=576) (by repeat' first | assumption | apply AllI.set) _) rfl (je (Nat.lt_of_sub_eq_succ rfl) (AllI.okb (n:=300) (by repeat' first | assumption | apply AllI.set) _) rfl (je (Nat.lt_of_sub_eq_succ rfl) (AllI.okb (n:=1152) (by repeat' first | assumption | apply AllI.set) _) rfl jU))))) (Nat.le_refl _)⟩
 have lnf:=hf.len
 have lnp:=hp.len
 have lnw:=hw.len
 have e24:wr .i64 (24+(i:Int))=((24+i:Nat):Int):=by
  show w64 (24+(i:Int))=_
  rw [xu (by omega) (by omega)];omega
 simp only [e24]
 repeat' first | exact jd | apply ja
 all_goals first
  | (simp only [Bool.and_eq_true,hf.part,hf.ok,hp.part,hp.ok,hw.part,hw.ok,decide_eq_true_eq,true_and,and_true];omega)
theorem jys (dead:Nat→Value) (h:Bool) (f p w:List At):jI [0,2,4,7] [0,2,6,7] (exec Tryz.prog KA1 Zl 400 (.code (c1 (c1 (c2 (c1 (c2 (c2 (c2 (jk Tryz.prog 202))))))))) (Kst.st ⟨[(0,A0),(2,PX 2),(4,PX 6),(7,PX 7),(45,IK 24)],(xa h f p w),8⟩ 54 dead []))=some (Ex.exit 6,[LV.v (V1.one (At.ptr 0 0)),LV.v (V1.one (At.ptx 2 0)),LV.v (V1.one (At.ptx 6 0)),LV.v (V1.one (At.ptx 7 0))],(jbl h f p w),[]):=by kernel_rfl
theorem jDZ (h:Bool) (f p w:List At) (hf:AllI f 576) (hp:AllI p 300) (hw:AllI w 1152):∃ (h':Bool) (f' p' w':List At),AllI f' 576∧AllI p' 300∧AllI w' 1152∧To Tryz.prog 54 (c1 (c1 (c2 (c1 (c2 (c2 (c2 (jk Tryz.prog 202)))))))) ⟨[(0,A0),(2,PX 2),(4,PX 6),(7,PX 7),(45,IK 24)],(xa h f p w),8⟩ (.exit 6) ⟨[(0,A0),(2,PX 2),(4,PX 6),(7,PX 7)],(xa h' f' p' w'),8⟩:=by
 refine ⟨(h),(f),(p),(w),(by repeat' first | assumption | apply AllI.set),(by repeat' first | assumption | apply AllI.set),(by repeat' first | assumption | apply AllI.set),To.run (z:=Zl) soundKA1 (slots:=[0,2,4,7]) (blks:=[0,2,6,7]) (vs:=[A0,PX 2,PX 6,PX 7]) (bs:=(jbk (h) f p w)) (nbB:=8) (fun dead=>jys dead h f p w) rfl rfl rfl ?_ (jr rfl (je (Nat.lt_of_sub_eq_succ rfl) rfl rfl (je (Nat.lt_of_sub_eq_succ rfl) (AllI.okb (n:=576) (by repeat' first | assumption | apply AllI.set) _) rfl (je (Nat.lt_of_sub_eq_succ rfl) (AllI.okb (n:=300) (by repeat' first | assumption | apply AllI.set) _) rfl (je (Nat.lt_of_sub_eq_succ rfl) (AllI.okb (n:=1152) (by repeat' first | assumption | apply AllI.set) _) rfl jU))))) (Nat.le_refl _)⟩
 have lnf:=hf.len
 have lnp:=hp.len
 have lnw:=hw.len
 repeat' first | exact jd | apply ja
theorem jD0 (dead:Nat→Value) (h:Bool) (f p w:List At) (k:Nat):jI [0,2,4,7,13] [0,2,6,7] (xA Tryz.prog KA1 Zl 400 (kV 2 (c1 (c1 (c2 (c1 (c2 (c2 (jk Tryz.prog 202)))))))) (Kst.st ⟨[(0,A0),(2,PX 2),(4,PX 6),(7,PX 7),(13,IK k)],(xa h f p w),8⟩ 54 dead [some true]))=some (Ex.normal,[LV.v (V1.one (At.ptr 0 0)),LV.v (V1.one (At.ptx 2 0)),LV.v (V1.one (At.ptx 6 0)),LV.v (V1.one (At.ptx 7 0)),LV.v (V1.one (At.int IntKind.i64 (k:Int)))],(jbl h f p w),[(decide ((k:Int)<24),true)]):=by kernel_rfl
theorem rwH (h:Bool) (f p w:List At) (k:Nat) (hf:AllI f 576) (hp:AllI p 300) (hw:AllI w 1152) (hk:k<24):∃ (h':Bool) (f' p' w':List At),AllI f' 576∧AllI p' 300∧AllI w' 1152∧∀(e:Ex) (C:Kst),To Tryz.prog 54 (qE 2 (c1 (c1 (c2 (c1 (c2 (c2 (jk Tryz.prog 202)))))))) ⟨[(0,A0),(2,PX 2),(4,PX 6),(7,PX 7),(13,IK k)],(xa h' f' p' w'),8⟩ e C→To Tryz.prog 54 (c1 (c1 (c2 (c1 (c2 (c2 (jk Tryz.prog 202))))))) ⟨[(0,A0),(2,PX 2),(4,PX 6),(7,PX 7),(13,IK k)],(xa h f p w),8⟩ e C:=by
 refine ⟨(h),(f),(p),(w),(by repeat' first | assumption | apply AllI.set),(by repeat' first | assumption | apply AllI.set),(by repeat' first | assumption | apply AllI.set),fun e C hC=>To.spineR (k:=2) (z:=Zl) soundKA1 (slots:=[0,2,4,7,13]) (blks:=[0,2,6,7]) (vs:=[A0,PX 2,PX 6,PX 7,IK k]) (bs:=(jbk (h) f p w)) (nbB:=8) (by kernel_rfl) (fun dead=>jD0 dead h f p w k) rfl rfl rfl ?_ (jr rfl (je (Nat.lt_of_sub_eq_succ rfl) rfl rfl (je (Nat.lt_of_sub_eq_succ rfl) (AllI.okb (n:=576) (by repeat' first | assumption | apply AllI.set) _) rfl (je (Nat.lt_of_sub_eq_succ rfl) (AllI.okb (n:=300) (by repeat' first | assumption | apply AllI.set) _) rfl (je (Nat.lt_of_sub_eq_succ rfl) (AllI.okb (n:=1152) (by repeat' first | assumption | apply AllI.set) _) rfl jU))))) (Nat.le_refl _) hC⟩
 have lnf:=hf.len
 have lnp:=hp.len
 have lnw:=hw.len
 repeat' first | exact jd | apply ja
 all_goals first
  | (simp only [Bool.and_eq_true,hf.part,hf.ok,hp.part,hp.ok,hw.part,hw.ok,decide_eq_true_eq,true_and,and_true];omega)
theorem jyt (dead:Nat→Value) (h:Bool) (f p w:List At):jI [0,2,4,7] [0,2,6,7] (exec Tryz.prog KA1 Zl 400 (.code (c1 (c1 (c2 (c1 (c2 (c2 (jk Tryz.prog 202)))))))) (Kst.st ⟨[(0,A0),(2,PX 2),(4,PX 6),(7,PX 7),(13,IK 24)],(xa h f p w),8⟩ 54 dead []))=some (Ex.exit 0,[LV.v (V1.one (At.ptr 0 0)),LV.v (V1.one (At.ptx 2 0)),LV.v (V1.one (At.ptx 6 0)),LV.v (V1.one (At.ptx 7 0))],(jbl h f p w),[]):=by kernel_rfl
theorem jD1 (h:Bool) (f p w:List At) (hf:AllI f 576) (hp:AllI p 300) (hw:AllI w 1152):∃ (h':Bool) (f' p' w':List At),AllI f' 576∧AllI p' 300∧AllI w' 1152∧To Tryz.prog 54 (c1 (c1 (c2 (c1 (c2 (c2 (jk Tryz.prog 202))))))) ⟨[(0,A0),(2,PX 2),(4,PX 6),(7,PX 7),(13,IK 24)],(xa h f p w),8⟩ (.exit 0) ⟨[(0,A0),(2,PX 2),(4,PX 6),(7,PX 7)],(xa h' f' p' w'),8⟩:=by
 refine ⟨(h),(f),(p),(w),(by repeat' first | assumption | apply AllI.set),(by repeat' first | assumption | apply AllI.set),(by repeat' first | assumption | apply AllI.set),To.run (z:=Zl) soundKA1 (slots:=[0,2,4,7]) (blks:=[0,2,6,7]) (vs:=[A0,PX 2,PX 6,PX 7]) (bs:=(jbk (h) f p w)) (nbB:=8) (fun dead=>jyt dead h f p w) rfl rfl rfl ?_ (jr rfl (je (Nat.lt_of_sub_eq_succ rfl) rfl rfl (je (Nat.lt_of_sub_eq_succ rfl) (AllI.okb (n:=576) (by repeat' first | assumption | apply AllI.set) _) rfl (je (Nat.lt_of_sub_eq_succ rfl) (AllI.okb (n:=300) (by repeat' first | assumption | apply AllI.set) _) rfl (je (Nat.lt_of_sub_eq_succ rfl) (AllI.okb (n:=1152) (by repeat' first | assumption | apply AllI.set) _) rfl jU))))) (Nat.le_refl _)⟩
 have lnf:=hf.len
 have lnp:=hp.len
 have lnw:=hw.len
 repeat' first | exact jd | apply ja
theorem jD2 (dead:Nat→Value) (h:Bool) (f p w:List At) (k:Nat):jI [0,2,4,7,8,9,13] [0,2,6,7,8] (xA Tryz.prog KA1 Zl 400 (kV 2 (c1 (c1 (c2 (c2 (c1 (c1 (c2 (c1 (c2 (c2 (jk Tryz.prog 202)))))))))))) (Kst.st ⟨[(0,A0),(2,PX 2),(4,PX 6),(7,PX 7),(13,IK k)],(xa h f p w),8⟩ 54 dead []))=some (Ex.normal,[LV.v (V1.one (At.ptr 0 0)),LV.v (V1.one (At.ptx 2 0)),LV.v (V1.one (At.ptx 6 0)),LV.v (V1.one (At.ptx 7 0)),LV.v (V1.one (At.int IntKind.i64 (k:Int))),LV.v (V1.one (At.ptr 8 0)),LV.v (V1.one (At.int IntKind.i64 (k:Int)))],[some { ty:=61,fr:=(0,0),es:=0,cells:=[At.bool h] },some { ty:=271,fr:=(0,0),es:=0,cells:=f },some { ty:=56,fr:=(0,0),es:=0,cells:=p },some { ty:=351,fr:=(0,0),es:=0,cells:=w },some ⟨47,(0,0),0,zc 47⟩],[]):=by kernel_rfl
theorem rwA (h:Bool) (f p w:List At) (k:Nat) (hf:AllI f 576) (hp:AllI p 300) (hw:AllI w 1152):∃ (h':Bool) (f' p' w' y':List At),AllI f' 576∧AllI p' 300∧AllI w' 1152∧AllI y' 24∧∀(e:Ex) (C:Kst),To Tryz.prog 54 (qE 2 (c1 (c1 (c2 (c2 (c1 (c1 (c2 (c1 (c2 (c2 (jk Tryz.prog 202)))))))))))) ⟨[(0,A0),(2,PX 2),(4,PX 6),(7,PX 7),(8,IK k),(9,PP 8),(13,IK k)],(qo h' f' p' w' y'),9⟩ e C→To Tryz.prog 54 (c1 (c1 (c2 (c2 (c1 (c1 (c2 (c1 (c2 (c2 (jk Tryz.prog 202))))))))))) ⟨[(0,A0),(2,PX 2),(4,PX 6),(7,PX 7),(13,IK k)],(xa h f p w),8⟩ e C:=by
 refine ⟨(h),(f),(p),(w),(zc 47),(by repeat' first | assumption | apply AllI.set),(by repeat' first | assumption | apply AllI.set),(by repeat' first | assumption | apply AllI.set),(by repeat' first | assumption | apply AllI.set | exact AllI.ints _ _ _ | exact AllI.mkF _ _ _ | exact jdU | exact Ze | exact jiA | exact yZ),fun e C hC=>To.spineR (k:=2) (z:=Zl) soundKA1 (slots:=[0,2,4,7,8,9,13]) (blks:=[0,2,6,7,8]) (vs:=[A0,PX 2,PX 6,PX 7,IK k,PP 8,IK k]) (bs:=(jbj (h) f p w (zc 47))) (nbB:=9) (by kernel_rfl) (fun dead=>jD2 dead h f p w k) rfl rfl rfl ?_ (jr rfl (je (Nat.lt_of_sub_eq_succ rfl) rfl rfl (je (Nat.lt_of_sub_eq_succ rfl) (AllI.okb (n:=576) (by repeat' first | assumption | apply AllI.set) _) rfl (je (Nat.lt_of_sub_eq_succ rfl) (AllI.okb (n:=300) (by repeat' first | assumption | apply AllI.set) _) rfl (je (Nat.lt_of_sub_eq_succ rfl) (AllI.okb (n:=1152) (by repeat' first | assumption | apply AllI.set) _) rfl (je (Nat.lt_of_sub_eq_succ rfl) (AllI.okb (n:=24) (by repeat' first | assumption | apply AllI.set | exact AllI.ints _ _ _ | exact AllI.mkF _ _ _ | exact jdU | exact Ze | exact jiA | exact yZ) _) rfl jU)))))) (Nat.le_of_ble_eq_true rfl) hC⟩
 have lnf:=hf.len
 have lnp:=hp.len
 have lnw:=hw.len
 repeat' first | exact jd | apply ja
theorem jD3 (dead:Nat→Value) (h:Bool) (f p w y:List At) (k:Nat):jI [0,2,4,7,8,9,13,17,18] [0,2,6,7,8] (exec Tryz.prog KA1 Zl 400 (.code (c1 (c1 (c2 (c2 (c1 (c1 (c2 (c2 (c1 (c1 (c2 (c1 (c2 (c2 (jk Tryz.prog 202)))))))))))))))) (Kst.st ⟨[(0,A0),(2,PX 2),(4,PX 6),(7,PX 7),(8,IK k),(9,PX 8),(13,IK k)],(qo h f p w y),9⟩ 54 dead []))=some (Ex.normal,[LV.v (V1.one (At.ptr 0 0)),LV.v (V1.one (At.ptx 2 0)),LV.v (V1.one (At.ptx 6 0)),LV.v (V1.one (At.ptx 7 0)),LV.v (V1.one (At.int IntKind.i64 (k:Int))),LV.v (V1.one (At.ptx 8 0)),LV.v (V1.one (At.int IntKind.i64 (k:Int))),LV.v (V1.one (At.int IntKind.i64 (wr IntKind.i64 ((k:Int)+1)))),LV.v (V1.one (At.int IntKind.i64 0))],(jdn h f p w y),[]):=by kernel_rfl
theorem rwS (h:Bool) (f p w y:List At) (k:Nat) (hf:AllI f 576) (hp:AllI p 300) (hw:AllI w 1152) (hy:AllI y 24) (hk:k<24):∃ (h':Bool) (f' p' w' y':List At),AllI f' 576∧AllI p' 300∧AllI w' 1152∧AllI y' 24∧To Tryz.prog 54 (c1 (c1 (c2 (c2 (c1 (c1 (c2 (c2 (c1 (c1 (c2 (c1 (c2 (c2 (jk Tryz.prog 202))))))))))))))) ⟨[(0,A0),(2,PX 2),(4,PX 6),(7,PX 7),(8,IK k),(9,PX 8),(13,IK k)],(qo h f p w y),9⟩ .normal ⟨[(0,A0),(2,PX 2),(4,PX 6),(7,PX 7),(8,IK k),(9,PX 8),(13,IK k),(17,IK (k+1)),(18,IK 0)],(qo h' f' p' w' y'),9⟩:=by
 refine ⟨(h),(f),(p),(w),(y),(by repeat' first | assumption | apply AllI.set),(by repeat' first | assumption | apply AllI.set),(by repeat' first | assumption | apply AllI.set),(by repeat' first | assumption | apply AllI.set),To.run (z:=Zl) soundKA1 (slots:=[0,2,4,7,8,9,13,17,18]) (blks:=[0,2,6,7,8]) (vs:=[A0,PX 2,PX 6,PX 7,IK k,PX 8,IK k,IK (k+1),IK 0]) (bs:=(jbj (h) f p w y)) (nbB:=9) (fun dead=>jD3 dead h f p w y k) rfl (by rw [wk k (by omega)];rfl) rfl ?_ (jr rfl (je (Nat.lt_of_sub_eq_succ rfl) rfl rfl (je (Nat.lt_of_sub_eq_succ rfl) (AllI.okb (n:=576) (by repeat' first | assumption | apply AllI.set) _) rfl (je (Nat.lt_of_sub_eq_succ rfl) (AllI.okb (n:=300) (by repeat' first | assumption | apply AllI.set) _) rfl (je (Nat.lt_of_sub_eq_succ rfl) (AllI.okb (n:=1152) (by repeat' first | assumption | apply AllI.set) _) rfl (je (Nat.lt_of_sub_eq_succ rfl) (AllI.okb (n:=24) (by repeat' first | assumption | apply AllI.set) _) rfl jU)))))) (Nat.le_refl _)⟩
 have lnf:=hf.len
 have lnp:=hp.len
 have lnw:=hw.len
 have lny:=hy.len
 repeat' first | exact jd | apply ja
theorem jyu (dead:Nat→Value) (h:Bool) (f p w y:List At) (k:Nat):jI [0,2,4,7,8,9,13,28] [0,2,6,7,8] (exec Tryz.prog KA1 Zl 400 (.code (c1 (c2 (c2 (c2 (c1 (c1 (c2 (c2 (c1 (c1 (c2 (c1 (c2 (c2 (jk Tryz.prog 202)))))))))))))))) (Kst.st ⟨[(0,A0),(2,PX 2),(4,PX 6),(7,PX 7),(8,IK k),(9,PX 8),(13,IK k)],(qo h f p w y),9⟩ 54 dead []))=some (Ex.normal,[LV.v (V1.one (At.ptr 0 0)),LV.v (V1.one (At.ptx 2 0)),LV.v (V1.one (At.ptx 6 0)),LV.v (V1.one (At.ptx 7 0)),LV.v (V1.one (At.int IntKind.i64 (k:Int))),LV.v (V1.one (At.ptx 8 0)),LV.v (V1.one (At.int IntKind.i64 (k:Int))),LV.v (V1.one (At.int IntKind.i64 0))],(jdn h f p w y),[]):=by kernel_rfl
theorem jD4 (h:Bool) (f p w y:List At) (k:Nat) (hf:AllI f 576) (hp:AllI p 300) (hw:AllI w 1152) (hy:AllI y 24):∃ (h':Bool) (f' p' w' y':List At),AllI f' 576∧AllI p' 300∧AllI w' 1152∧AllI y' 24∧To Tryz.prog 54 (c1 (c2 (c2 (c2 (c1 (c1 (c2 (c2 (c1 (c1 (c2 (c1 (c2 (c2 (jk Tryz.prog 202))))))))))))))) ⟨[(0,A0),(2,PX 2),(4,PX 6),(7,PX 7),(8,IK k),(9,PX 8),(13,IK k)],(qo h f p w y),9⟩ .normal ⟨[(0,A0),(2,PX 2),(4,PX 6),(7,PX 7),(8,IK k),(9,PX 8),(13,IK k),(28,IK 0)],(qo h' f' p' w' y'),9⟩:=by
 refine ⟨(h),(f),(p),(w),(y),(by repeat' first | assumption | apply AllI.set),(by repeat' first | assumption | apply AllI.set),(by repeat' first | assumption | apply AllI.set),(by repeat' first | assumption | apply AllI.set),To.run (z:=Zl) soundKA1 (slots:=[0,2,4,7,8,9,13,28]) (blks:=[0,2,6,7,8]) (vs:=[A0,PX 2,PX 6,PX 7,IK k,PX 8,IK k,IK 0]) (bs:=(jbj (h) f p w y)) (nbB:=9) (fun dead=>jyu dead h f p w y k) rfl rfl rfl ?_ (jr rfl (je (Nat.lt_of_sub_eq_succ rfl) rfl rfl (je (Nat.lt_of_sub_eq_succ rfl) (AllI.okb (n:=576) (by repeat' first | assumption | apply AllI.set) _) rfl (je (Nat.lt_of_sub_eq_succ rfl) (AllI.okb (n:=300) (by repeat' first | assumption | apply AllI.set) _) rfl (je (Nat.lt_of_sub_eq_succ rfl) (AllI.okb (n:=1152) (by repeat' first | assumption | apply AllI.set) _) rfl (je (Nat.lt_of_sub_eq_succ rfl) (AllI.okb (n:=24) (by repeat' first | assumption | apply AllI.set) _) rfl jU)))))) (Nat.le_refl _)⟩
 have lnf:=hf.len
 have lnp:=hp.len
 have lnw:=hw.len
 have lny:=hy.len
 repeat' first | exact jd | apply ja
theorem jD5 (dead:Nat→Value) (h:Bool) (f p w y:List At) (k:Nat):jI [0,2,4,7,13] [0,2,6,7] (exec Tryz.prog KA1 Zl 400 (.code (c2 (c2 (c2 (c1 (c1 (c2 (c1 (c2 (c2 (jk Tryz.prog 202))))))))))) (Kst.st ⟨[(0,A0),(2,PX 2),(4,PX 6),(7,PX 7),(8,IK k),(9,PX 8),(13,IK k)],(qo h f p w y),9⟩ 54 dead []))=some (Ex.normal,[LV.v (V1.one (At.ptr 0 0)),LV.v (V1.one (At.ptx 2 0)),LV.v (V1.one (At.ptx 6 0)),LV.v (V1.one (At.ptx 7 0)),LV.v (V1.one (At.int IntKind.i64 (wr IntKind.i64 ((k:Int)+1))))],(jbl h f p w),[]):=by kernel_rfl
theorem rwN (h:Bool) (f p w y:List At) (k:Nat) (hf:AllI f 576) (hp:AllI p 300) (hw:AllI w 1152) (hy:AllI y 24) (hk:k<24):∃ (h':Bool) (f' p' w':List At),AllI f' 576∧AllI p' 300∧AllI w' 1152∧To Tryz.prog 54 (c2 (c2 (c2 (c1 (c1 (c2 (c1 (c2 (c2 (jk Tryz.prog 202)))))))))) ⟨[(0,A0),(2,PX 2),(4,PX 6),(7,PX 7),(8,IK k),(9,PX 8),(13,IK k)],(qo h f p w y),9⟩ .normal ⟨[(0,A0),(2,PX 2),(4,PX 6),(7,PX 7),(13,IK (k+1))],(xa h' f' p' w'),9⟩:=by
 refine ⟨(h),(f),(p),(w),(by repeat' first | assumption | apply AllI.set),(by repeat' first | assumption | apply AllI.set),(by repeat' first | assumption | apply AllI.set),To.run (z:=Zl) soundKA1 (slots:=[0,2,4,7,13]) (blks:=[0,2,6,7]) (vs:=[A0,PX 2,PX 6,PX 7,IK (k+1)]) (bs:=(jbk (h) f p w)) (nbB:=9) (fun dead=>jD5 dead h f p w y k) rfl (by rw [wk k (by omega)];rfl) rfl ?_ (jr rfl (je (Nat.lt_of_sub_eq_succ rfl) rfl rfl (je (Nat.lt_of_sub_eq_succ rfl) (AllI.okb (n:=576) (by repeat' first | assumption | apply AllI.set) _) rfl (je (Nat.lt_of_sub_eq_succ rfl) (AllI.okb (n:=300) (by repeat' first | assumption | apply AllI.set) _) rfl (je (Nat.lt_of_sub_eq_succ rfl) (AllI.okb (n:=1152) (by repeat' first | assumption | apply AllI.set) _) rfl jU))))) (Nat.le_refl _)⟩
 have lnf:=hf.len
 have lnp:=hp.len
 have lnw:=hw.len
 have lny:=hy.len
 repeat' first | exact jd | apply ja
theorem jyv (dead:Nat→Value) (h:Bool) (f p w:List At):jI [0,2,4,7,45] [0,2,6,7] (exec Tryz.prog KA1 Zl 400 (.code (c1 (c1 (c2 (c2 (c2 (jk Tryz.prog 202))))))) (Kst.st ⟨[(0,A0),(2,PX 2),(4,PX 6),(7,PX 7)],(xa h f p w),8⟩ 54 dead []))=some (Ex.normal,[LV.v (V1.one (At.ptr 0 0)),LV.v (V1.one (At.ptx 2 0)),LV.v (V1.one (At.ptx 6 0)),LV.v (V1.one (At.ptx 7 0)),LV.v (V1.one (At.int IntKind.i64 0))],(jbl h f p w),[]):=by kernel_rfl
theorem jD6 (h:Bool) (f p w:List At) (hf:AllI f 576) (hp:AllI p 300) (hw:AllI w 1152):∃ (h':Bool) (f' p' w':List At),AllI f' 576∧AllI p' 300∧AllI w' 1152∧To Tryz.prog 54 (c1 (c1 (c2 (c2 (c2 (jk Tryz.prog 202)))))) ⟨[(0,A0),(2,PX 2),(4,PX 6),(7,PX 7)],(xa h f p w),8⟩ .normal ⟨[(0,A0),(2,PX 2),(4,PX 6),(7,PX 7),(45,IK 0)],(xa h' f' p' w'),8⟩:=by
 refine ⟨(h),(f),(p),(w),(by repeat' first | assumption | apply AllI.set),(by repeat' first | assumption | apply AllI.set),(by repeat' first | assumption | apply AllI.set),To.run (z:=Zl) soundKA1 (slots:=[0,2,4,7,45]) (blks:=[0,2,6,7]) (vs:=[A0,PX 2,PX 6,PX 7,IK 0]) (bs:=(jbk (h) f p w)) (nbB:=8) (fun dead=>jyv dead h f p w) rfl rfl rfl ?_ (jr rfl (je (Nat.lt_of_sub_eq_succ rfl) rfl rfl (je (Nat.lt_of_sub_eq_succ rfl) (AllI.okb (n:=576) (by repeat' first | assumption | apply AllI.set) _) rfl (je (Nat.lt_of_sub_eq_succ rfl) (AllI.okb (n:=300) (by repeat' first | assumption | apply AllI.set) _) rfl (je (Nat.lt_of_sub_eq_succ rfl) (AllI.okb (n:=1152) (by repeat' first | assumption | apply AllI.set) _) rfl jU))))) (Nat.le_refl _)⟩
 have lnf:=hf.len
 have lnp:=hp.len
 have lnw:=hw.len
 repeat' first | exact jd | apply ja
theorem jyw (dead:Nat→Value) (h:Bool) (f p w:List At):jI [0,2,4,7,13] [0,2,6,7] (exec Tryz.prog KA1 Zl 400 (.code (c1 (c1 (c2 (c2 (jk Tryz.prog 202)))))) (Kst.st ⟨[(0,A0),(2,PX 2),(4,PX 6),(7,PX 7)],(xa h f p w),8⟩ 54 dead []))=some (Ex.normal,[LV.v (V1.one (At.ptr 0 0)),LV.v (V1.one (At.ptx 2 0)),LV.v (V1.one (At.ptx 6 0)),LV.v (V1.one (At.ptx 7 0)),LV.v (V1.one (At.int IntKind.i64 0))],(jbl h f p w),[]):=by kernel_rfl
theorem jD7 (h:Bool) (f p w:List At) (hf:AllI f 576) (hp:AllI p 300) (hw:AllI w 1152):∃ (h':Bool) (f' p' w':List At),AllI f' 576∧AllI p' 300∧AllI w' 1152∧To Tryz.prog 54 (c1 (c1 (c2 (c2 (jk Tryz.prog 202))))) ⟨[(0,A0),(2,PX 2),(4,PX 6),(7,PX 7)],(xa h f p w),8⟩ .normal ⟨[(0,A0),(2,PX 2),(4,PX 6),(7,PX 7),(13,IK 0)],(xa h' f' p' w'),8⟩:=by
 refine ⟨(h),(f),(p),(w),(by repeat' first | assumption | apply AllI.set),(by repeat' first | assumption | apply AllI.set),(by repeat' first | assumption | apply AllI.set),To.run (z:=Zl) soundKA1 (slots:=[0,2,4,7,13]) (blks:=[0,2,6,7]) (vs:=[A0,PX 2,PX 6,PX 7,IK 0]) (bs:=(jbk (h) f p w)) (nbB:=8) (fun dead=>jyw dead h f p w) rfl rfl rfl ?_ (jr rfl (je (Nat.lt_of_sub_eq_succ rfl) rfl rfl (je (Nat.lt_of_sub_eq_succ rfl) (AllI.okb (n:=576) (by repeat' first | assumption | apply AllI.set) _) rfl (je (Nat.lt_of_sub_eq_succ rfl) (AllI.okb (n:=300) (by repeat' first | assumption | apply AllI.set) _) rfl (je (Nat.lt_of_sub_eq_succ rfl) (AllI.okb (n:=1152) (by repeat' first | assumption | apply AllI.set) _) rfl jU))))) (Nat.le_refl _)⟩
 have lnf:=hf.len
 have lnp:=hp.len
 have lnw:=hw.len
 repeat' first | exact jd | apply ja
theorem jD8 (h:Bool) (f p w y:List At) (k:Nat) (hf:AllI f 576) (hp:AllI p 300) (hw:AllI w 1152) (hy:AllI y 24) (hk:k<24):∃(h':Bool) (f' p' w' y':List At),AllI f' 576∧AllI p' 300∧AllI w' 1152∧AllI y' 24∧To Tryz.prog 54 (c2 (c1 (c2 (c2 (c1 (c1 (c2 (c2 (c1 (c1 (c2 (c1 (c2 (c2 (jk Tryz.prog 202))))))))))))))) ⟨[(0,A0),(2,PX 2),(4,PX 6),(7,PX 7),(8,IK k),(9,PX 8),(13,IK k),(17,IK (k+1)),(18,IK 0)],(qo h f p w y),9⟩ .normal ⟨[(0,A0),(2,PX 2),(4,PX 6),(7,PX 7),(8,IK k),(9,PX 8),(13,IK k)],(qo h' f' p' w' y'),9⟩:=by
 have round:∀(m:Nat) (s:Bool×List At×List At×List At×List At),m<k+1→(AllI s.2.1 576∧AllI s.2.2.1 300∧AllI s.2.2.2.1 1152∧AllI s.2.2.2.2 24)→∃s':Bool×List At×List At×List At×List At,(AllI s'.2.1 576∧AllI s'.2.2.1 300∧AllI s'.2.2.2.1 1152∧AllI s'.2.2.2.2 24)∧To Tryz.prog 54 (c1 (c1 (c2 (c1 (c2 (c2 (c1 (c1 (c2 (c2 (c1 (c1 (c2 (c1 (c2 (c2 (jk Tryz.prog 202))))))))))))))))) ((fun (m:Nat) (s:Bool×List At×List At×List At×List At)=>(⟨[(0,A0),(2,PX 2),(4,PX 6),(7,PX 7),(8,IK k),(9,PX 8),(13,IK k),(17,IK (k+1)),(18,IK m)],(qo (s.1) (s.2.1) (s.2.2.1) (s.2.2.2.1) (s.2.2.2.2)),9⟩:Kst)) m s) .normal ((fun (m:Nat) (s:Bool×List At×List At×List At×List At)=>(⟨[(0,A0),(2,PX 2),(4,PX 6),(7,PX 7),(8,IK k),(9,PX 8),(13,IK k),(17,IK (k+1)),(18,IK m)],(qo (s.1) (s.2.1) (s.2.2.1) (s.2.2.2.1) (s.2.2.2.2)),9⟩:Kst)) (m+1) s'):=by
  rintro m ⟨h,f,p,w,y⟩ hlt ⟨k0,k1,k2,k3⟩
  obtain ⟨h',f',p',w',y',q0,q1,q2,q3,hT⟩:=rwM h f p w y k m k0 k1 k2 k3 hk hlt
  exact ⟨(h',f',p',w',y'),⟨q0,q1,q2,q3⟩,hT⟩
 have last:∀(s:Bool×List At×List At×List At×List At),(AllI s.2.1 576∧AllI s.2.2.1 300∧AllI s.2.2.2.1 1152∧AllI s.2.2.2.2 24)→∃s':Bool×List At×List At×List At×List At,(AllI s'.2.1 576∧AllI s'.2.2.1 300∧AllI s'.2.2.2.1 1152∧AllI s'.2.2.2.2 24)∧To Tryz.prog 54 (c1 (c1 (c2 (c1 (c2 (c2 (c1 (c1 (c2 (c2 (c1 (c1 (c2 (c1 (c2 (c2 (jk Tryz.prog 202))))))))))))))))) ((fun (m:Nat) (s:Bool×List At×List At×List At×List At)=>(⟨[(0,A0),(2,PX 2),(4,PX 6),(7,PX 7),(8,IK k),(9,PX 8),(13,IK k),(17,IK (k+1)),(18,IK m)],(qo (s.1) (s.2.1) (s.2.2.1) (s.2.2.2.1) (s.2.2.2.2)),9⟩:Kst)) (k+1) s) (.exit 2) ((fun (s:Bool×List At×List At×List At×List At)=>(⟨[(0,A0),(2,PX 2),(4,PX 6),(7,PX 7),(8,IK k),(9,PX 8),(13,IK k)],(qo (s.1) (s.2.1) (s.2.2.1) (s.2.2.2.1) (s.2.2.2.2)),9⟩:Kst)) s'):=by
  rintro ⟨h,f,p,w,y⟩ ⟨k0,k1,k2,k3⟩
  obtain ⟨h',f',p',w',y',q0,q1,q2,q3,hT⟩:=jDV h f p w y k k0 k1 k2 k3
  exact ⟨(h',f',p',w',y'),⟨q0,q1,q2,q3⟩,hT⟩
 obtain ⟨⟨h',f',p',w',y'⟩,⟨q0,q1,q2,q3⟩,hT⟩:=xc (id:=2) (by kernel_rfl) (by kernel_rfl) round last (h,f,p,w,y) ⟨hf,hp,hw,hy⟩
 exact ⟨h',f',p',w',y',q0,q1,q2,q3,hT⟩
theorem jD9 (h:Bool) (f p w y:List At) (k:Nat) (hf:AllI f 576) (hp:AllI p 300) (hw:AllI w 1152) (hy:AllI y 24) (hk:k<24):∃(h':Bool) (f' p' w' y':List At),AllI f' 576∧AllI p' 300∧AllI w' 1152∧AllI y' 24∧To Tryz.prog 54 (c2 (c2 (c2 (c2 (c1 (c1 (c2 (c2 (c1 (c1 (c2 (c1 (c2 (c2 (jk Tryz.prog 202))))))))))))))) ⟨[(0,A0),(2,PX 2),(4,PX 6),(7,PX 7),(8,IK k),(9,PX 8),(13,IK k),(28,IK 0)],(qo h f p w y),9⟩ .normal ⟨[(0,A0),(2,PX 2),(4,PX 6),(7,PX 7),(8,IK k),(9,PX 8),(13,IK k)],(qo h' f' p' w' y'),9⟩:=by
 have round:∀(i:Nat) (s:Bool×List At×List At×List At×List At),i<24→(AllI s.2.1 576∧AllI s.2.2.1 300∧AllI s.2.2.2.1 1152∧AllI s.2.2.2.2 24)→∃s':Bool×List At×List At×List At×List At,(AllI s'.2.1 576∧AllI s'.2.2.1 300∧AllI s'.2.2.2.1 1152∧AllI s'.2.2.2.2 24)∧To Tryz.prog 54 (c1 (c1 (c2 (c2 (c2 (c2 (c1 (c1 (c2 (c2 (c1 (c1 (c2 (c1 (c2 (c2 (jk Tryz.prog 202))))))))))))))))) ((fun (i:Nat) (s:Bool×List At×List At×List At×List At)=>(⟨[(0,A0),(2,PX 2),(4,PX 6),(7,PX 7),(8,IK k),(9,PX 8),(13,IK k),(28,IK i)],(qo (s.1) (s.2.1) (s.2.2.1) (s.2.2.2.1) (s.2.2.2.2)),9⟩:Kst)) i s) .normal ((fun (i:Nat) (s:Bool×List At×List At×List At×List At)=>(⟨[(0,A0),(2,PX 2),(4,PX 6),(7,PX 7),(8,IK k),(9,PX 8),(13,IK k),(28,IK i)],(qo (s.1) (s.2.1) (s.2.2.1) (s.2.2.2.1) (s.2.2.2.2)),9⟩:Kst)) (i+1) s'):=by
  rintro i ⟨h,f,p,w,y⟩ hlt ⟨k0,k1,k2,k3⟩
  obtain ⟨h',f',p',w',y',q0,q1,q2,q3,hT⟩:=rwI h f p w y k i k0 k1 k2 k3 hk hlt
  exact ⟨(h',f',p',w',y'),⟨q0,q1,q2,q3⟩,hT⟩
 have last:∀(s:Bool×List At×List At×List At×List At),(AllI s.2.1 576∧AllI s.2.2.1 300∧AllI s.2.2.2.1 1152∧AllI s.2.2.2.2 24)→∃s':Bool×List At×List At×List At×List At,(AllI s'.2.1 576∧AllI s'.2.2.1 300∧AllI s'.2.2.2.1 1152∧AllI s'.2.2.2.2 24)∧To Tryz.prog 54 (c1 (c1 (c2 (c2 (c2 (c2 (c1 (c1 (c2 (c2 (c1 (c1 (c2 (c1 (c2 (c2 (jk Tryz.prog 202))))))))))))))))) ((fun (i:Nat) (s:Bool×List At×List At×List At×List At)=>(⟨[(0,A0),(2,PX 2),(4,PX 6),(7,PX 7),(8,IK k),(9,PX 8),(13,IK k),(28,IK i)],(qo (s.1) (s.2.1) (s.2.2.1) (s.2.2.2.1) (s.2.2.2.2)),9⟩:Kst)) (24) s) (.exit 4) ((fun (s:Bool×List At×List At×List At×List At)=>(⟨[(0,A0),(2,PX 2),(4,PX 6),(7,PX 7),(8,IK k),(9,PX 8),(13,IK k)],(qo (s.1) (s.2.1) (s.2.2.1) (s.2.2.2.1) (s.2.2.2.2)),9⟩:Kst)) s'):=by
  rintro ⟨h,f,p,w,y⟩ ⟨k0,k1,k2,k3⟩
  obtain ⟨h',f',p',w',y',q0,q1,q2,q3,hT⟩:=jDX h f p w y k k0 k1 k2 k3
  exact ⟨(h',f',p',w',y'),⟨q0,q1,q2,q3⟩,hT⟩
 obtain ⟨⟨h',f',p',w',y'⟩,⟨q0,q1,q2,q3⟩,hT⟩:=xc (id:=4) (by kernel_rfl) (by kernel_rfl) round last (h,f,p,w,y) ⟨hf,hp,hw,hy⟩
 exact ⟨h',f',p',w',y',q0,q1,q2,q3,hT⟩
theorem jEa (h:Bool) (f p w:List At) (hf:AllI f 576) (hp:AllI p 300) (hw:AllI w 1152):∃(h':Bool) (f' p' w':List At),AllI f' 576∧AllI p' 300∧AllI w' 1152∧To Tryz.prog 54 (c2 (c1 (c2 (c2 (c2 (jk Tryz.prog 202)))))) ⟨[(0,A0),(2,PX 2),(4,PX 6),(7,PX 7),(45,IK 0)],(xa h f p w),8⟩ .normal ⟨[(0,A0),(2,PX 2),(4,PX 6),(7,PX 7)],(xa h' f' p' w'),8⟩:=by
 have round:∀(i:Nat) (s:Bool×List At×List At×List At),i<24→(AllI s.2.1 576∧AllI s.2.2.1 300∧AllI s.2.2.2 1152)→∃s':Bool×List At×List At×List At,(AllI s'.2.1 576∧AllI s'.2.2.1 300∧AllI s'.2.2.2 1152)∧To Tryz.prog 54 (c1 (c1 (c2 (c1 (c2 (c2 (c2 (jk Tryz.prog 202)))))))) ((fun (i:Nat) (s:Bool×List At×List At×List At)=>(⟨[(0,A0),(2,PX 2),(4,PX 6),(7,PX 7),(45,IK i)],(xa (s.1) (s.2.1) (s.2.2.1) (s.2.2.2)),8⟩:Kst)) i s) .normal ((fun (i:Nat) (s:Bool×List At×List At×List At)=>(⟨[(0,A0),(2,PX 2),(4,PX 6),(7,PX 7),(45,IK i)],(xa (s.1) (s.2.1) (s.2.2.1) (s.2.2.2)),8⟩:Kst)) (i+1) s'):=by
  rintro i ⟨h,f,p,w⟩ hlt ⟨k0,k1,k2⟩
  obtain ⟨h',f',p',w',q0,q1,q2,hT⟩:=rwD h f p w i k0 k1 k2 hlt
  exact ⟨(h',f',p',w'),⟨q0,q1,q2⟩,hT⟩
 have last:∀(s:Bool×List At×List At×List At),(AllI s.2.1 576∧AllI s.2.2.1 300∧AllI s.2.2.2 1152)→∃s':Bool×List At×List At×List At,(AllI s'.2.1 576∧AllI s'.2.2.1 300∧AllI s'.2.2.2 1152)∧To Tryz.prog 54 (c1 (c1 (c2 (c1 (c2 (c2 (c2 (jk Tryz.prog 202)))))))) ((fun (i:Nat) (s:Bool×List At×List At×List At)=>(⟨[(0,A0),(2,PX 2),(4,PX 6),(7,PX 7),(45,IK i)],(xa (s.1) (s.2.1) (s.2.2.1) (s.2.2.2)),8⟩:Kst)) (24) s) (.exit 6) ((fun (s:Bool×List At×List At×List At)=>(⟨[(0,A0),(2,PX 2),(4,PX 6),(7,PX 7)],(xa (s.1) (s.2.1) (s.2.2.1) (s.2.2.2)),8⟩:Kst)) s'):=by
  rintro ⟨h,f,p,w⟩ ⟨k0,k1,k2⟩
  obtain ⟨h',f',p',w',q0,q1,q2,hT⟩:=jDZ h f p w k0 k1 k2
  exact ⟨(h',f',p',w'),⟨q0,q1,q2⟩,hT⟩
 obtain ⟨⟨h',f',p',w'⟩,⟨q0,q1,q2⟩,hT⟩:=xc (id:=6) (by kernel_rfl) (by kernel_rfl) round last (h,f,p,w) ⟨hf,hp,hw⟩
 exact ⟨h',f',p',w',q0,q1,q2,hT⟩
end Go.Proofs.YtnlhpaidmiogbaaGreat

/- A function that hands out a new block, off a walk in pieces: its summary's promise. -/
set_option linter.unusedVariables false
namespace Go.Lr
open Go.RowKit
theorem jk5 {P:Program} {f:FuncId} (ho:Own P f) {args:List LV} {seen:List Nat} {ks:List Blk} {g:Nat→Option Blk} {p:Nat→Bool} {nb:Nat} {E:Env} {w:World} {v0:LV} {j:Nat} {bw:Blk} {B:Kst} {wr:List (Nat×Option Blk)}
  (hl:jE g seen=some ks) (hrel:Rel E g w) (hg:∀i c,g i=some c→p i=true∧okL p c.cells=true) (hpn:p nb=false) (hlt:∀i∈seen,i<nb)
  (hC:Calls P f (args.map (LV.den E)).toArray w fun e w'=>∃Eo,e = .returned (v0.den Eo)∧MRel Eo B.ms w'∧Ext w E (Kst.ms ⟨kC 0 args,jd9 seen ks,nb⟩) w' Eo B.ms)
  (hv:∀E:Env,v0.den E = .pointer (some ⟨(E j).1,(E j).pre.length,none⟩)) (hj:getM B.mem j=some bw) (hjn:nb≤j) (hbw:okL noP bw.cells=true)
  (hw:∀i b,wrG g wr i=some b→(i∈seen∧getM B.mem i=some b∧okL noP b.cells=true)∨(i ∉ seen∧g i=some b)) (hw2:∀i,(wrG g wr i).isSome→(g i).isSome):
  CallOK P f (args.map (LV.den E)).toArray w fun u w'=>∃E',u=(LV.v (.one (.ptr nb 0))).den E'∧Post w E g nb ⟨.v (.one (.ptr nb 0)),wr,[bw],[],[]⟩ E' w':=by
 obtain ⟨fn,h1,h2,h3⟩:=ho
 refine .inl ⟨fn,h1,h2,h3,hC.mono ?_⟩
 rintro e w' ⟨Eo,rfl,hm,hx⟩
 have hgn:g nb=none:=by
  cases h:g nb with
  | none=>rfl
  | some c=>have:=(hg nb c h).1;rw [hpn] at this;cases this
 have key:∀q,(getM (jd9 seen ks) q).isSome→q∈seen∧(g q).isSome:=by
  intro q hq
  rw [xH hl] at hq
  by_cases t:q∈seen
  ·rw [if_pos t] at hq;exact ⟨t,hq⟩
  ·rw [if_neg t] at hq;cases hq
 have hagr:∀i,i<nb→Eo i=E i:=hx.agree
 have hsrc:∀i,(getM B.mem i).isSome→w.heap.size≤(Eo i).1∨∃q,q∈seen∧(g q).isSome∧(Eo i).1=(E q).1:=by
  intro i hi
  rcases hx.src i hi with h | ⟨q,hq,he⟩
  ·exact .inl h
  ·exact .inr ⟨q,(key q hq).1,(key q hq).2,he⟩
 have hsz:∀i b,g i=some b→(E i).1<w.heap.size:=fun i b hi=>by
  obtain ⟨r,u1,-⟩:=hrel.blk i b hi
  exact (Array.getElem?_eq_some_iff.1 u1).1
 refine ⟨_,rfl,fun i=>if i=nb then Eo j else E i,by rw [hv];simp [LV.den,V1.den,At.den], ?_⟩
 have hEn:∀i,i≠nb→(fun i=>if i=nb then Eo j else E i) i=E i:=fun i hi=>by simp [hi]
 have hfar:∀i b,wrG g wr i=some b→(Eo j).1≠(E i).1:=by
  intro i b hib he
  rcases hw i b hib with ⟨a1,a2,a3⟩ | ⟨a1,a2⟩
  ·have:j=i:=hm.rel.inj j i (by show (getM B.mem j).isSome;rw [hj];rfl) (by show (getM B.mem i).isSome;rw [a2];rfl) (by rw [hagr i (hlt i a1)];exact he)
   have:=hlt i a1
   omega
  ·rcases hsrc j (by rw [hj];rfl) with h | ⟨q,q1,q2,q3⟩
   ·have:=hsz i b a2;omega
   ·have:=hrel.inj q i q2 (by rw [a2];rfl) (by rw [←q3,he])
    exact a1 (this ▸ q1)
 refine ⟨fun i hi=> ?_,⟨fun i b hib=> ?_,fun i k hi hk he=> ?_⟩,hx.os,hx.tape,hx.output,hx.size,fun b hb hne=>hx.frame b hb fun i hi=> ?_,fun i i1 i2=> ?_⟩
 ·simp at hi
  exact hEn i (by omega)
 ·simp only [nwG] at hib
  by_cases hin:i=nb
  ·subst hin
   rw [if_pos rfl] at hib
   cases hib
   exact kF (E:=Eo) (i:=j) hbw (by simp) (hm.rel.blk j _ hj)
  ·rw [if_neg hin] at hib
   rcases hw i b hib with ⟨a1,a2,a3⟩ | ⟨a1,a2⟩
   ·refine kF (E:=Eo) (i:=i) a3 ?_ (hm.rel.blk i _ a2)
    rw [if_neg hin,hagr i (hlt i a1)]
   ·obtain ⟨r,u1,u2,u3⟩:=hrel.blk i b a2
    refine ⟨r, ?_,u2,fun hz=>by rw [hEn i hin];exact u3 hz⟩
    rw [hEn i hin,hx.frame _ (hsz i b a2) fun q hq hqe=> ?_]
    ·rw [u1,kk (E:=E) (E':=fun i=>if i=nb then Eo j else E i) (p:=p) (fun t ht=>hEn t fun e=>by rw [e,hpn] at ht;cases ht) (hg i b a2).2]
    ·obtain ⟨s1,s2⟩:=key q hq
     have:=hrel.inj q i s2 (by rw [a2];rfl) hqe
     exact a1 (this ▸ s1)
 ·simp only [nwG] at hi hk
  by_cases hin:i=nb
  ·by_cases hkn:k=nb
   ·rw [hin,hkn]
   ·rw [if_neg hkn] at hk
    obtain ⟨b,hb⟩:=Option.isSome_iff_exists.1 hk
    simp only [hin,if_true,if_neg hkn] at he
    exact absurd he (hfar k b hb)
  ·rw [if_neg hin] at hi
   obtain ⟨b,hb⟩:=Option.isSome_iff_exists.1 hi
   by_cases hkn:k=nb
   ·simp only [hkn,if_true,if_neg hin] at he
    exact absurd he.symm (hfar i b hb)
   ·rw [if_neg hkn] at hk
    simp only [if_neg hin,if_neg hkn] at he
    exact hrel.inj i k (hw2 i hi) (hw2 k hk) he
 ·exact hne i (key i hi).2
 ·simp at i2
  have:i=nb:=by omega
  subst this
  simp only [if_true]
  rcases hsrc j (by rw [hj];rfl) with h | ⟨q,q1,q2,q3⟩
  ·exact .inl h
  ·exact .inr ⟨q,q2,q3⟩
end Go.Lr

/- thornton.rows: the whole, and its summary where thornton.Step calls it. -/
namespace Go.Proofs.YtnlhpaidmiogbaaGreat
open Go.Lr
set_option linter.unusedVariables false
set_option linter.unusedSimpArgs false
set_option maxRecDepth 20000
noncomputable abbrev rwB:Code:=jk Tryz.prog 202
abbrev Xu (h:Bool) (x0 x1 x2:List At):Mem:=[(0,flag 61 h),(2,⟨271,(0,0),0,x0⟩),(6,⟨56,(0,0),0,x1⟩),(7,⟨351,(0,0),0,x2⟩)]
abbrev jyx (h:Bool) (x0 x1 x2:List At):List Blk:=[flag 61 h,⟨271,(0,0),0,x0⟩,⟨56,(0,0),0,x1⟩,⟨351,(0,0),0,x2⟩]
theorem jyy {h:Bool} {f p w:List At} {nb:Nat} (hnb:8≤nb) (hf:AllI f 576) (hp:AllI p 300) (hw:AllI w 1152):ku nb (Xu h f p w)=true:=
 je (by omega) rfl rfl (je (by omega) (hf.okb _) rfl (je (by omega) (hp.okb _) rfl (je (by omega) (hw.okb _) rfl jU)))
theorem jEb {h:Bool} {f p w y:List At} (hf:AllI f 576) (hp:AllI p 300) (hw:AllI w 1152) (hy:AllI y 24):ku 9 [(0,flag 61 h),(2,⟨271,(0,0),0,f⟩),(6,⟨56,(0,0),0,p⟩),(7,⟨351,(0,0),0,w⟩),(8,⟨47,(0,0),0,y⟩)]=true:=
 je (by omega) rfl rfl (je (by omega) (hf.okb _) rfl (je (by omega) (hp.okb _) rfl (je (by omega) (hw.okb _) rfl (je (by omega) (hy.okb _) rfl jU))))
theorem rwO (h:Bool) (f p w:List At) (k:Nat) (hf:AllI f 576) (hp:AllI p 300) (hw:AllI w 1152) (hk:k<24):∃(h':Bool) (f' p' w':List At),AllI f' 576∧AllI p' 300∧AllI w' 1152∧To Tryz.prog 54 (c1 (c1 (c2 (c1 (c2 (c2 rwB)))))) ⟨[(0,A0),(2,PX 2),(4,PX 6),(7,PX 7),(13,IK k)],(Xu h f p w),8⟩ .normal ⟨[(0,A0),(2,PX 2),(4,PX 6),(7,PX 7),(13,IK (k+1))],(Xu h' f' p' w'),8⟩:=by
 obtain ⟨h1,f1,p1,w1,a1,a2,a3,t1⟩:=rwH h f p w k hf hp hw hk
 obtain ⟨h2,f2,p2,w2,y2,b1,b2,b3,b4,t2⟩:=rwA h1 f1 p1 w1 k a1 a2 a3
 obtain ⟨h3,f3,p3,w3,y3,d1,d2,d3,d4,t3⟩:=rwS h2 f2 p2 w2 y2 k b1 b2 b3 b4 hk
 obtain ⟨h4,f4,p4,w4,y4,e1,e2,e3,e4,t4⟩:=jD8 h3 f3 p3 w3 y3 k d1 d2 d3 d4 hk
 obtain ⟨h5,f5,p5,w5,y5,g1,g2,g3,g4,t5⟩:=jD4 h4 f4 p4 w4 y4 k e1 e2 e3 e4
 obtain ⟨h6,f6,p6,w6,y6,i1,i2,i3,i4,t6⟩:=jD9 h5 f5 p5 w5 y5 k g1 g2 g3 g4 hk
 obtain ⟨h7,f7,p7,w7,j1,j2,j3,t7⟩:=rwN h6 f6 p6 w6 y6 k i1 i2 i3 i4 hk
 refine ⟨h7,f7,p7,w7,j1,j2,j3,To.lower (t1 _ _ (To.seq (by kernel_rfl) (To.block (id:=1) (by kernel_rfl) (t2 _ _ (To.pre (To.seq (by kernel_rfl) (To.seq (by kernel_rfl) t3 t4) (To.seq (by kernel_rfl) t5 t6)) (jr rfl (jEb b1 b2 b3 b4)) (fun q hq=> ?_) rfl rfl)) (.inr rfl)) t7)) (Nat.le_refl _) (jr rfl (jyy (Nat.le_refl _) j1 j2 j3))⟩
 simp only [List.mem_cons,List.not_mem_nil,or_false] at hq
 rcases hq with rfl | rfl | rfl | rfl | rfl | rfl | rfl
 ·exact ⟨A0,by simp,fun _=>rfl⟩
 ·exact ⟨PX 2,by simp,fun _=>rfl⟩
 ·exact ⟨PX 6,by simp,fun _=>rfl⟩
 ·exact ⟨PX 7,by simp,fun _=>rfl⟩
 ·exact ⟨IK k,by simp,fun _=>rfl⟩
 ·exact ⟨PP 8,by simp,fun _=>rfl⟩
 ·exact ⟨IK k,by simp,fun _=>rfl⟩
theorem jEc (h:Bool) (f p w:List At) (hf:AllI f 576) (hp:AllI p 300) (hw:AllI w 1152):∃(h':Bool) (f' p' w':List At),AllI f' 576∧AllI p' 300∧AllI w' 1152∧To Tryz.prog 54 (c2 (c1 (c2 (c2 (jk Tryz.prog 202))))) ⟨[(0,A0),(2,PX 2),(4,PX 6),(7,PX 7),(13,IK 0)],(Xu h f p w),8⟩ .normal ⟨[(0,A0),(2,PX 2),(4,PX 6),(7,PX 7)],(Xu h' f' p' w'),8⟩:=by
 have round:∀(k:Nat) (s:Bool×List At×List At×List At),k<24→(AllI s.2.1 576∧AllI s.2.2.1 300∧AllI s.2.2.2 1152)→∃s':Bool×List At×List At×List At,(AllI s'.2.1 576∧AllI s'.2.2.1 300∧AllI s'.2.2.2 1152)∧To Tryz.prog 54 (c1 (c1 (c2 (c1 (c2 (c2 (jk Tryz.prog 202))))))) ((fun (k:Nat) (s:Bool×List At×List At×List At)=>(⟨[(0,A0),(2,PX 2),(4,PX 6),(7,PX 7),(13,IK k)],(Xu (s.1) (s.2.1) (s.2.2.1) (s.2.2.2)),8⟩:Kst)) k s) .normal ((fun (k:Nat) (s:Bool×List At×List At×List At)=>(⟨[(0,A0),(2,PX 2),(4,PX 6),(7,PX 7),(13,IK k)],(Xu (s.1) (s.2.1) (s.2.2.1) (s.2.2.2)),8⟩:Kst)) (k+1) s'):=by
  rintro k ⟨h,f,p,w⟩ hlt ⟨k0,k1,k2⟩
  obtain ⟨h',f',p',w',q0,q1,q2,hT⟩:=rwO h f p w k k0 k1 k2 hlt
  exact ⟨(h',f',p',w'),⟨q0,q1,q2⟩,hT⟩
 have last:∀(s:Bool×List At×List At×List At),(AllI s.2.1 576∧AllI s.2.2.1 300∧AllI s.2.2.2 1152)→∃s':Bool×List At×List At×List At,(AllI s'.2.1 576∧AllI s'.2.2.1 300∧AllI s'.2.2.2 1152)∧To Tryz.prog 54 (c1 (c1 (c2 (c1 (c2 (c2 (jk Tryz.prog 202))))))) ((fun (k:Nat) (s:Bool×List At×List At×List At)=>(⟨[(0,A0),(2,PX 2),(4,PX 6),(7,PX 7),(13,IK k)],(Xu (s.1) (s.2.1) (s.2.2.1) (s.2.2.2)),8⟩:Kst)) (24) s) (.exit 0) ((fun (s:Bool×List At×List At×List At)=>(⟨[(0,A0),(2,PX 2),(4,PX 6),(7,PX 7)],(Xu (s.1) (s.2.1) (s.2.2.1) (s.2.2.2)),8⟩:Kst)) s'):=by
  rintro ⟨h,f,p,w⟩ ⟨k0,k1,k2⟩
  obtain ⟨h',f',p',w',q0,q1,q2,hT⟩:=jD1 h f p w k0 k1 k2
  exact ⟨(h',f',p',w'),⟨q0,q1,q2⟩,hT⟩
 obtain ⟨⟨h',f',p',w'⟩,⟨q0,q1,q2⟩,hT⟩:=xc (id:=0) (by kernel_rfl) (by kernel_rfl) round last (h,f,p,w) ⟨hf,hp,hw⟩
 exact ⟨h',f',p',w',q0,q1,q2,hT⟩
theorem jEd (dead:Nat→Value) (h:Bool) (f p:List At):jI [0,2,4,7] [0,2,6,7] (xA Tryz.prog KA1 Zl 400 (kV 2 rwB) (Kst.st ⟨kC 0 [A0,.v (.agg (jq p 0 300)),PP 2],[(2,⟨271,(0,0),0,f⟩),(0,flag 61 h)],6⟩ 54 dead []))=some (.normal,[A0,PP 2,PP 6,PP 7],[some (flag 61 h),some ⟨271,(0,0),0,f⟩,some ⟨56,(0,0),0,jq p 0 300⟩,some ⟨351,(0,0),0,zc 351⟩],[]):=by kernel_rfl
theorem rwZ (dead:Nat→Value) (h:Bool) (f p w:List At):jI [6] [0,2,7] (exec Tryz.prog KA1 Zl 400 (.code (c2 (c2 (c2 (c2 rwB))))) (Kst.st ⟨[(0,A0),(2,PX 2),(4,PX 6),(7,PX 7)],(Xu h f p w),8⟩ 54 dead []))=some (.ret,[PX 7],[some (flag 61 h),some ⟨271,(0,0),0,f⟩,some ⟨351,(0,0),0,w⟩],[]):=by kernel_rfl
theorem jEe (h:Bool) (f p:List At) (hf:AllI f 576) (hp:AllI p 300):∃(h':Bool) (f' w':List At),AllI f' 576∧AllI w' 1152∧To Tryz.prog 54 rwB ⟨kC 0 [A0,.v (.agg (jq p 0 300)),PP 2],[(2,⟨271,(0,0),0,f⟩),(0,flag 61 h)],6⟩ .ret ⟨[(6,PX 7)],[(0,flag 61 h'),(2,⟨271,(0,0),0,f'⟩),(7,⟨351,(0,0),0,w'⟩)],8⟩:=by
 have hp0:=AllI.ints p 0 300
 obtain ⟨h1,f1,p1,w1,a1,a2,a3,t1⟩:=jD7 h f (jq p 0 300) (zc 351) hf hp0 jiA
 obtain ⟨h2,f2,p2,w2,b1,b2,b3,t2⟩:=jEc h1 f1 p1 w1 a1 a2 a3
 obtain ⟨h3,f3,p3,w3,d1,d2,d3,t3⟩:=jD6 h2 f2 p2 w2 b1 b2 b3
 obtain ⟨h4,f4,p4,w4,e1,e2,e3,t4⟩:=jEa h3 f3 p3 w3 d1 d2 d3
 refine ⟨h4,f4,w4,e1,e3,To.spine (z:=Zl) soundKA1 (k:=2) (slots:=[0,2,4,7]) (blks:=[0,2,6,7]) (vs:=[A0,PP 2,PP 6,PP 7]) (bs:=(jyx h f (jq p 0 300) (zc 351))) (nbB:=8) (by kernel_rfl) (fun dead=>jEd dead h f p) jd (jr rfl (jyy (Nat.le_refl _) hf hp0 jiA)) (Nat.le_of_ble_eq_true rfl) (To.pre (To.seq (by kernel_rfl) (To.seq (by kernel_rfl) t1 t2) (To.seq (by kernel_rfl) (To.seq (by kernel_rfl) t3 t4) (To.exec (z:=Zl) soundKA1 (slots:=[6]) (blks:=[0,2,7]) (vs:=[PX 7]) (bs:=[flag 61 h4,⟨271,(0,0),0,f4⟩,⟨351,(0,0),0,w4⟩]) (nbB:=8) (fun dead=>rwZ dead h4 f4 p4 w4) jd (jr rfl (je (Nat.le_of_ble_eq_true rfl) rfl rfl (je (Nat.le_of_ble_eq_true rfl) (e1.okb _) rfl (je (Nat.le_of_ble_eq_true rfl) (e3.okb _) rfl jU)))) (Nat.le_refl _)))) (jr rfl (jyy (Nat.le_refl _) hf hp0 jiA)) (fun q hq=> ?_) rfl rfl)⟩
 simp only [List.mem_cons,List.not_mem_nil,or_false] at hq
 rcases hq with rfl | rfl | rfl | rfl
 ·exact ⟨A0,by simp,fun _=>rfl⟩
 ·exact ⟨PP 2,by simp,fun _=>rfl⟩
 ·exact ⟨PP 6,by simp,fun _=>rfl⟩
 ·exact ⟨PP 7,by simp,fun _=>rfl⟩
end Go.Proofs.YtnlhpaidmiogbaaGreat

/- thornton.rows: its summary where thornton.Step calls it. -/
namespace Go.Proofs.YtnlhpaidmiogbaaGreat
open Go.Lr Go.RowKit
set_option linter.unusedVariables false
set_option linter.unusedSimpArgs false
set_option maxRecDepth 20000
def jyz (p f:List At) (h:Bool) (q:List At×List At×Bool):Prop:=
 AllI q.1 576∧AllI q.2.1 1152∧To Tryz.prog 54 rwB ⟨kC 0 [A0,.v (.agg (jq p 0 300)),PP 2],[(2,⟨271,(0,0),0,f⟩),(0,flag 61 h)],6⟩ .ret ⟨[(6,PX 7)],[(0,flag 61 q.2.2),(2,⟨271,(0,0),0,q.1⟩),(7,⟨351,(0,0),0,q.2.1⟩)],8⟩
noncomputable def jbm (p f:List At) (h:Bool):List At×List At×Bool:=@Classical.epsilon _ ⟨([],[],false)⟩ (jyz p f h)
theorem jlt {p f:List At} (h:Bool) (hf:AllI f 576) (hp:AllI p 300):jyz p f h (jbm p f h):=by
 obtain ⟨h',f',w',a1,a2,a3⟩:=jEe h f p hf hp
 exact @Classical.epsilon_spec_aux _ ⟨([],[],false)⟩ (jyz p f h) ⟨(f',w',h'),a1,a2,a3⟩
noncomputable def jyA:List LV→List Nat→List Blk→Nat→Option Dl
 | [.v (.one (.ptr 0 0)),.v (.agg p),.v (.one (.ptr 2 0))],[2,0],[⟨tm,(0,0),0,f⟩,⟨ta,(0,0),0,[.bool h]⟩],6=>match Nat.beq tm 271,Nat.beq ta 61,qM p 300,qM f 576 with
  | true,true,true,true=>some ⟨.v (.one (.ptr 6 0)),[(2,some ⟨271,(0,0),0,mkI (jo (jbm p f h).1) 0 576⟩),(0,some (flag 61 (jbm p f h).2.2))],[⟨351,(0,0),0,mkI (jo (jbm p f h).2.1) 0 1152⟩],[],[]⟩
  | _,_,_,_=>none
 | _,_,_,_=>none
theorem jqp:GenOK Tryz.prog 202 jyA:=by
 intro args seen ks g nb p' d E w hl hd hnd hc hrel hg hargs hn
 unfold jyA at hd
 split at hd
 ·rename_i p tm f ta h
  split at hd
  ·rename_i q1 q2 q3 q4
   cases hd
   rw [xi] at q1 q2
   simp only [decide_eq_true_eq] at q1 q2
   subst q1 q2
   have hp:=j6 q3
   have hf:=j6 q4
   obtain ⟨r1,r2,r3⟩:=jlt h hf hp
   generalize jbm p f h=q at *
   obtain ⟨f',w',h'⟩:=q
   simp only at r1 r2 r3 hn ⊢
   rw [kl,kl,←r1.eq,←r2.eq]
   have hpn:p' 6=false:=hn 6 (Nat.le_refl _) (by simp)
   have e0:([LV.v (.one (.ptr 0 0)),.v (.agg p),.v (.one (.ptr 2 0))]:List LV)=[A0,.v (.agg (jq p 0 300)),PP 2]:=by rw [←hp.eq];rfl
   have hz:jd9 [2,0] [⟨271,(0,0),0,f⟩,⟨61,(0,0),0,[.bool h]⟩]=[(2,⟨271,(0,0),0,f⟩),(0,flag 61 h)]:=rfl
   have hrelM:Rel E (getM [(2,⟨271,(0,0),0,f⟩),(0,flag 61 h)]) w:=by
    rw [←hz]
    refine hrel.sub fun i b hib=> ?_
    rw [xH hl] at hib
    split at hib
    ·exact hib
    ·cases hib
   have hmk:ku 6 [(2,⟨271,(0,0),0,f⟩),(0,flag 61 h)]=true:=je (Nat.le_of_ble_eq_true rfl) (hf.okb _) rfl (je (Nat.le_of_ble_eq_true rfl) rfl rfl jU)
   obtain ⟨m1,m2⟩:=xS hmk
   have hC:=yN (P:=Tryz.prog) (f:=202) (c:=rwB) (v:=PX 7) (nb:=6) (args:=[A0,.v (.agg (jq p 0 300)),PP 2]) Tryz.func202 (by kernel_rfl) (Nat.le_of_ble_eq_true (by kernel_rfl)) (Nat.le_of_ble_eq_true (by kernel_rfl)) (fun u hu=>by
    simp only [List.mem_cons,List.not_mem_nil,or_false] at hu
    rcases hu with rfl | rfl | rfl
    ·rfl
    ·exact (AllI.ints p 0 300).okb 6
    ·rfl) m1 m2 r3 (.inr rfl) (fun dead=>by kernel_rfl) E w hrelM
   rw [e0]
   refine jk5 (jg soundKA1 Tryz.func202 (by kernel_rfl)) (v0:=PX 7) (j:=7) hl hrel hg hpn (fun i hi=> ?_) (nb:=6) (B:=⟨[(6,PX 7)],[(0,flag 61 h'),(2,⟨271,(0,0),0,f'⟩),(7,⟨351,(0,0),0,w'⟩)],8⟩) (by rw [hz];exact hC) (fun E=>by simp [PX,LV.den,V1.den,At.den]) rfl (Nat.le_of_ble_eq_true rfl) r2.ok (fun i b hib=> ?_) (fun i hi=> ?_)
   ·simp only [List.mem_cons,List.not_mem_nil,or_false] at hi
    rcases hi with rfl | rfl <;> decide
   ·simp only [wrG] at hib
    by_cases h0:i=0
    ·subst h0
     rw [if_pos rfl] at hib
     cases hib
     exact .inl ⟨by simp,rfl,rfl⟩
    ·rw [if_neg h0] at hib
     by_cases h2:i=2
     ·subst h2
      rw [if_pos rfl] at hib
      cases hib
      exact .inl ⟨by simp,rfl,r1.ok⟩
     ·rw [if_neg h2] at hib
      exact .inr ⟨by simp [h0,h2],hib⟩
   ·simp only [wrG] at hi
    by_cases h0:i=0
    ·subst h0;exact kw hl 0 (by simp)
    ·rw [if_neg h0] at hi
     by_cases h2:i=2
     ·subst h2;exact kw hl 2 (by simp)
     ·rw [if_neg h2] at hi;exact hi
  ·cases hd
 ·cases hd
noncomputable def KA2:FuncId→Option SumK:=moreG KA1 202 jyA
theorem j4:Sound Tryz.prog KA2:=soundKA1.moreG jqp
end Go.Proofs.YtnlhpaidmiogbaaGreat

/- thornton.Step: the rounds of its loops. -/
namespace Go.Proofs.YtnlhpaidmiogbaaGreat
open Go.Lr
set_option linter.unusedVariables false
set_option linter.unusedSimpArgs false
set_option maxRecDepth 20000
abbrev kr (h:Bool) (x0 x1 x2 x3 x4:List At):Mem:=[(0,flag 61 h),(4,⟨56,(0,0),0,x0⟩),(5,⟨308,(0,0),0,x1⟩),(6,⟨351,(0,0),0,x2⟩),(7,⟨56,(0,0),0,x3⟩),(8,⟨308,(0,0),0,x4⟩)]
abbrev Ka (h:Bool) (x0 x1 x2 x3 x4:List At):List Blk:=[flag 61 h,⟨56,(0,0),0,x0⟩,⟨308,(0,0),0,x1⟩,⟨351,(0,0),0,x2⟩,⟨56,(0,0),0,x3⟩,⟨308,(0,0),0,x4⟩]
abbrev KA (h:Bool) (x0 x1 x2 x3 x4:List At):List (Option Blk):=[some ⟨61,(0,0),0,[At.bool h]⟩,some ⟨56,(0,0),0,x0⟩,some ⟨308,(0,0),0,x1⟩,some ⟨351,(0,0),0,x2⟩,some ⟨56,(0,0),0,x3⟩,some ⟨308,(0,0),0,x4⟩]
abbrev qN (h:Bool) (x0 x1 x2 x3 x4:List At):Mem:=[(0,flag 61 h),(1,⟨56,(0,0),0,x0⟩),(2,⟨271,(0,0),0,x1⟩),(3,⟨47,(0,0),0,x2⟩),(4,⟨56,(0,0),0,x3⟩),(5,⟨308,(0,0),0,x4⟩)]
abbrev jas (h:Bool) (x0 x1 x2 x3 x4:List At):List Blk:=[flag 61 h,⟨56,(0,0),0,x0⟩,⟨271,(0,0),0,x1⟩,⟨47,(0,0),0,x2⟩,⟨56,(0,0),0,x3⟩,⟨308,(0,0),0,x4⟩]
abbrev jat (h:Bool) (x0 x1 x2 x3 x4:List At):List (Option Blk):=[some ⟨61,(0,0),0,[At.bool h]⟩,some ⟨56,(0,0),0,x0⟩,some ⟨271,(0,0),0,x1⟩,some ⟨47,(0,0),0,x2⟩,some ⟨56,(0,0),0,x3⟩,some ⟨308,(0,0),0,x4⟩]
abbrev Qc (h:Bool) (x0 x1 x2 x3:List At):Mem:=[(0,flag 61 h),(4,⟨56,(0,0),0,x0⟩),(5,⟨308,(0,0),0,x1⟩),(6,⟨351,(0,0),0,x2⟩),(7,⟨56,(0,0),0,x3⟩)]
abbrev jiz (h:Bool) (x0 x1 x2 x3:List At):List Blk:=[flag 61 h,⟨56,(0,0),0,x0⟩,⟨308,(0,0),0,x1⟩,⟨351,(0,0),0,x2⟩,⟨56,(0,0),0,x3⟩]
abbrev jlP (h:Bool) (x0 x1 x2 x3:List At):List (Option Blk):=[some ⟨61,(0,0),0,[At.bool h]⟩,some ⟨56,(0,0),0,x0⟩,some ⟨308,(0,0),0,x1⟩,some ⟨351,(0,0),0,x2⟩,some ⟨56,(0,0),0,x3⟩]
theorem sIR (dead:Nat→Value) (h:Bool) (p f q r e:List At):jI [0,5,6,7,8,9,24] [0,1,2,3,4,5] (exec Tryz.prog KA2 Zl 400 (.code (c1 (c1 (c2 (c2 (c2 (jk Tryz.prog 158))))))) (Kst.st ⟨[(0,A0),(5,PX 1),(6,PX 2),(7,PX 3),(8,PP 4),(9,PX 5)],(qN h p f q r e),6⟩ 147 dead []))=some (Ex.normal,[LV.v (V1.one (At.ptr 0 0)),LV.v (V1.one (At.ptx 1 0)),LV.v (V1.one (At.ptx 2 0)),LV.v (V1.one (At.ptx 3 0)),LV.v (V1.one (At.ptr 4 0)),LV.v (V1.one (At.ptx 5 0)),LV.v (V1.one (At.int IntKind.i64 0))],(jat h p f q r e),[]):=by kernel_rfl
theorem sI (h:Bool) (p f q r e:List At) (hp:AllI p 300) (hf:AllI f 576) (hq:AllI q 24) (hr:AllI r 300) (he:AllI e 48):∃ (h':Bool) (p' f' q' r' e':List At),AllI p' 300∧AllI f' 576∧AllI q' 24∧AllI r' 300∧AllI e' 48∧To Tryz.prog 147 (c1 (c1 (c2 (c2 (c2 (jk Tryz.prog 158)))))) ⟨[(0,A0),(5,PX 1),(6,PX 2),(7,PX 3),(8,PP 4),(9,PX 5)],(qN h p f q r e),6⟩ .normal ⟨[(0,A0),(5,PX 1),(6,PX 2),(7,PX 3),(8,PP 4),(9,PX 5),(24,IK 0)],(qN h' p' f' q' r' e'),6⟩:=by
 refine ⟨(h),(p),(f),(q),(r),(e),(by repeat' first | assumption | apply AllI.set),(by repeat' first | assumption | apply AllI.set),(by repeat' first | assumption | apply AllI.set),(by repeat' first | assumption | apply AllI.set),(by repeat' first | assumption | apply AllI.set),To.run (z:=Zl) j4 (slots:=[0,5,6,7,8,9,24]) (blks:=[0,1,2,3,4,5]) (vs:=[A0,PX 1,PX 2,PX 3,PP 4,PX 5,IK 0]) (bs:=(jas (h) p f q r e)) (nbB:=6) (fun dead=>sIR dead h p f q r e) rfl rfl rfl ?_ (jr rfl (je (Nat.lt_of_sub_eq_succ rfl) rfl rfl (je (Nat.lt_of_sub_eq_succ rfl) (AllI.okb (n:=300) (by repeat' first | assumption | apply AllI.set) _) rfl (je (Nat.lt_of_sub_eq_succ rfl) (AllI.okb (n:=576) (by repeat' first | assumption | apply AllI.set) _) rfl (je (Nat.lt_of_sub_eq_succ rfl) (AllI.okb (n:=24) (by repeat' first | assumption | apply AllI.set) _) rfl (je (Nat.lt_of_sub_eq_succ rfl) (AllI.okb (n:=300) (by repeat' first | assumption | apply AllI.set) _) rfl (je (Nat.lt_of_sub_eq_succ rfl) (AllI.okb (n:=48) (by repeat' first | assumption | apply AllI.set) _) rfl jU))))))) (Nat.le_refl _)⟩
 have lnp:=hp.len
 have lnf:=hf.len
 have lnq:=hq.len
 have lnr:=hr.len
 have lne:=he.len
 repeat' first | exact jd | apply ja
theorem sAR (dead:Nat→Value) (h:Bool) (p f q r e:List At) (i:Nat):jI [0,5,6,7,8,9,24] [0,1,2,3,4,5] (xA Tryz.prog KA2 Zl 400 (kV 2 (c1 (c1 (c2 (c1 (c2 (c2 (c2 (jk Tryz.prog 158))))))))) (Kst.st ⟨[(0,A0),(5,PX 1),(6,PX 2),(7,PX 3),(8,PP 4),(9,PX 5),(24,IK i)],(qN h p f q r e),6⟩ 147 dead [some true]))=some (Ex.normal,[LV.v (V1.one (At.ptr 0 0)),LV.v (V1.one (At.ptx 1 0)),LV.v (V1.one (At.ptx 2 0)),LV.v (V1.one (At.ptx 3 0)),LV.v (V1.one (At.ptr 4 0)),LV.v (V1.one (At.ptx 5 0)),LV.v (V1.one (At.int IntKind.i64 (i:Int)))],(jat h p f q r e),[(decide ((i:Int)<24),true)]):=by kernel_rfl
theorem sA (h:Bool) (p f q r e:List At) (i:Nat) (hp:AllI p 300) (hf:AllI f 576) (hq:AllI q 24) (hr:AllI r 300) (he:AllI e 48) (hi:i<24):∃ (h':Bool) (p' f' q' r' e':List At),AllI p' 300∧AllI f' 576∧AllI q' 24∧AllI r' 300∧AllI e' 48∧∀(ee:Ex) (CC:Kst),To Tryz.prog 147 (qE 2 (c1 (c1 (c2 (c1 (c2 (c2 (c2 (jk Tryz.prog 158))))))))) ⟨[(0,A0),(5,PX 1),(6,PX 2),(7,PX 3),(8,PP 4),(9,PX 5),(24,IK i)],(qN h' p' f' q' r' e'),6⟩ ee CC→To Tryz.prog 147 (c1 (c1 (c2 (c1 (c2 (c2 (c2 (jk Tryz.prog 158)))))))) ⟨[(0,A0),(5,PX 1),(6,PX 2),(7,PX 3),(8,PP 4),(9,PX 5),(24,IK i)],(qN h p f q r e),6⟩ ee CC:=by
 refine ⟨(h),(p),(f),(q),(r),(e),(by repeat' first | assumption | apply AllI.set),(by repeat' first | assumption | apply AllI.set),(by repeat' first | assumption | apply AllI.set),(by repeat' first | assumption | apply AllI.set),(by repeat' first | assumption | apply AllI.set),fun ee CC hC=>To.spineR (k:=2) (z:=Zl) j4 (slots:=[0,5,6,7,8,9,24]) (blks:=[0,1,2,3,4,5]) (vs:=[A0,PX 1,PX 2,PX 3,PP 4,PX 5,IK i]) (bs:=(jas (h) p f q r e)) (nbB:=6) (by kernel_rfl) (fun dead=>sAR dead h p f q r e i) rfl rfl rfl ?_ (jr rfl (je (Nat.lt_of_sub_eq_succ rfl) rfl rfl (je (Nat.lt_of_sub_eq_succ rfl) (AllI.okb (n:=300) (by repeat' first | assumption | apply AllI.set) _) rfl (je (Nat.lt_of_sub_eq_succ rfl) (AllI.okb (n:=576) (by repeat' first | assumption | apply AllI.set) _) rfl (je (Nat.lt_of_sub_eq_succ rfl) (AllI.okb (n:=24) (by repeat' first | assumption | apply AllI.set) _) rfl (je (Nat.lt_of_sub_eq_succ rfl) (AllI.okb (n:=300) (by repeat' first | assumption | apply AllI.set) _) rfl (je (Nat.lt_of_sub_eq_succ rfl) (AllI.okb (n:=48) (by repeat' first | assumption | apply AllI.set) _) rfl jU))))))) (Nat.le_refl _) hC⟩
 have lnp:=hp.len
 have lnf:=hf.len
 have lnq:=hq.len
 have lnr:=hr.len
 have lne:=he.len
 repeat' first | exact jd | apply ja
 all_goals first
  | (simp only [Bool.and_eq_true,hp.part,hp.ok,hf.part,hf.ok,hq.part,hq.ok,hr.part,hr.ok,he.part,he.ok,decide_eq_true_eq,true_and,and_true];omega)
theorem jEq (dead:Nat→Value) (h:Bool) (p f q r e:List At):jI [0,5,6,7,8,9] [0,1,2,3,4,5] (exec Tryz.prog KA2 Zl 400 (.code (c1 (c1 (c2 (c1 (c2 (c2 (c2 (jk Tryz.prog 158))))))))) (Kst.st ⟨[(0,A0),(5,PX 1),(6,PX 2),(7,PX 3),(8,PP 4),(9,PX 5),(24,IK 24)],(qN h p f q r e),6⟩ 147 dead []))=some (Ex.exit 0,[LV.v (V1.one (At.ptr 0 0)),LV.v (V1.one (At.ptx 1 0)),LV.v (V1.one (At.ptx 2 0)),LV.v (V1.one (At.ptx 3 0)),LV.v (V1.one (At.ptr 4 0)),LV.v (V1.one (At.ptx 5 0))],(jat h p f q r e),[]):=by kernel_rfl
theorem sAe (h:Bool) (p f q r e:List At) (hp:AllI p 300) (hf:AllI f 576) (hq:AllI q 24) (hr:AllI r 300) (he:AllI e 48):∃ (h':Bool) (p' f' q' r' e':List At),AllI p' 300∧AllI f' 576∧AllI q' 24∧AllI r' 300∧AllI e' 48∧To Tryz.prog 147 (c1 (c1 (c2 (c1 (c2 (c2 (c2 (jk Tryz.prog 158)))))))) ⟨[(0,A0),(5,PX 1),(6,PX 2),(7,PX 3),(8,PP 4),(9,PX 5),(24,IK 24)],(qN h p f q r e),6⟩ (.exit 0) ⟨[(0,A0),(5,PX 1),(6,PX 2),(7,PX 3),(8,PP 4),(9,PX 5)],(qN h' p' f' q' r' e'),6⟩:=by
 refine ⟨(h),(p),(f),(q),(r),(e),(by repeat' first | assumption | apply AllI.set),(by repeat' first | assumption | apply AllI.set),(by repeat' first | assumption | apply AllI.set),(by repeat' first | assumption | apply AllI.set),(by repeat' first | assumption | apply AllI.set),To.run (z:=Zl) j4 (slots:=[0,5,6,7,8,9]) (blks:=[0,1,2,3,4,5]) (vs:=[A0,PX 1,PX 2,PX 3,PP 4,PX 5]) (bs:=(jas (h) p f q r e)) (nbB:=6) (fun dead=>jEq dead h p f q r e) rfl rfl rfl ?_ (jr rfl (je (Nat.lt_of_sub_eq_succ rfl) rfl rfl (je (Nat.lt_of_sub_eq_succ rfl) (AllI.okb (n:=300) (by repeat' first | assumption | apply AllI.set) _) rfl (je (Nat.lt_of_sub_eq_succ rfl) (AllI.okb (n:=576) (by repeat' first | assumption | apply AllI.set) _) rfl (je (Nat.lt_of_sub_eq_succ rfl) (AllI.okb (n:=24) (by repeat' first | assumption | apply AllI.set) _) rfl (je (Nat.lt_of_sub_eq_succ rfl) (AllI.okb (n:=300) (by repeat' first | assumption | apply AllI.set) _) rfl (je (Nat.lt_of_sub_eq_succ rfl) (AllI.okb (n:=48) (by repeat' first | assumption | apply AllI.set) _) rfl jU))))))) (Nat.le_refl _)⟩
 have lnp:=hp.len
 have lnf:=hf.len
 have lnq:=hq.len
 have lnr:=hr.len
 have lne:=he.len
 repeat' first | exact jd | apply ja
theorem sBR (dead:Nat→Value) (h:Bool) (p f q r e:List At) (i:Nat):jI [0,5,6,7,8,9,10,24] [0,1,2,3,4,5] (xA Tryz.prog KA2 Zl 400 (kV 2 (c1 (c1 (c2 (c2 (c1 (c1 (c2 (c1 (c2 (c2 (c2 (jk Tryz.prog 158))))))))))))) (Kst.st ⟨[(0,A0),(5,PX 1),(6,PX 2),(7,PX 3),(8,PP 4),(9,PX 5),(24,IK i)],(qN h p f q r e),6⟩ 147 dead []))=some (Ex.normal,[LV.v (V1.one (At.ptr 0 0)),LV.v (V1.one (At.ptx 1 0)),LV.v (V1.one (At.ptx 2 0)),LV.v (V1.one (At.ptx 3 0)),LV.v (V1.one (At.ptr 4 0)),LV.v (V1.one (At.ptx 5 0)),LV.v (V1.one (At.int IntKind.i64 (i:Int))),LV.v (V1.one (At.int IntKind.i64 (i:Int)))],(jat (h||jF (jo q (0+(i:Int).toNat*1)) 0 72057594037927936) p f q r ((List.set (e.set (0+(i:Int).toNat*1) (At.int IntKind.i64 (jo p (0+276+(i:Int).toNat*1))))) (0+(wr IntKind.i64 (24+(i:Int))).toNat*1) (At.int IntKind.i64 (jw (jo q (0+(i:Int).toNat*1)) 0 72057594037927936)))),[(decide (0+(wr IntKind.i64 (24+(i:Int))).toNat*1<(e.set (0+(i:Int).toNat*1) (At.int IntKind.i64 (jo p (0+276+(i:Int).toNat*1)))).length),true),(decide (0≤wr IntKind.i64 (24+(i:Int)))&&decide (wr IntKind.i64 (24+(i:Int))<48),true),(decide (0+(i:Int).toNat*1<e.length),true),(decide (0≤(i:Int))&&decide ((i:Int)<48),true),(isIntAt IntKind.i64 q (0+(i:Int).toNat*1),true),(decide (0≤(i:Int))&&decide ((i:Int)<24),true),(isIntAt IntKind.i64 p (0+276+(i:Int).toNat*1),true),(decide (0≤(i:Int))&&decide ((i:Int)<24),true)]):=by kernel_rfl
theorem sB (h:Bool) (p f q r e:List At) (i:Nat) (hp:AllI p 300) (hf:AllI f 576) (hq:AllI q 24) (hr:AllI r 300) (he:AllI e 48) (hi:i<24):∃ (h':Bool) (p' f' q' r' e':List At),AllI p' 300∧AllI f' 576∧AllI q' 24∧AllI r' 300∧AllI e' 48∧∀(ee:Ex) (CC:Kst),To Tryz.prog 147 (qE 2 (c1 (c1 (c2 (c2 (c1 (c1 (c2 (c1 (c2 (c2 (c2 (jk Tryz.prog 158))))))))))))) ⟨[(0,A0),(5,PX 1),(6,PX 2),(7,PX 3),(8,PP 4),(9,PX 5),(10,IK i),(24,IK i)],(qN h' p' f' q' r' e'),6⟩ ee CC→To Tryz.prog 147 (c1 (c1 (c2 (c2 (c1 (c1 (c2 (c1 (c2 (c2 (c2 (jk Tryz.prog 158)))))))))))) ⟨[(0,A0),(5,PX 1),(6,PX 2),(7,PX 3),(8,PP 4),(9,PX 5),(24,IK i)],(qN h p f q r e),6⟩ ee CC:=by
 refine ⟨((h||jF (jo q (0+(i:Int).toNat*1)) 0 72057594037927936)),(p),(f),(q),(r),((List.set (e.set (0+(i:Int).toNat*1) (At.int IntKind.i64 (jo p (0+276+(i:Int).toNat*1))))) (0+(wr IntKind.i64 (24+(i:Int))).toNat*1) (At.int IntKind.i64 (jw (jo q (0+(i:Int).toNat*1)) 0 72057594037927936))),(by repeat' first | assumption | apply AllI.set),(by repeat' first | assumption | apply AllI.set),(by repeat' first | assumption | apply AllI.set),(by repeat' first | assumption | apply AllI.set),(by repeat' first | assumption | apply AllI.set),fun ee CC hC=>To.spineR (k:=2) (z:=Zl) j4 (slots:=[0,5,6,7,8,9,10,24]) (blks:=[0,1,2,3,4,5]) (vs:=[A0,PX 1,PX 2,PX 3,PP 4,PX 5,IK i,IK i]) (bs:=(jas ((h||jF (jo q (0+(i:Int).toNat*1)) 0 72057594037927936)) p f q r ((List.set (e.set (0+(i:Int).toNat*1) (At.int IntKind.i64 (jo p (0+276+(i:Int).toNat*1))))) (0+(wr IntKind.i64 (24+(i:Int))).toNat*1) (At.int IntKind.i64 (jw (jo q (0+(i:Int).toNat*1)) 0 72057594037927936))))) (nbB:=6) (by kernel_rfl) (fun dead=>sBR dead h p f q r e i) rfl rfl rfl ?_ (jr rfl (je (Nat.lt_of_sub_eq_succ rfl) rfl rfl (je (Nat.lt_of_sub_eq_succ rfl) (AllI.okb (n:=300) (by repeat' first | assumption | apply AllI.set) _) rfl (je (Nat.lt_of_sub_eq_succ rfl) (AllI.okb (n:=576) (by repeat' first | assumption | apply AllI.set) _) rfl (je (Nat.lt_of_sub_eq_succ rfl) (AllI.okb (n:=24) (by repeat' first | assumption | apply AllI.set) _) rfl (je (Nat.lt_of_sub_eq_succ rfl) (AllI.okb (n:=300) (by repeat' first | assumption | apply AllI.set) _) rfl (je (Nat.lt_of_sub_eq_succ rfl) (AllI.okb (n:=48) (by repeat' first | assumption | apply AllI.set) _) rfl jU))))))) (Nat.le_refl _) hC⟩
 have lnp:=hp.len
 have lnf:=hf.len
 have lnq:=hq.len
 have lnr:=hr.len
 have lne:=he.len
 have e24:wr .i64 (24+(i:Int))=((24+i:Nat):Int):=by
  show w64 (24+(i:Int))=_
  rw [xu (by omega) (by omega)];omega
 simp only [e24]
 repeat' first | exact jd | apply ja
 all_goals first
  | (with_reducible refine decide_eq_true ?_;(try simp only [Int.toNat_natCast,List.length_set]);omega)
  | (with_reducible refine AllI.ats (by assumption) _ ?_;simp only [Int.toNat_natCast];omega)
  | (simp only [Bool.and_eq_true,hp.part,hp.ok,hf.part,hf.ok,hq.part,hq.ok,hr.part,hr.ok,he.part,he.ok,decide_eq_true_eq,true_and,and_true];omega)
theorem sCR (dead:Nat→Value) (h:Bool) (p f q r e:List At) (i:Nat):jI [0,5,6,7,8,9,10,24,41] [0,1,2,3,4,5] (exec Tryz.prog KA2 Zl 400 (.code (c1 (c2 (c2 (c1 (c1 (c2 (c2 (c1 (c1 (c2 (c1 (c2 (c2 (c2 (jk Tryz.prog 158)))))))))))))))) (Kst.st ⟨[(0,A0),(5,PX 1),(6,PX 2),(7,PX 3),(8,PP 4),(9,PX 5),(10,IK i),(24,IK i)],(qN h p f q r e),6⟩ 147 dead []))=some (Ex.normal,[LV.v (V1.one (At.ptr 0 0)),LV.v (V1.one (At.ptx 1 0)),LV.v (V1.one (At.ptx 2 0)),LV.v (V1.one (At.ptx 3 0)),LV.v (V1.one (At.ptr 4 0)),LV.v (V1.one (At.ptx 5 0)),LV.v (V1.one (At.int IntKind.i64 (i:Int))),LV.v (V1.one (At.int IntKind.i64 (i:Int))),LV.v (V1.one (At.int IntKind.i64 0))],(jat h p f q r e),[]):=by kernel_rfl
theorem sC (h:Bool) (p f q r e:List At) (i:Nat) (hp:AllI p 300) (hf:AllI f 576) (hq:AllI q 24) (hr:AllI r 300) (he:AllI e 48):∃ (h':Bool) (p' f' q' r' e':List At),AllI p' 300∧AllI f' 576∧AllI q' 24∧AllI r' 300∧AllI e' 48∧To Tryz.prog 147 (c1 (c2 (c2 (c1 (c1 (c2 (c2 (c1 (c1 (c2 (c1 (c2 (c2 (c2 (jk Tryz.prog 158))))))))))))))) ⟨[(0,A0),(5,PX 1),(6,PX 2),(7,PX 3),(8,PP 4),(9,PX 5),(10,IK i),(24,IK i)],(qN h p f q r e),6⟩ .normal ⟨[(0,A0),(5,PX 1),(6,PX 2),(7,PX 3),(8,PP 4),(9,PX 5),(10,IK i),(24,IK i),(41,IK 0)],(qN h' p' f' q' r' e'),6⟩:=by
 refine ⟨(h),(p),(f),(q),(r),(e),(by repeat' first | assumption | apply AllI.set),(by repeat' first | assumption | apply AllI.set),(by repeat' first | assumption | apply AllI.set),(by repeat' first | assumption | apply AllI.set),(by repeat' first | assumption | apply AllI.set),To.run (z:=Zl) j4 (slots:=[0,5,6,7,8,9,10,24,41]) (blks:=[0,1,2,3,4,5]) (vs:=[A0,PX 1,PX 2,PX 3,PP 4,PX 5,IK i,IK i,IK 0]) (bs:=(jas (h) p f q r e)) (nbB:=6) (fun dead=>sCR dead h p f q r e i) rfl rfl rfl ?_ (jr rfl (je (Nat.lt_of_sub_eq_succ rfl) rfl rfl (je (Nat.lt_of_sub_eq_succ rfl) (AllI.okb (n:=300) (by repeat' first | assumption | apply AllI.set) _) rfl (je (Nat.lt_of_sub_eq_succ rfl) (AllI.okb (n:=576) (by repeat' first | assumption | apply AllI.set) _) rfl (je (Nat.lt_of_sub_eq_succ rfl) (AllI.okb (n:=24) (by repeat' first | assumption | apply AllI.set) _) rfl (je (Nat.lt_of_sub_eq_succ rfl) (AllI.okb (n:=300) (by repeat' first | assumption | apply AllI.set) _) rfl (je (Nat.lt_of_sub_eq_succ rfl) (AllI.okb (n:=48) (by repeat' first | assumption | apply AllI.set) _) rfl jU))))))) (Nat.le_refl _)⟩
 have lnp:=hp.len
 have lnf:=hf.len
 have lnq:=hq.len
 have lnr:=hr.len
 have lne:=he.len
 repeat' first | exact jd | apply ja
theorem sDR (dead:Nat→Value) (h:Bool) (p f q r e:List At) (i k:Nat):jI [0,5,6,7,8,9,10,24,41] [0,1,2,3,4,5] (exec Tryz.prog KA2 Zl 400 (.code (c1 (c1 (c2 (c2 (c2 (c1 (c1 (c2 (c2 (c1 (c1 (c2 (c1 (c2 (c2 (c2 (jk Tryz.prog 158)))))))))))))))))) (Kst.st ⟨[(0,A0),(5,PX 1),(6,PX 2),(7,PX 3),(8,PP 4),(9,PX 5),(10,IK i),(24,IK i),(41,IK k)],(qN h p f q r e),6⟩ 147 dead [some true]))=some (Ex.normal,[LV.v (V1.one (At.ptr 0 0)),LV.v (V1.one (At.ptx 1 0)),LV.v (V1.one (At.ptx 2 0)),LV.v (V1.one (At.ptx 3 0)),LV.v (V1.one (At.ptr 4 0)),LV.v (V1.one (At.ptx 5 0)),LV.v (V1.one (At.int IntKind.i64 (i:Int))),LV.v (V1.one (At.int IntKind.i64 (i:Int))),LV.v (V1.one (At.int IntKind.i64 (wr IntKind.i64 ((k:Int)+1))))],(jat (h||jV (jo f (0+(i:Int).toNat*24+(k:Int).toNat*1))) p ((List.set f) (0+(i:Int).toNat*24+(k:Int).toNat*1) (At.int IntKind.i64 (jc (jo f (0+(i:Int).toNat*24+(k:Int).toNat*1))))) q r e),[(decide (0+(i:Int).toNat*24+(k:Int).toNat*1<f.length),true),(decide (0≤(k:Int))&&decide ((k:Int)<24),true),(decide (0≤(i:Int))&&decide ((i:Int)<24),true),(isIntAt IntKind.i64 f (0+(i:Int).toNat*24+(k:Int).toNat*1),true),(decide (0≤(k:Int))&&decide ((k:Int)<24),true),(decide (0≤(i:Int))&&decide ((i:Int)<24),true),(decide ((k:Int)<24),true)]):=by kernel_rfl
theorem sD (h:Bool) (p f q r e:List At) (i k:Nat) (hp:AllI p 300) (hf:AllI f 576) (hq:AllI q 24) (hr:AllI r 300) (he:AllI e 48) (hi:i<24) (hk:k<24):∃ (h':Bool) (p' f' q' r' e':List At),AllI p' 300∧AllI f' 576∧AllI q' 24∧AllI r' 300∧AllI e' 48∧To Tryz.prog 147 (c1 (c1 (c2 (c2 (c2 (c1 (c1 (c2 (c2 (c1 (c1 (c2 (c1 (c2 (c2 (c2 (jk Tryz.prog 158))))))))))))))))) ⟨[(0,A0),(5,PX 1),(6,PX 2),(7,PX 3),(8,PP 4),(9,PX 5),(10,IK i),(24,IK i),(41,IK k)],(qN h p f q r e),6⟩ .normal ⟨[(0,A0),(5,PX 1),(6,PX 2),(7,PX 3),(8,PP 4),(9,PX 5),(10,IK i),(24,IK i),(41,IK (k+1))],(qN h' p' f' q' r' e'),6⟩:=by
 refine ⟨((h||jV (jo f (0+(i:Int).toNat*24+(k:Int).toNat*1)))),(p),((List.set f) (0+(i:Int).toNat*24+(k:Int).toNat*1) (At.int IntKind.i64 (jc (jo f (0+(i:Int).toNat*24+(k:Int).toNat*1))))),(q),(r),(e),(by repeat' first | assumption | apply AllI.set),(by repeat' first | assumption | apply AllI.set),(by repeat' first | assumption | apply AllI.set),(by repeat' first | assumption | apply AllI.set),(by repeat' first | assumption | apply AllI.set),To.run (z:=Zl) j4 (slots:=[0,5,6,7,8,9,10,24,41]) (blks:=[0,1,2,3,4,5]) (vs:=[A0,PX 1,PX 2,PX 3,PP 4,PX 5,IK i,IK i,IK (k+1)]) (bs:=(jas ((h||jV (jo f (0+(i:Int).toNat*24+(k:Int).toNat*1)))) p ((List.set f) (0+(i:Int).toNat*24+(k:Int).toNat*1) (At.int IntKind.i64 (jc (jo f (0+(i:Int).toNat*24+(k:Int).toNat*1))))) q r e)) (nbB:=6) (fun dead=>sDR dead h p f q r e i k) rfl (by rw [wk k (by omega)];rfl) rfl ?_ (jr rfl (je (Nat.lt_of_sub_eq_succ rfl) rfl rfl (je (Nat.lt_of_sub_eq_succ rfl) (AllI.okb (n:=300) (by repeat' first | assumption | apply AllI.set) _) rfl (je (Nat.lt_of_sub_eq_succ rfl) (AllI.okb (n:=576) (by repeat' first | assumption | apply AllI.set) _) rfl (je (Nat.lt_of_sub_eq_succ rfl) (AllI.okb (n:=24) (by repeat' first | assumption | apply AllI.set) _) rfl (je (Nat.lt_of_sub_eq_succ rfl) (AllI.okb (n:=300) (by repeat' first | assumption | apply AllI.set) _) rfl (je (Nat.lt_of_sub_eq_succ rfl) (AllI.okb (n:=48) (by repeat' first | assumption | apply AllI.set) _) rfl jU))))))) (Nat.le_refl _)⟩
 have lnp:=hp.len
 have lnf:=hf.len
 have lnq:=hq.len
 have lnr:=hr.len
 have lne:=he.len
 repeat' first | exact jd | apply ja
 all_goals first
  | (with_reducible refine AllI.ats (by assumption) _ ?_;simp only [Int.toNat_natCast];omega)
  | (simp only [Bool.and_eq_true,hp.part,hp.ok,hf.part,hf.ok,hq.part,hq.ok,hr.part,hr.ok,he.part,he.ok,decide_eq_true_eq,true_and,and_true];omega)
theorem jEr (dead:Nat→Value) (h:Bool) (p f q r e:List At) (i:Nat):jI [0,5,6,7,8,9,10,24] [0,1,2,3,4,5] (exec Tryz.prog KA2 Zl 400 (.code (c1 (c1 (c2 (c2 (c2 (c1 (c1 (c2 (c2 (c1 (c1 (c2 (c1 (c2 (c2 (c2 (jk Tryz.prog 158)))))))))))))))))) (Kst.st ⟨[(0,A0),(5,PX 1),(6,PX 2),(7,PX 3),(8,PP 4),(9,PX 5),(10,IK i),(24,IK i),(41,IK 24)],(qN h p f q r e),6⟩ 147 dead []))=some (Ex.exit 2,[LV.v (V1.one (At.ptr 0 0)),LV.v (V1.one (At.ptx 1 0)),LV.v (V1.one (At.ptx 2 0)),LV.v (V1.one (At.ptx 3 0)),LV.v (V1.one (At.ptr 4 0)),LV.v (V1.one (At.ptx 5 0)),LV.v (V1.one (At.int IntKind.i64 (i:Int))),LV.v (V1.one (At.int IntKind.i64 (i:Int)))],(jat h p f q r e),[]):=by kernel_rfl
theorem sDe (h:Bool) (p f q r e:List At) (i:Nat) (hp:AllI p 300) (hf:AllI f 576) (hq:AllI q 24) (hr:AllI r 300) (he:AllI e 48):∃ (h':Bool) (p' f' q' r' e':List At),AllI p' 300∧AllI f' 576∧AllI q' 24∧AllI r' 300∧AllI e' 48∧To Tryz.prog 147 (c1 (c1 (c2 (c2 (c2 (c1 (c1 (c2 (c2 (c1 (c1 (c2 (c1 (c2 (c2 (c2 (jk Tryz.prog 158))))))))))))))))) ⟨[(0,A0),(5,PX 1),(6,PX 2),(7,PX 3),(8,PP 4),(9,PX 5),(10,IK i),(24,IK i),(41,IK 24)],(qN h p f q r e),6⟩ (.exit 2) ⟨[(0,A0),(5,PX 1),(6,PX 2),(7,PX 3),(8,PP 4),(9,PX 5),(10,IK i),(24,IK i)],(qN h' p' f' q' r' e'),6⟩:=by
 refine ⟨(h),(p),(f),(q),(r),(e),(by repeat' first | assumption | apply AllI.set),(by repeat' first | assumption | apply AllI.set),(by repeat' first | assumption | apply AllI.set),(by repeat' first | assumption | apply AllI.set),(by repeat' first | assumption | apply AllI.set),To.run (z:=Zl) j4 (slots:=[0,5,6,7,8,9,10,24]) (blks:=[0,1,2,3,4,5]) (vs:=[A0,PX 1,PX 2,PX 3,PP 4,PX 5,IK i,IK i]) (bs:=(jas (h) p f q r e)) (nbB:=6) (fun dead=>jEr dead h p f q r e i) rfl rfl rfl ?_ (jr rfl (je (Nat.lt_of_sub_eq_succ rfl) rfl rfl (je (Nat.lt_of_sub_eq_succ rfl) (AllI.okb (n:=300) (by repeat' first | assumption | apply AllI.set) _) rfl (je (Nat.lt_of_sub_eq_succ rfl) (AllI.okb (n:=576) (by repeat' first | assumption | apply AllI.set) _) rfl (je (Nat.lt_of_sub_eq_succ rfl) (AllI.okb (n:=24) (by repeat' first | assumption | apply AllI.set) _) rfl (je (Nat.lt_of_sub_eq_succ rfl) (AllI.okb (n:=300) (by repeat' first | assumption | apply AllI.set) _) rfl (je (Nat.lt_of_sub_eq_succ rfl) (AllI.okb (n:=48) (by repeat' first | assumption | apply AllI.set) _) rfl jU))))))) (Nat.le_refl _)⟩
 have lnp:=hp.len
 have lnf:=hf.len
 have lnq:=hq.len
 have lnr:=hr.len
 have lne:=he.len
 repeat' first | exact jd | apply ja
theorem sER (dead:Nat→Value) (h:Bool) (p f q r e:List At) (i:Nat):jI [0,5,6,7,8,9,24] [0,1,2,3,4,5] (exec Tryz.prog KA2 Zl 400 (.code (c2 (c2 (c2 (c1 (c1 (c2 (c1 (c2 (c2 (c2 (jk Tryz.prog 158)))))))))))) (Kst.st ⟨[(0,A0),(5,PX 1),(6,PX 2),(7,PX 3),(8,PP 4),(9,PX 5),(10,IK i),(24,IK i)],(qN h p f q r e),6⟩ 147 dead []))=some (Ex.normal,[LV.v (V1.one (At.ptr 0 0)),LV.v (V1.one (At.ptx 1 0)),LV.v (V1.one (At.ptx 2 0)),LV.v (V1.one (At.ptx 3 0)),LV.v (V1.one (At.ptr 4 0)),LV.v (V1.one (At.ptx 5 0)),LV.v (V1.one (At.int IntKind.i64 (wr IntKind.i64 ((i:Int)+1))))],(jat h p f q r e),[]):=by kernel_rfl
theorem sE (h:Bool) (p f q r e:List At) (i:Nat) (hp:AllI p 300) (hf:AllI f 576) (hq:AllI q 24) (hr:AllI r 300) (he:AllI e 48) (hi:i<24):∃ (h':Bool) (p' f' q' r' e':List At),AllI p' 300∧AllI f' 576∧AllI q' 24∧AllI r' 300∧AllI e' 48∧To Tryz.prog 147 (c2 (c2 (c2 (c1 (c1 (c2 (c1 (c2 (c2 (c2 (jk Tryz.prog 158))))))))))) ⟨[(0,A0),(5,PX 1),(6,PX 2),(7,PX 3),(8,PP 4),(9,PX 5),(10,IK i),(24,IK i)],(qN h p f q r e),6⟩ .normal ⟨[(0,A0),(5,PX 1),(6,PX 2),(7,PX 3),(8,PP 4),(9,PX 5),(24,IK (i+1))],(qN h' p' f' q' r' e'),6⟩:=by
 refine ⟨(h),(p),(f),(q),(r),(e),(by repeat' first | assumption | apply AllI.set),(by repeat' first | assumption | apply AllI.set),(by repeat' first | assumption | apply AllI.set),(by repeat' first | assumption | apply AllI.set),(by repeat' first | assumption | apply AllI.set),To.run (z:=Zl) j4 (slots:=[0,5,6,7,8,9,24]) (blks:=[0,1,2,3,4,5]) (vs:=[A0,PX 1,PX 2,PX 3,PP 4,PX 5,IK (i+1)]) (bs:=(jas (h) p f q r e)) (nbB:=6) (fun dead=>sER dead h p f q r e i) rfl (by rw [wk i (by omega)];rfl) rfl ?_ (jr rfl (je (Nat.lt_of_sub_eq_succ rfl) rfl rfl (je (Nat.lt_of_sub_eq_succ rfl) (AllI.okb (n:=300) (by repeat' first | assumption | apply AllI.set) _) rfl (je (Nat.lt_of_sub_eq_succ rfl) (AllI.okb (n:=576) (by repeat' first | assumption | apply AllI.set) _) rfl (je (Nat.lt_of_sub_eq_succ rfl) (AllI.okb (n:=24) (by repeat' first | assumption | apply AllI.set) _) rfl (je (Nat.lt_of_sub_eq_succ rfl) (AllI.okb (n:=300) (by repeat' first | assumption | apply AllI.set) _) rfl (je (Nat.lt_of_sub_eq_succ rfl) (AllI.okb (n:=48) (by repeat' first | assumption | apply AllI.set) _) rfl jU))))))) (Nat.le_refl _)⟩
 have lnp:=hp.len
 have lnf:=hf.len
 have lnq:=hq.len
 have lnr:=hr.len
 have lne:=he.len
 repeat' first | exact jd | apply ja
theorem mNR (dead:Nat→Value) (h:Bool) (r e w:List At):jI [0,8,9,12,13] [0,4,5,6,7] (exec Tryz.prog KA2 Zl 400 (.code (c1 (c2 (c2 (c2 (c2 (c2 (jk Tryz.prog 158)))))))) (Kst.st ⟨[(0,A0),(8,PP 4),(9,PX 5),(12,PX 6)],[(0,flag 61 h),(4,⟨56,(0,0),0,r⟩),(5,⟨308,(0,0),0,e⟩),(6,⟨351,(0,0),0,w⟩)],7⟩ 147 dead []))=some (Ex.normal,[LV.v (V1.one (At.ptr 0 0)),LV.v (V1.one (At.ptr 4 0)),LV.v (V1.one (At.ptx 5 0)),LV.v (V1.one (At.ptx 6 0)),LV.v (V1.one (At.ptr 7 0))],[some { ty:=61,fr:=(0,0),es:=0,cells:=[At.bool h] },some { ty:=56,fr:=(0,0),es:=0,cells:=r },some { ty:=308,fr:=(0,0),es:=0,cells:=e },some { ty:=351,fr:=(0,0),es:=0,cells:=w },some ⟨56,(0,0),0,zc 56⟩],[]):=by kernel_rfl
theorem mN (h:Bool) (r e w:List At) (hr:AllI r 300) (he:AllI e 48) (hw:AllI w 1152):∃ (h':Bool) (r' e' w' o':List At),AllI r' 300∧AllI e' 48∧AllI w' 1152∧AllI o' 300∧To Tryz.prog 147 (c1 (c2 (c2 (c2 (c2 (c2 (jk Tryz.prog 158))))))) ⟨[(0,A0),(8,PP 4),(9,PX 5),(12,PX 6)],[(0,flag 61 h),(4,⟨56,(0,0),0,r⟩),(5,⟨308,(0,0),0,e⟩),(6,⟨351,(0,0),0,w⟩)],7⟩ .normal ⟨[(0,A0),(8,PP 4),(9,PX 5),(12,PX 6),(13,PP 7)],(Qc h' r' e' w' o'),8⟩:=by
 refine ⟨(h),(r),(e),(w),(zc 56),(by repeat' first | assumption | apply AllI.set),(by repeat' first | assumption | apply AllI.set),(by repeat' first | assumption | apply AllI.set),(by repeat' first | assumption | apply AllI.set | exact AllI.ints _ _ _ | exact AllI.mkF _ _ _ | exact jdU | exact Ze | exact jiA | exact yZ),To.run (z:=Zl) j4 (slots:=[0,8,9,12,13]) (blks:=[0,4,5,6,7]) (vs:=[A0,PP 4,PX 5,PX 6,PP 7]) (bs:=(jiz (h) r e w (zc 56))) (nbB:=8) (fun dead=>mNR dead h r e w) rfl rfl rfl ?_ (jr rfl (je (Nat.lt_of_sub_eq_succ rfl) rfl rfl (je (Nat.lt_of_sub_eq_succ rfl) (AllI.okb (n:=300) (by repeat' first | assumption | apply AllI.set) _) rfl (je (Nat.lt_of_sub_eq_succ rfl) (AllI.okb (n:=48) (by repeat' first | assumption | apply AllI.set) _) rfl (je (Nat.lt_of_sub_eq_succ rfl) (AllI.okb (n:=1152) (by repeat' first | assumption | apply AllI.set) _) rfl (je (Nat.lt_of_sub_eq_succ rfl) (AllI.okb (n:=300) (by repeat' first | assumption | apply AllI.set | exact AllI.ints _ _ _ | exact AllI.mkF _ _ _ | exact jdU | exact Ze | exact jiA | exact yZ) _) rfl jU)))))) (Nat.le_of_ble_eq_true rfl)⟩
 have lnr:=hr.len
 have lne:=he.len
 have lnw:=hw.len
 repeat' first | exact jd | apply ja
theorem mIR (dead:Nat→Value) (h:Bool) (r e w o:List At):jI [0,8,9,12,13,14] [0,4,5,6,7] (exec Tryz.prog KA2 Zl 400 (.code (c1 (c1 (c2 (c2 (c2 (c2 (c2 (c2 (jk Tryz.prog 158)))))))))) (Kst.st ⟨[(0,A0),(8,PP 4),(9,PX 5),(12,PX 6),(13,PX 7)],(Qc h r e w o),8⟩ 147 dead []))=some (Ex.normal,[LV.v (V1.one (At.ptr 0 0)),LV.v (V1.one (At.ptr 4 0)),LV.v (V1.one (At.ptx 5 0)),LV.v (V1.one (At.ptx 6 0)),LV.v (V1.one (At.ptx 7 0)),LV.v (V1.one (At.int IntKind.i64 23))],(jlP h r e w o),[]):=by kernel_rfl
theorem mI (h:Bool) (r e w o:List At) (hr:AllI r 300) (he:AllI e 48) (hw:AllI w 1152) (ho:AllI o 300):∃ (h':Bool) (r' e' w' o':List At),AllI r' 300∧AllI e' 48∧AllI w' 1152∧AllI o' 300∧To Tryz.prog 147 (c1 (c1 (c2 (c2 (c2 (c2 (c2 (c2 (jk Tryz.prog 158))))))))) ⟨[(0,A0),(8,PP 4),(9,PX 5),(12,PX 6),(13,PX 7)],(Qc h r e w o),8⟩ .normal ⟨[(0,A0),(8,PP 4),(9,PX 5),(12,PX 6),(13,PX 7),(14,I 23)],(Qc h' r' e' w' o'),8⟩:=by
 refine ⟨(h),(r),(e),(w),(o),(by repeat' first | assumption | apply AllI.set),(by repeat' first | assumption | apply AllI.set),(by repeat' first | assumption | apply AllI.set),(by repeat' first | assumption | apply AllI.set),To.run (z:=Zl) j4 (slots:=[0,8,9,12,13,14]) (blks:=[0,4,5,6,7]) (vs:=[A0,PP 4,PX 5,PX 6,PX 7,I 23]) (bs:=(jiz (h) r e w o)) (nbB:=8) (fun dead=>mIR dead h r e w o) rfl rfl rfl ?_ (jr rfl (je (Nat.lt_of_sub_eq_succ rfl) rfl rfl (je (Nat.lt_of_sub_eq_succ rfl) (AllI.okb (n:=300) (by repeat' first | assumption | apply AllI.set) _) rfl (je (Nat.lt_of_sub_eq_succ rfl) (AllI.okb (n:=48) (by repeat' first | assumption | apply AllI.set) _) rfl (je (Nat.lt_of_sub_eq_succ rfl) (AllI.okb (n:=1152) (by repeat' first | assumption | apply AllI.set) _) rfl (je (Nat.lt_of_sub_eq_succ rfl) (AllI.okb (n:=300) (by repeat' first | assumption | apply AllI.set) _) rfl jU)))))) (Nat.le_refl _)⟩
 have lnr:=hr.len
 have lne:=he.len
 have lnw:=hw.len
 have lno:=ho.len
 repeat' first | exact jd | apply ja
theorem mAR (dead:Nat→Value) (h:Bool) (r e w o:List At) (j:Nat):jI [0,8,9,12,13,14] [0,4,5,6,7] (exec Tryz.prog KA2 Zl 400 (.code (c1 (c1 (c1 (c2 (c1 (c2 (c2 (c2 (c2 (c2 (c2 (jk Tryz.prog 158))))))))))))) (Kst.st ⟨[(0,A0),(8,PP 4),(9,PX 5),(12,PX 6),(13,PX 7),(14,IK j)],(Qc h r e w o),8⟩ 147 dead [some true]))=some (Ex.normal,[LV.v (V1.one (At.ptr 0 0)),LV.v (V1.one (At.ptr 4 0)),LV.v (V1.one (At.ptx 5 0)),LV.v (V1.one (At.ptx 6 0)),LV.v (V1.one (At.ptx 7 0)),LV.v (V1.one (At.int IntKind.i64 (j:Int)))],(jlP h r e w o),[(decide ((j:Int)≥0),true)]):=by kernel_rfl
theorem mA (h:Bool) (r e w o:List At) (j:Nat) (hr:AllI r 300) (he:AllI e 48) (hw:AllI w 1152) (ho:AllI o 300):∃ (h':Bool) (r' e' w' o':List At),AllI r' 300∧AllI e' 48∧AllI w' 1152∧AllI o' 300∧To Tryz.prog 147 (c1 (c1 (c1 (c2 (c1 (c2 (c2 (c2 (c2 (c2 (c2 (jk Tryz.prog 158)))))))))))) ⟨[(0,A0),(8,PP 4),(9,PX 5),(12,PX 6),(13,PX 7),(14,IK j)],(Qc h r e w o),8⟩ .normal ⟨[(0,A0),(8,PP 4),(9,PX 5),(12,PX 6),(13,PX 7),(14,IK j)],(Qc h' r' e' w' o'),8⟩:=by
 refine ⟨(h),(r),(e),(w),(o),(by repeat' first | assumption | apply AllI.set),(by repeat' first | assumption | apply AllI.set),(by repeat' first | assumption | apply AllI.set),(by repeat' first | assumption | apply AllI.set),To.run (z:=Zl) j4 (slots:=[0,8,9,12,13,14]) (blks:=[0,4,5,6,7]) (vs:=[A0,PP 4,PX 5,PX 6,PX 7,IK j]) (bs:=(jiz (h) r e w o)) (nbB:=8) (fun dead=>mAR dead h r e w o j) rfl rfl rfl ?_ (jr rfl (je (Nat.lt_of_sub_eq_succ rfl) rfl rfl (je (Nat.lt_of_sub_eq_succ rfl) (AllI.okb (n:=300) (by repeat' first | assumption | apply AllI.set) _) rfl (je (Nat.lt_of_sub_eq_succ rfl) (AllI.okb (n:=48) (by repeat' first | assumption | apply AllI.set) _) rfl (je (Nat.lt_of_sub_eq_succ rfl) (AllI.okb (n:=1152) (by repeat' first | assumption | apply AllI.set) _) rfl (je (Nat.lt_of_sub_eq_succ rfl) (AllI.okb (n:=300) (by repeat' first | assumption | apply AllI.set) _) rfl jU)))))) (Nat.le_refl _)⟩
 have lnr:=hr.len
 have lne:=he.len
 have lnw:=hw.len
 have lno:=ho.len
 repeat' first | exact jd | apply ja
 all_goals first
  | (simp only [Bool.and_eq_true,hr.part,hr.ok,he.part,he.ok,hw.part,hw.ok,ho.part,ho.ok,decide_eq_true_eq,true_and,and_true];omega)
theorem jEs (dead:Nat→Value) (h:Bool) (r e w o:List At):jI [0,8,9,12,13] [0,4,5,6,7] (exec Tryz.prog KA2 Zl 400 (.code (c1 (c1 (c2 (c1 (c2 (c2 (c2 (c2 (c2 (c2 (jk Tryz.prog 158)))))))))))) (Kst.st ⟨[(0,A0),(8,PP 4),(9,PX 5),(12,PX 6),(13,PX 7),(14,I (23 - ((24:Nat):Int)))],(Qc h r e w o),8⟩ 147 dead []))=some (Ex.exit 4,[LV.v (V1.one (At.ptr 0 0)),LV.v (V1.one (At.ptr 4 0)),LV.v (V1.one (At.ptx 5 0)),LV.v (V1.one (At.ptx 6 0)),LV.v (V1.one (At.ptx 7 0))],(jlP h r e w o),[]):=by kernel_rfl
theorem mAe (h:Bool) (r e w o:List At) (hr:AllI r 300) (he:AllI e 48) (hw:AllI w 1152) (ho:AllI o 300):∃ (h':Bool) (r' e' w' o':List At),AllI r' 300∧AllI e' 48∧AllI w' 1152∧AllI o' 300∧To Tryz.prog 147 (c1 (c1 (c2 (c1 (c2 (c2 (c2 (c2 (c2 (c2 (jk Tryz.prog 158))))))))))) ⟨[(0,A0),(8,PP 4),(9,PX 5),(12,PX 6),(13,PX 7),(14,I (23 - ((24:Nat):Int)))],(Qc h r e w o),8⟩ (.exit 4) ⟨[(0,A0),(8,PP 4),(9,PX 5),(12,PX 6),(13,PX 7)],(Qc h' r' e' w' o'),8⟩:=by
 refine ⟨(h),(r),(e),(w),(o),(by repeat' first | assumption | apply AllI.set),(by repeat' first | assumption | apply AllI.set),(by repeat' first | assumption | apply AllI.set),(by repeat' first | assumption | apply AllI.set),To.run (z:=Zl) j4 (slots:=[0,8,9,12,13]) (blks:=[0,4,5,6,7]) (vs:=[A0,PP 4,PX 5,PX 6,PX 7]) (bs:=(jiz (h) r e w o)) (nbB:=8) (fun dead=>jEs dead h r e w o) rfl rfl rfl ?_ (jr rfl (je (Nat.lt_of_sub_eq_succ rfl) rfl rfl (je (Nat.lt_of_sub_eq_succ rfl) (AllI.okb (n:=300) (by repeat' first | assumption | apply AllI.set) _) rfl (je (Nat.lt_of_sub_eq_succ rfl) (AllI.okb (n:=48) (by repeat' first | assumption | apply AllI.set) _) rfl (je (Nat.lt_of_sub_eq_succ rfl) (AllI.okb (n:=1152) (by repeat' first | assumption | apply AllI.set) _) rfl (je (Nat.lt_of_sub_eq_succ rfl) (AllI.okb (n:=300) (by repeat' first | assumption | apply AllI.set) _) rfl jU)))))) (Nat.le_refl _)⟩
 have lnr:=hr.len
 have lne:=he.len
 have lnw:=hw.len
 have lno:=ho.len
 repeat' first | exact jd | apply ja
theorem mBR (dead:Nat→Value) (h:Bool) (r e w o:List At) (j:Nat):jI [0,8,9,12,13,14,15] [0,4,5,6,7,8] (exec Tryz.prog KA2 Zl 400 (.code (c1 (c1 (c1 (c2 (c1 (c1 (c2 (c1 (c2 (c2 (c2 (c2 (c2 (c2 (jk Tryz.prog 158)))))))))))))))) (Kst.st ⟨[(0,A0),(8,PP 4),(9,PX 5),(12,PX 6),(13,PX 7),(14,IK j)],(Qc h r e w o),8⟩ 147 dead []))=some (Ex.normal,[LV.v (V1.one (At.ptr 0 0)),LV.v (V1.one (At.ptr 4 0)),LV.v (V1.one (At.ptx 5 0)),LV.v (V1.one (At.ptx 6 0)),LV.v (V1.one (At.ptx 7 0)),LV.v (V1.one (At.int IntKind.i64 (j:Int))),LV.v (V1.one (At.ptr 8 0))],[some { ty:=61,fr:=(0,0),es:=0,cells:=[At.bool h] },some { ty:=56,fr:=(0,0),es:=0,cells:=r },some { ty:=308,fr:=(0,0),es:=0,cells:=e },some { ty:=351,fr:=(0,0),es:=0,cells:=w },some { ty:=56,fr:=(0,0),es:=0,cells:=o },some ⟨308,(0,0),0,zc 308⟩],[]):=by kernel_rfl
theorem mB (h:Bool) (r e w o:List At) (j:Nat) (hr:AllI r 300) (he:AllI e 48) (hw:AllI w 1152) (ho:AllI o 300):∃ (h':Bool) (r' e' w' o' y':List At),AllI r' 300∧AllI e' 48∧AllI w' 1152∧AllI o' 300∧AllI y' 48∧To Tryz.prog 147 (c1 (c1 (c1 (c2 (c1 (c1 (c2 (c1 (c2 (c2 (c2 (c2 (c2 (c2 (jk Tryz.prog 158))))))))))))))) ⟨[(0,A0),(8,PP 4),(9,PX 5),(12,PX 6),(13,PX 7),(14,IK j)],(Qc h r e w o),8⟩ .normal ⟨[(0,A0),(8,PP 4),(9,PX 5),(12,PX 6),(13,PX 7),(14,IK j),(15,PP 8)],(kr h' r' e' w' o' y'),9⟩:=by
 refine ⟨(h),(r),(e),(w),(o),(zc 308),(by repeat' first | assumption | apply AllI.set),(by repeat' first | assumption | apply AllI.set),(by repeat' first | assumption | apply AllI.set),(by repeat' first | assumption | apply AllI.set),(by repeat' first | assumption | apply AllI.set | exact AllI.ints _ _ _ | exact AllI.mkF _ _ _ | exact jdU | exact Ze | exact jiA | exact yZ),To.run (z:=Zl) j4 (slots:=[0,8,9,12,13,14,15]) (blks:=[0,4,5,6,7,8]) (vs:=[A0,PP 4,PX 5,PX 6,PX 7,IK j,PP 8]) (bs:=(Ka (h) r e w o (zc 308))) (nbB:=9) (fun dead=>mBR dead h r e w o j) rfl rfl rfl ?_ (jr rfl (je (Nat.lt_of_sub_eq_succ rfl) rfl rfl (je (Nat.lt_of_sub_eq_succ rfl) (AllI.okb (n:=300) (by repeat' first | assumption | apply AllI.set) _) rfl (je (Nat.lt_of_sub_eq_succ rfl) (AllI.okb (n:=48) (by repeat' first | assumption | apply AllI.set) _) rfl (je (Nat.lt_of_sub_eq_succ rfl) (AllI.okb (n:=1152) (by repeat' first | assumption | apply AllI.set) _) rfl (je (Nat.lt_of_sub_eq_succ rfl) (AllI.okb (n:=300) (by repeat' first | assumption | apply AllI.set) _) rfl (je (Nat.lt_of_sub_eq_succ rfl) (AllI.okb (n:=48) (by repeat' first | assumption | apply AllI.set | exact AllI.ints _ _ _ | exact AllI.mkF _ _ _ | exact jdU | exact Ze | exact jiA | exact yZ) _) rfl jU))))))) (Nat.le_of_ble_eq_true rfl)⟩
 have lnr:=hr.len
 have lne:=he.len
 have lnw:=hw.len
 have lno:=ho.len
 repeat' first | exact jd | apply ja
theorem mCR (dead:Nat→Value) (h:Bool) (r e w o y:List At) (j:Nat):jI [0,8,9,12,13,14,15,64] [0,4,5,6,7,8] (exec Tryz.prog KA2 Zl 400 (.code (c1 (c1 (c2 (c1 (c1 (c2 (c1 (c1 (c2 (c1 (c2 (c2 (c2 (c2 (c2 (c2 (jk Tryz.prog 158)))))))))))))))))) (Kst.st ⟨[(0,A0),(8,PP 4),(9,PX 5),(12,PX 6),(13,PX 7),(14,IK j),(15,PX 8)],(kr h r e w o y),9⟩ 147 dead []))=some (Ex.normal,[LV.v (V1.one (At.ptr 0 0)),LV.v (V1.one (At.ptr 4 0)),LV.v (V1.one (At.ptx 5 0)),LV.v (V1.one (At.ptx 6 0)),LV.v (V1.one (At.ptx 7 0)),LV.v (V1.one (At.int IntKind.i64 (j:Int))),LV.v (V1.one (At.ptx 8 0)),LV.v (V1.one (At.int IntKind.i64 0))],(KA h r e w o y),[]):=by kernel_rfl
theorem mC (h:Bool) (r e w o y:List At) (j:Nat) (hr:AllI r 300) (he:AllI e 48) (hw:AllI w 1152) (ho:AllI o 300) (hy:AllI y 48):∃ (h':Bool) (r' e' w' o' y':List At),AllI r' 300∧AllI e' 48∧AllI w' 1152∧AllI o' 300∧AllI y' 48∧To Tryz.prog 147 (c1 (c1 (c2 (c1 (c1 (c2 (c1 (c1 (c2 (c1 (c2 (c2 (c2 (c2 (c2 (c2 (jk Tryz.prog 158))))))))))))))))) ⟨[(0,A0),(8,PP 4),(9,PX 5),(12,PX 6),(13,PX 7),(14,IK j),(15,PX 8)],(kr h r e w o y),9⟩ .normal ⟨[(0,A0),(8,PP 4),(9,PX 5),(12,PX 6),(13,PX 7),(14,IK j),(15,PX 8),(64,IK 0)],(kr h' r' e' w' o' y'),9⟩:=by
 refine ⟨(h),(r),(e),(w),(o),(y),(by repeat' first | assumption | apply AllI.set),(by repeat' first | assumption | apply AllI.set),(by repeat' first | assumption | apply AllI.set),(by repeat' first | assumption | apply AllI.set),(by repeat' first | assumption | apply AllI.set),To.run (z:=Zl) j4 (slots:=[0,8,9,12,13,14,15,64]) (blks:=[0,4,5,6,7,8]) (vs:=[A0,PP 4,PX 5,PX 6,PX 7,IK j,PX 8,IK 0]) (bs:=(Ka (h) r e w o y)) (nbB:=9) (fun dead=>mCR dead h r e w o y j) rfl rfl rfl ?_ (jr rfl (je (Nat.lt_of_sub_eq_succ rfl) rfl rfl (je (Nat.lt_of_sub_eq_succ rfl) (AllI.okb (n:=300) (by repeat' first | assumption | apply AllI.set) _) rfl (je (Nat.lt_of_sub_eq_succ rfl) (AllI.okb (n:=48) (by repeat' first | assumption | apply AllI.set) _) rfl (je (Nat.lt_of_sub_eq_succ rfl) (AllI.okb (n:=1152) (by repeat' first | assumption | apply AllI.set) _) rfl (je (Nat.lt_of_sub_eq_succ rfl) (AllI.okb (n:=300) (by repeat' first | assumption | apply AllI.set) _) rfl (je (Nat.lt_of_sub_eq_succ rfl) (AllI.okb (n:=48) (by repeat' first | assumption | apply AllI.set) _) rfl jU))))))) (Nat.le_refl _)⟩
 have lnr:=hr.len
 have lne:=he.len
 have lnw:=hw.len
 have lno:=ho.len
 have lny:=hy.len
 repeat' first | exact jd | apply ja
theorem mDR (dead:Nat→Value) (h:Bool) (r e w o y:List At) (j m:Nat):jI [0,8,9,12,13,14,15,64] [0,4,5,6,7,8] (exec Tryz.prog KA2 Zl 400 (.code (c1 (c1 (c2 (c1 (c2 (c1 (c1 (c2 (c1 (c1 (c2 (c1 (c2 (c2 (c2 (c2 (c2 (c2 (jk Tryz.prog 158)))))))))))))))))))) (Kst.st ⟨[(0,A0),(8,PP 4),(9,PX 5),(12,PX 6),(13,PX 7),(14,IK j),(15,PX 8),(64,IK m)],(kr h r e w o y),9⟩ 147 dead [some true]))=some (Ex.normal,[LV.v (V1.one (At.ptr 0 0)),LV.v (V1.one (At.ptr 4 0)),LV.v (V1.one (At.ptx 5 0)),LV.v (V1.one (At.ptx 6 0)),LV.v (V1.one (At.ptx 7 0)),LV.v (V1.one (At.int IntKind.i64 (j:Int))),LV.v (V1.one (At.ptx 8 0)),LV.v (V1.one (At.int IntKind.i64 (wr IntKind.i64 ((m:Int)+1))))],(KA (h||Xn (jo w (0+(j:Int).toNat*48+(m:Int).toNat*1)) (jo e (0+(m:Int).toNat*1)) 30) r e w o ((List.set y) (0+(m:Int).toNat*1) (At.int IntKind.i64 (ko (jo w (0+(j:Int).toNat*48+(m:Int).toNat*1)) (jo e (0+(m:Int).toNat*1)) 30)))),[(decide (0+(m:Int).toNat*1<y.length),true),(decide (0≤(m:Int))&&decide ((m:Int)<48),true),(isIntAt IntKind.i64 e (0+(m:Int).toNat*1),true),(decide (0≤(m:Int))&&decide ((m:Int)<48),true),(isIntAt IntKind.i64 w (0+(j:Int).toNat*48+(m:Int).toNat*1),true),(decide (0≤(m:Int))&&decide ((m:Int)<48),true),(decide (0≤(j:Int))&&decide ((j:Int)<24),true),(decide ((m:Int)<48),true)]):=by kernel_rfl
theorem mD (h:Bool) (r e w o y:List At) (j m:Nat) (hr:AllI r 300) (he:AllI e 48) (hw:AllI w 1152) (ho:AllI o 300) (hy:AllI y 48) (hj:j<24) (hm:m<48):∃ (h':Bool) (r' e' w' o' y':List At),AllI r' 300∧AllI e' 48∧AllI w' 1152∧AllI o' 300∧AllI y' 48∧To Tryz.prog 147 (c1 (c1 (c2 (c1 (c2 (c1 (c1 (c2 (c1 (c1 (c2 (c1 (c2 (c2 (c2 (c2 (c2 (c2 (jk Tryz.prog 158))))))))))))))))))) ⟨[(0,A0),(8,PP 4),(9,PX 5),(12,PX 6),(13,PX 7),(14,IK j),(15,PX 8),(64,IK m)],(kr h r e w o y),9⟩ .normal ⟨[(0,A0),(8,PP 4),(9,PX 5),(12,PX 6),(13,PX 7),(14,IK j),(15,PX 8),(64,IK (m+1))],(kr h' r' e' w' o' y'),9⟩:=by
 refine ⟨((h||Xn (jo w (0+(j:Int).toNat*48+(m:Int).toNat*1)) (jo e (0+(m:Int).toNat*1)) 30)),(r),(e),(w),(o),((List.set y) (0+(m:Int).toNat*1) (At.int IntKind.i64 (ko (jo w (0+(j:Int).toNat*48+(m:Int).toNat*1)) (jo e (0+(m:Int).toNat*1)) 30))),(by repeat' first | assumption | apply AllI.set),(by repeat' first | assumption | apply AllI.set),(by repeat' first | assumption | apply AllI.set),(by repeat' first | assumption | apply AllI.set),(by repeat' first | assumption | apply AllI.set),To.run (z:=Zl) j4 (slots:=[0,8,9,12,13,14,15,64]) (blks:=[0,4,5,6,7,8]) (vs:=[A0,PP 4,PX 5,PX 6,PX 7,IK j,PX 8,IK (m+1)]) (bs:=(Ka ((h||Xn (jo w (0+(j:Int).toNat*48+(m:Int).toNat*1)) (jo e (0+(m:Int).toNat*1)) 30)) r e w o ((List.set y) (0+(m:Int).toNat*1) (At.int IntKind.i64 (ko (jo w (0+(j:Int).toNat*48+(m:Int).toNat*1)) (jo e (0+(m:Int).toNat*1)) 30))))) (nbB:=9) (fun dead=>mDR dead h r e w o y j m) rfl (by rw [wk m (by omega)];rfl) rfl ?_ (jr rfl (je (Nat.lt_of_sub_eq_succ rfl) rfl rfl (je (Nat.lt_of_sub_eq_succ rfl) (AllI.okb (n:=300) (by repeat' first | assumption | apply AllI.set) _) rfl (je (Nat.lt_of_sub_eq_succ rfl) (AllI.okb (n:=48) (by repeat' first | assumption | apply AllI.set) _) rfl (je (Nat.lt_of_sub_eq_succ rfl) (AllI.okb (n:=1152) (by repeat' first | assumption | apply AllI.set) _) rfl (je (Nat.lt_of_sub_eq_succ rfl) (AllI.okb (n:=300) (by repeat' first | assumption | apply AllI.set) _) rfl (je (Nat.lt_of_sub_eq_succ rfl) (AllI.okb (n:=48) (by repeat' first | assumption | apply AllI.set) _) rfl jU))))))) (Nat.le_refl _)⟩
 have lnr:=hr.len
 have lne:=he.len
 have lnw:=hw.len
 have lno:=ho.len
 have lny:=hy.len
 repeat' first | exact jd | apply ja
 all_goals first
  | (with_reducible refine AllI.ats (by assumption) _ ?_;simp only [Int.toNat_natCast];omega)
  | (simp only [Bool.and_eq_true,hr.part,hr.ok,he.part,he.ok,hw.part,hw.ok,ho.part,ho.ok,hy.part,hy.ok,decide_eq_true_eq,true_and,and_true];omega)
theorem jEt (dead:Nat→Value) (h:Bool) (r e w o y:List At) (j:Nat):jI [0,8,9,12,13,14,15] [0,4,5,6,7,8] (exec Tryz.prog KA2 Zl 400 (.code (c1 (c1 (c2 (c1 (c2 (c1 (c1 (c2 (c1 (c1 (c2 (c1 (c2 (c2 (c2 (c2 (c2 (c2 (jk Tryz.prog 158)))))))))))))))))))) (Kst.st ⟨[(0,A0),(8,PP 4),(9,PX 5),(12,PX 6),(13,PX 7),(14,IK j),(15,PX 8),(64,IK 48)],(kr h r e w o y),9⟩ 147 dead []))=some (Ex.exit 6,[LV.v (V1.one (At.ptr 0 0)),LV.v (V1.one (At.ptr 4 0)),LV.v (V1.one (At.ptx 5 0)),LV.v (V1.one (At.ptx 6 0)),LV.v (V1.one (At.ptx 7 0)),LV.v (V1.one (At.int IntKind.i64 (j:Int))),LV.v (V1.one (At.ptx 8 0))],(KA h r e w o y),[]):=by kernel_rfl
theorem mDe (h:Bool) (r e w o y:List At) (j:Nat) (hr:AllI r 300) (he:AllI e 48) (hw:AllI w 1152) (ho:AllI o 300) (hy:AllI y 48):∃ (h':Bool) (r' e' w' o' y':List At),AllI r' 300∧AllI e' 48∧AllI w' 1152∧AllI o' 300∧AllI y' 48∧To Tryz.prog 147 (c1 (c1 (c2 (c1 (c2 (c1 (c1 (c2 (c1 (c1 (c2 (c1 (c2 (c2 (c2 (c2 (c2 (c2 (jk Tryz.prog 158))))))))))))))))))) ⟨[(0,A0),(8,PP 4),(9,PX 5),(12,PX 6),(13,PX 7),(14,IK j),(15,PX 8),(64,IK 48)],(kr h r e w o y),9⟩ (.exit 6) ⟨[(0,A0),(8,PP 4),(9,PX 5),(12,PX 6),(13,PX 7),(14,IK j),(15,PX 8)],(kr h' r' e' w' o' y'),9⟩:=by
 refine ⟨(h),(r),(e),(w),(o),(y),(by repeat' first | assumption | apply AllI.set),(by repeat' first | assumption | apply AllI.set),(by repeat' first | assumption | apply AllI.set),(by repeat' first | assumption | apply AllI.set),(by repeat' first | assumption | apply AllI.set),To.run (z:=Zl) j4 (slots:=[0,8,9,12,13,14,15]) (blks:=[0,4,5,6,7,8]) (vs:=[A0,PP 4,PX 5,PX 6,PX 7,IK j,PX 8]) (bs:=(Ka (h) r e w o y)) (nbB:=9) (fun dead=>jEt dead h r e w o y j) rfl rfl rfl ?_ (jr rfl (je (Nat.lt_of_sub_eq_succ rfl) rfl rfl (je (Nat.lt_of_sub_eq_succ rfl) (AllI.okb (n:=300) (by repeat' first | assumption | apply AllI.set) _) rfl (je (Nat.lt_of_sub_eq_succ rfl) (AllI.okb (n:=48) (by repeat' first | assumption | apply AllI.set) _) rfl (je (Nat.lt_of_sub_eq_succ rfl) (AllI.okb (n:=1152) (by repeat' first | assumption | apply AllI.set) _) rfl (je (Nat.lt_of_sub_eq_succ rfl) (AllI.okb (n:=300) (by repeat' first | assumption | apply AllI.set) _) rfl (je (Nat.lt_of_sub_eq_succ rfl) (AllI.okb (n:=48) (by repeat' first | assumption | apply AllI.set) _) rfl jU))))))) (Nat.le_refl _)⟩
 have lnr:=hr.len
 have lne:=he.len
 have lnw:=hw.len
 have lno:=ho.len
 have lny:=hy.len
 repeat' first | exact jd | apply ja
theorem mER (dead:Nat→Value) (h:Bool) (r e w o y:List At) (j:Nat):jI [0,8,9,12,13,14,15,17] [0,4,5,6,7,8] (exec Tryz.prog KA2 Zl 400 (.code (c1 (c2 (c2 (c1 (c1 (c2 (c1 (c1 (c2 (c1 (c2 (c2 (c2 (c2 (c2 (c2 (jk Tryz.prog 158)))))))))))))))))) (Kst.st ⟨[(0,A0),(8,PP 4),(9,PX 5),(12,PX 6),(13,PX 7),(14,IK j),(15,PX 8)],(kr h r e w o y),9⟩ 147 dead []))=some (Ex.normal,[LV.v (V1.one (At.ptr 0 0)),LV.v (V1.one (At.ptr 4 0)),LV.v (V1.one (At.ptx 5 0)),LV.v (V1.one (At.ptx 6 0)),LV.v (V1.one (At.ptx 7 0)),LV.v (V1.one (At.int IntKind.i64 (j:Int))),LV.v (V1.one (At.ptx 8 0)),LV.v (V1.one (At.int IntKind.i64 (jw (qP 30 (kQ (List.take ((48 - 0)*1) (List.drop (0+(j:Int).toNat*48+0*1) w))) (kQ (List.take ((48 - 0)*1) (List.drop (0+0*1) y)))) 1 72057594037927936)))],(KA (h||yz 30 (kQ (List.take ((48 - 0)*1) (List.drop (0+(j:Int).toNat*48+0*1) w))) (kQ (List.take ((48 - 0)*1) (List.drop (0+0*1) y)))||jF (qP 30 (kQ (List.take ((48 - 0)*1) (List.drop (0+(j:Int).toNat*48+0*1) w))) (kQ (List.take ((48 - 0)*1) (List.drop (0+0*1) y)))) 1 72057594037927936) r e w o y),[(qJ (List.take ((48 - 0)*1) (List.drop (0+(j:Int).toNat*48+0*1) w))&&(okL noP w&&(decide (0+(j:Int).toNat*48+0*1+(48 - 0)*1≤w.length)&&true)),true),(qJ (List.take ((48 - 0)*1) (List.drop (0+0*1) y))&&(okL noP y&&(decide (0+0*1+(48 - 0)*1≤y.length)&&true)),true),(decide (0≤(j:Int))&&decide ((j:Int)<24),true)]):=by kernel_rfl
theorem mE (h:Bool) (r e w o y:List At) (j:Nat) (hr:AllI r 300) (he:AllI e 48) (hw:AllI w 1152) (ho:AllI o 300) (hy:AllI y 48) (hj:j<24):∃(d:Int) (h':Bool) (r' e' w' o' y':List At),AllI r' 300∧AllI e' 48∧AllI w' 1152∧AllI o' 300∧AllI y' 48∧To Tryz.prog 147 (c1 (c2 (c2 (c1 (c1 (c2 (c1 (c1 (c2 (c1 (c2 (c2 (c2 (c2 (c2 (c2 (jk Tryz.prog 158))))))))))))))))) ⟨[(0,A0),(8,PP 4),(9,PX 5),(12,PX 6),(13,PX 7),(14,IK j),(15,PX 8)],(kr h r e w o y),9⟩ .normal ⟨[(0,A0),(8,PP 4),(9,PX 5),(12,PX 6),(13,PX 7),(14,IK j),(15,PX 8),(17,I d)],(kr h' r' e' w' o' y'),9⟩:=by
 refine ⟨((jw (qP 30 (kQ (List.take ((48 - 0)*1) (List.drop (0+(j:Int).toNat*48+0*1) w))) (kQ (List.take ((48 - 0)*1) (List.drop (0+0*1) y)))) 1 72057594037927936)),((h||yz 30 (kQ (List.take ((48 - 0)*1) (List.drop (0+(j:Int).toNat*48+0*1) w))) (kQ (List.take ((48 - 0)*1) (List.drop (0+0*1) y)))||jF (qP 30 (kQ (List.take ((48 - 0)*1) (List.drop (0+(j:Int).toNat*48+0*1) w))) (kQ (List.take ((48 - 0)*1) (List.drop (0+0*1) y)))) 1 72057594037927936)),(r),(e),(w),(o),(y),(by repeat' first | assumption | apply AllI.set),(by repeat' first | assumption | apply AllI.set),(by repeat' first | assumption | apply AllI.set),(by repeat' first | assumption | apply AllI.set),(by repeat' first | assumption | apply AllI.set),To.run (z:=Zl) j4 (slots:=[0,8,9,12,13,14,15,17]) (blks:=[0,4,5,6,7,8]) (vs:=[A0,PP 4,PX 5,PX 6,PX 7,IK j,PX 8,I ((jw (qP 30 (kQ (List.take ((48 - 0)*1) (List.drop (0+(j:Int).toNat*48+0*1) w))) (kQ (List.take ((48 - 0)*1) (List.drop (0+0*1) y)))) 1 72057594037927936))]) (bs:=(Ka ((h||yz 30 (kQ (List.take ((48 - 0)*1) (List.drop (0+(j:Int).toNat*48+0*1) w))) (kQ (List.take ((48 - 0)*1) (List.drop (0+0*1) y)))||jF (qP 30 (kQ (List.take ((48 - 0)*1) (List.drop (0+(j:Int).toNat*48+0*1) w))) (kQ (List.take ((48 - 0)*1) (List.drop (0+0*1) y)))) 1 72057594037927936)) r e w o y)) (nbB:=9) (fun dead=>mER dead h r e w o y j) rfl rfl rfl ?_ (jr rfl (je (Nat.lt_of_sub_eq_succ rfl) rfl rfl (je (Nat.lt_of_sub_eq_succ rfl) (AllI.okb (n:=300) (by repeat' first | assumption | apply AllI.set) _) rfl (je (Nat.lt_of_sub_eq_succ rfl) (AllI.okb (n:=48) (by repeat' first | assumption | apply AllI.set) _) rfl (je (Nat.lt_of_sub_eq_succ rfl) (AllI.okb (n:=1152) (by repeat' first | assumption | apply AllI.set) _) rfl (je (Nat.lt_of_sub_eq_succ rfl) (AllI.okb (n:=300) (by repeat' first | assumption | apply AllI.set) _) rfl (je (Nat.lt_of_sub_eq_succ rfl) (AllI.okb (n:=48) (by repeat' first | assumption | apply AllI.set) _) rfl jU))))))) (Nat.le_refl _)⟩
 have lnr:=hr.len
 have lne:=he.len
 have lnw:=hw.len
 have lno:=ho.len
 have lny:=hy.len
 repeat' first | exact jd | apply ja
 all_goals first
  | (simp only [Bool.and_eq_true,hr.part,hr.ok,he.part,he.ok,hw.part,hw.ok,ho.part,ho.ok,hy.part,hy.ok,decide_eq_true_eq,true_and,and_true];omega)
theorem mFR (dead:Nat→Value) (h:Bool) (r e w o y:List At) (j:Nat) (d:Int):jI [0,8,9,12,13,14,15,17] [0,4,5,6,7,8] (exec Tryz.prog KA2 Zl 400 (.code (c1 (c2 (c2 (c2 (c1 (c1 (c2 (c1 (c1 (c2 (c1 (c2 (c2 (c2 (c2 (c2 (c2 (jk Tryz.prog 158))))))))))))))))))) (Kst.st ⟨[(0,A0),(8,PP 4),(9,PX 5),(12,PX 6),(13,PX 7),(14,IK j),(15,PX 8),(17,I d)],(kr h r e w o y),9⟩ 147 dead []))=some (Ex.normal,[LV.v (V1.one (At.ptr 0 0)),LV.v (V1.one (At.ptr 4 0)),LV.v (V1.one (At.ptx 5 0)),LV.v (V1.one (At.ptx 6 0)),LV.v (V1.one (At.ptx 7 0)),LV.v (V1.one (At.int IntKind.i64 (j:Int))),LV.v (V1.one (At.ptx 8 0)),LV.v (V1.one (At.int IntKind.i64 d))],(KA h r e w ((List.set o) (0+276+(j:Int).toNat*1) (At.int IntKind.i64 d)) y),[(decide (0+276+(j:Int).toNat*1<o.length),true),(decide (0≤(j:Int))&&decide ((j:Int)<24),true)]):=by kernel_rfl
theorem mF (h:Bool) (r e w o y:List At) (j:Nat) (d:Int) (hr:AllI r 300) (he:AllI e 48) (hw:AllI w 1152) (ho:AllI o 300) (hy:AllI y 48) (hj:j<24):∃ (h':Bool) (r' e' w' o' y':List At),AllI r' 300∧AllI e' 48∧AllI w' 1152∧AllI o' 300∧AllI y' 48∧To Tryz.prog 147 (c1 (c2 (c2 (c2 (c1 (c1 (c2 (c1 (c1 (c2 (c1 (c2 (c2 (c2 (c2 (c2 (c2 (jk Tryz.prog 158)))))))))))))))))) ⟨[(0,A0),(8,PP 4),(9,PX 5),(12,PX 6),(13,PX 7),(14,IK j),(15,PX 8),(17,I d)],(kr h r e w o y),9⟩ .normal ⟨[(0,A0),(8,PP 4),(9,PX 5),(12,PX 6),(13,PX 7),(14,IK j),(15,PX 8),(17,I d)],(kr h' r' e' w' o' y'),9⟩:=by
 refine ⟨(h),(r),(e),(w),((List.set o) (0+276+(j:Int).toNat*1) (At.int IntKind.i64 d)),(y),(by repeat' first | assumption | apply AllI.set),(by repeat' first | assumption | apply AllI.set),(by repeat' first | assumption | apply AllI.set),(by repeat' first | assumption | apply AllI.set),(by repeat' first | assumption | apply AllI.set),To.run (z:=Zl) j4 (slots:=[0,8,9,12,13,14,15,17]) (blks:=[0,4,5,6,7,8]) (vs:=[A0,PP 4,PX 5,PX 6,PX 7,IK j,PX 8,I d]) (bs:=(Ka (h) r e w ((List.set o) (0+276+(j:Int).toNat*1) (At.int IntKind.i64 d)) y)) (nbB:=9) (fun dead=>mFR dead h r e w o y j d) rfl rfl rfl ?_ (jr rfl (je (Nat.lt_of_sub_eq_succ rfl) rfl rfl (je (Nat.lt_of_sub_eq_succ rfl) (AllI.okb (n:=300) (by repeat' first | assumption | apply AllI.set) _) rfl (je (Nat.lt_of_sub_eq_succ rfl) (AllI.okb (n:=48) (by repeat' first | assumption | apply AllI.set) _) rfl (je (Nat.lt_of_sub_eq_succ rfl) (AllI.okb (n:=1152) (by repeat' first | assumption | apply AllI.set) _) rfl (je (Nat.lt_of_sub_eq_succ rfl) (AllI.okb (n:=300) (by repeat' first | assumption | apply AllI.set) _) rfl (je (Nat.lt_of_sub_eq_succ rfl) (AllI.okb (n:=48) (by repeat' first | assumption | apply AllI.set) _) rfl jU))))))) (Nat.le_refl _)⟩
 have lnr:=hr.len
 have lne:=he.len
 have lnw:=hw.len
 have lno:=ho.len
 have lny:=hy.len
 repeat' first | exact jd | apply ja
 all_goals first
  | (simp only [Bool.and_eq_true,hr.part,hr.ok,he.part,he.ok,hw.part,hw.ok,ho.part,ho.ok,hy.part,hy.ok,decide_eq_true_eq,true_and,and_true];omega)
theorem mGR (dead:Nat→Value) (h:Bool) (r e w o y:List At) (j:Nat) (d:Int):jI [0,8,9,12,13,14,15,17,96,97] [0,4,5,6,7,8] (exec Tryz.prog KA2 Zl 400 (.code (c1 (c2 (c2 (c2 (c2 (c1 (c1 (c2 (c1 (c1 (c2 (c1 (c2 (c2 (c2 (c2 (c2 (c2 (jk Tryz.prog 158)))))))))))))))))))) (Kst.st ⟨[(0,A0),(8,PP 4),(9,PX 5),(12,PX 6),(13,PX 7),(14,IK j),(15,PX 8),(17,I d)],(kr h r e w o y),9⟩ 147 dead []))=some (Ex.normal,[LV.v (V1.one (At.ptr 0 0)),LV.v (V1.one (At.ptr 4 0)),LV.v (V1.one (At.ptx 5 0)),LV.v (V1.one (At.ptx 6 0)),LV.v (V1.one (At.ptx 7 0)),LV.v (V1.one (At.int IntKind.i64 (j:Int))),LV.v (V1.one (At.ptx 8 0)),LV.v (V1.one (At.int IntKind.i64 d)),LV.v (V1.one (At.int IntKind.i64 (j:Int))),LV.v (V1.one (At.int IntKind.i64 0))],(KA h r e w o y),[]):=by kernel_rfl
theorem mG (h:Bool) (r e w o y:List At) (j:Nat) (d:Int) (hr:AllI r 300) (he:AllI e 48) (hw:AllI w 1152) (ho:AllI o 300) (hy:AllI y 48):∃ (h':Bool) (r' e' w' o' y':List At),AllI r' 300∧AllI e' 48∧AllI w' 1152∧AllI o' 300∧AllI y' 48∧To Tryz.prog 147 (c1 (c2 (c2 (c2 (c2 (c1 (c1 (c2 (c1 (c1 (c2 (c1 (c2 (c2 (c2 (c2 (c2 (c2 (jk Tryz.prog 158))))))))))))))))))) ⟨[(0,A0),(8,PP 4),(9,PX 5),(12,PX 6),(13,PX 7),(14,IK j),(15,PX 8),(17,I d)],(kr h r e w o y),9⟩ .normal ⟨[(0,A0),(8,PP 4),(9,PX 5),(12,PX 6),(13,PX 7),(14,IK j),(15,PX 8),(17,I d),(96,IK j),(97,IK 0)],(kr h' r' e' w' o' y'),9⟩:=by
 refine ⟨(h),(r),(e),(w),(o),(y),(by repeat' first | assumption | apply AllI.set),(by repeat' first | assumption | apply AllI.set),(by repeat' first | assumption | apply AllI.set),(by repeat' first | assumption | apply AllI.set),(by repeat' first | assumption | apply AllI.set),To.run (z:=Zl) j4 (slots:=[0,8,9,12,13,14,15,17,96,97]) (blks:=[0,4,5,6,7,8]) (vs:=[A0,PP 4,PX 5,PX 6,PX 7,IK j,PX 8,I d,IK j,IK 0]) (bs:=(Ka (h) r e w o y)) (nbB:=9) (fun dead=>mGR dead h r e w o y j d) rfl rfl rfl ?_ (jr rfl (je (Nat.lt_of_sub_eq_succ rfl) rfl rfl (je (Nat.lt_of_sub_eq_succ rfl) (AllI.okb (n:=300) (by repeat' first | assumption | apply AllI.set) _) rfl (je (Nat.lt_of_sub_eq_succ rfl) (AllI.okb (n:=48) (by repeat' first | assumption | apply AllI.set) _) rfl (je (Nat.lt_of_sub_eq_succ rfl) (AllI.okb (n:=1152) (by repeat' first | assumption | apply AllI.set) _) rfl (je (Nat.lt_of_sub_eq_succ rfl) (AllI.okb (n:=300) (by repeat' first | assumption | apply AllI.set) _) rfl (je (Nat.lt_of_sub_eq_succ rfl) (AllI.okb (n:=48) (by repeat' first | assumption | apply AllI.set) _) rfl jU))))))) (Nat.le_refl _)⟩
 have lnr:=hr.len
 have lne:=he.len
 have lnw:=hw.len
 have lno:=ho.len
 have lny:=hy.len
 repeat' first | exact jd | apply ja
theorem iAR (dead:Nat→Value) (h:Bool) (r e w o y:List At) (j i:Nat) (d:Int):jI [0,8,9,12,13,14,15,17,96,97] [0,4,5,6,7,8] (xA Tryz.prog KA2 Zl 400 (kV 2 (c1 (c1 (c2 (c2 (c2 (c2 (c2 (c1 (c1 (c2 (c1 (c1 (c2 (c1 (c2 (c2 (c2 (c2 (c2 (c2 (jk Tryz.prog 158)))))))))))))))))))))) (Kst.st ⟨[(0,A0),(8,PP 4),(9,PX 5),(12,PX 6),(13,PX 7),(14,IK j),(15,PX 8),(17,I d),(96,IK j),(97,IK i)],(kr h r e w o y),9⟩ 147 dead [some true]))=some (Ex.normal,[LV.v (V1.one (At.ptr 0 0)),LV.v (V1.one (At.ptr 4 0)),LV.v (V1.one (At.ptx 5 0)),LV.v (V1.one (At.ptx 6 0)),LV.v (V1.one (At.ptx 7 0)),LV.v (V1.one (At.int IntKind.i64 (j:Int))),LV.v (V1.one (At.ptx 8 0)),LV.v (V1.one (At.int IntKind.i64 d)),LV.v (V1.one (At.int IntKind.i64 (j:Int))),LV.v (V1.one (At.int IntKind.i64 (i:Int)))],(KA h r e w o y),[(decide ((i:Int)<(j:Int)),true)]):=by kernel_rfl
theorem iA (h:Bool) (r e w o y:List At) (j i:Nat) (d:Int) (hr:AllI r 300) (he:AllI e 48) (hw:AllI w 1152) (ho:AllI o 300) (hy:AllI y 48) (hi:i<j):∃ (h':Bool) (r' e' w' o' y':List At),AllI r' 300∧AllI e' 48∧AllI w' 1152∧AllI o' 300∧AllI y' 48∧∀(ee:Ex) (CC:Kst),To Tryz.prog 147 (qE 2 (c1 (c1 (c2 (c2 (c2 (c2 (c2 (c1 (c1 (c2 (c1 (c1 (c2 (c1 (c2 (c2 (c2 (c2 (c2 (c2 (jk Tryz.prog 158)))))))))))))))))))))) ⟨[(0,A0),(8,PP 4),(9,PX 5),(12,PX 6),(13,PX 7),(14,IK j),(15,PX 8),(17,I d),(96,IK j),(97,IK i)],(kr h' r' e' w' o' y'),9⟩ ee CC→To Tryz.prog 147 (c1 (c1 (c2 (c2 (c2 (c2 (c2 (c1 (c1 (c2 (c1 (c1 (c2 (c1 (c2 (c2 (c2 (c2 (c2 (c2 (jk Tryz.prog 158))))))))))))))))))))) ⟨[(0,A0),(8,PP 4),(9,PX 5),(12,PX 6),(13,PX 7),(14,IK j),(15,PX 8),(17,I d),(96,IK j),(97,IK i)],(kr h r e w o y),9⟩ ee CC:=by
 refine ⟨(h),(r),(e),(w),(o),(y),(by repeat' first | assumption | apply AllI.set),(by repeat' first | assumption | apply AllI.set),(by repeat' first | assumption | apply AllI.set),(by repeat' first | assumption | apply AllI.set),(by repeat' first | assumption | apply AllI.set),fun ee CC hC=>To.spineR (k:=2) (z:=Zl) j4 (slots:=[0,8,9,12,13,14,15,17,96,97]) (blks:=[0,4,5,6,7,8]) (vs:=[A0,PP 4,PX 5,PX 6,PX 7,IK j,PX 8,I d,IK j,IK i]) (bs:=(Ka (h) r e w o y)) (nbB:=9) (by kernel_rfl) (fun dead=>iAR dead h r e w o y j i d) rfl rfl rfl ?_ (jr rfl (je (Nat.lt_of_sub_eq_succ rfl) rfl rfl (je (Nat.lt_of_sub_eq_succ rfl) (AllI.okb (n:=300) (by repeat' first | assumption | apply AllI.set) _) rfl (je (Nat.lt_of_sub_eq_succ rfl) (AllI.okb (n:=48) (by repeat' first | assumption | apply AllI.set) _) rfl (je (Nat.lt_of_sub_eq_succ rfl) (AllI.okb (n:=1152) (by repeat' first | assumption | apply AllI.set) _) rfl (je (Nat.lt_of_sub_eq_succ rfl) (AllI.okb (n:=300) (by repeat' first | assumption | apply AllI.set) _) rfl (je (Nat.lt_of_sub_eq_succ rfl) (AllI.okb (n:=48) (by repeat' first | assumption | apply AllI.set) _) rfl jU))))))) (Nat.le_refl _) hC⟩
 have lnr:=hr.len
 have lne:=he.len
 have lnw:=hw.len
 have lno:=ho.len
 have lny:=hy.len
 repeat' first | exact jd | apply ja
 all_goals first
  | (simp only [Bool.and_eq_true,hr.part,hr.ok,he.part,he.ok,hw.part,hw.ok,ho.part,ho.ok,hy.part,hy.ok,decide_eq_true_eq,true_and,and_true];omega)
theorem jEu (dead:Nat→Value) (h:Bool) (r e w o y:List At) (j:Nat) (d:Int):jI [0,8,9,12,13,14] [0,4,5,6,7,8] (exec Tryz.prog KA2 Zl 400 (.code (c1 (c1 (c2 (c2 (c2 (c2 (c2 (c1 (c1 (c2 (c1 (c1 (c2 (c1 (c2 (c2 (c2 (c2 (c2 (c2 (jk Tryz.prog 158)))))))))))))))))))))) (Kst.st ⟨[(0,A0),(8,PP 4),(9,PX 5),(12,PX 6),(13,PX 7),(14,IK j),(15,PX 8),(17,I d),(96,IK j),(97,IK j)],(kr h r e w o y),9⟩ 147 dead [some false]))=some (Ex.exit 8,[LV.v (V1.one (At.ptr 0 0)),LV.v (V1.one (At.ptr 4 0)),LV.v (V1.one (At.ptx 5 0)),LV.v (V1.one (At.ptx 6 0)),LV.v (V1.one (At.ptx 7 0)),LV.v (V1.one (At.int IntKind.i64 (j:Int)))],(KA h r e w o y),[(decide ((j:Int)<(j:Int)),false)]):=by kernel_rfl
theorem iAe (h:Bool) (r e w o y:List At) (j:Nat) (d:Int) (hr:AllI r 300) (he:AllI e 48) (hw:AllI w 1152) (ho:AllI o 300) (hy:AllI y 48):∃ (h':Bool) (r' e' w' o' y':List At),AllI r' 300∧AllI e' 48∧AllI w' 1152∧AllI o' 300∧AllI y' 48∧To Tryz.prog 147 (c1 (c1 (c2 (c2 (c2 (c2 (c2 (c1 (c1 (c2 (c1 (c1 (c2 (c1 (c2 (c2 (c2 (c2 (c2 (c2 (jk Tryz.prog 158))))))))))))))))))))) ⟨[(0,A0),(8,PP 4),(9,PX 5),(12,PX 6),(13,PX 7),(14,IK j),(15,PX 8),(17,I d),(96,IK j),(97,IK j)],(kr h r e w o y),9⟩ (.exit 8) ⟨[(0,A0),(8,PP 4),(9,PX 5),(12,PX 6),(13,PX 7),(14,IK j)],(kr h' r' e' w' o' y'),9⟩:=by
 refine ⟨(h),(r),(e),(w),(o),(y),(by repeat' first | assumption | apply AllI.set),(by repeat' first | assumption | apply AllI.set),(by repeat' first | assumption | apply AllI.set),(by repeat' first | assumption | apply AllI.set),(by repeat' first | assumption | apply AllI.set),To.run (z:=Zl) j4 (slots:=[0,8,9,12,13,14]) (blks:=[0,4,5,6,7,8]) (vs:=[A0,PP 4,PX 5,PX 6,PX 7,IK j]) (bs:=(Ka (h) r e w o y)) (nbB:=9) (fun dead=>jEu dead h r e w o y j d) rfl rfl rfl ?_ (jr rfl (je (Nat.lt_of_sub_eq_succ rfl) rfl rfl (je (Nat.lt_of_sub_eq_succ rfl) (AllI.okb (n:=300) (by repeat' first | assumption | apply AllI.set) _) rfl (je (Nat.lt_of_sub_eq_succ rfl) (AllI.okb (n:=48) (by repeat' first | assumption | apply AllI.set) _) rfl (je (Nat.lt_of_sub_eq_succ rfl) (AllI.okb (n:=1152) (by repeat' first | assumption | apply AllI.set) _) rfl (je (Nat.lt_of_sub_eq_succ rfl) (AllI.okb (n:=300) (by repeat' first | assumption | apply AllI.set) _) rfl (je (Nat.lt_of_sub_eq_succ rfl) (AllI.okb (n:=48) (by repeat' first | assumption | apply AllI.set) _) rfl jU))))))) (Nat.le_refl _)⟩
 have lnr:=hr.len
 have lne:=he.len
 have lnw:=hw.len
 have lno:=ho.len
 have lny:=hy.len
 repeat' first | exact jd | apply ja
 all_goals first
  | (with_reducible refine decide_eq_false ?_;omega)
theorem iBR (dead:Nat→Value) (h:Bool) (r e w o y:List At) (j i:Nat) (d:Int):jI [0,8,9,12,13,14,15,17,96,97,18,19] [0,4,5,6,7,8] (xA Tryz.prog KA2 Zl 400 (kV 2 (c1 (c1 (c2 (c2 (c1 (c1 (c2 (c2 (c2 (c2 (c2 (c1 (c1 (c2 (c1 (c1 (c2 (c1 (c2 (c2 (c2 (c2 (c2 (c2 (jk Tryz.prog 158)))))))))))))))))))))))))) (Kst.st ⟨[(0,A0),(8,PP 4),(9,PX 5),(12,PX 6),(13,PX 7),(14,IK j),(15,PX 8),(17,I d),(96,IK j),(97,IK i)],(kr h r e w o y),9⟩ 147 dead []))=some (Ex.normal,[LV.v (V1.one (At.ptr 0 0)),LV.v (V1.one (At.ptr 4 0)),LV.v (V1.one (At.ptx 5 0)),LV.v (V1.one (At.ptx 6 0)),LV.v (V1.one (At.ptx 7 0)),LV.v (V1.one (At.int IntKind.i64 (j:Int))),LV.v (V1.one (At.ptx 8 0)),LV.v (V1.one (At.int IntKind.i64 d)),LV.v (V1.one (At.int IntKind.i64 (j:Int))),LV.v (V1.one (At.int IntKind.i64 (i:Int))),LV.v (V1.one (At.int IntKind.i64 (i:Int))),LV.v (V1.one (At.int IntKind.i64 (kz (qP 30 (kQ (List.take ((48 - 0)*1) (List.drop (0+(i:Int).toNat*48+0*1) w))) (kQ (List.take ((48 - 0)*1) (List.drop (0+0*1) y)))) d 30)))],(KA (h||yz 30 (kQ (List.take ((48 - 0)*1) (List.drop (0+(i:Int).toNat*48+0*1) w))) (kQ (List.take ((48 - 0)*1) (List.drop (0+0*1) y)))||xT (qP 30 (kQ (List.take ((48 - 0)*1) (List.drop (0+(i:Int).toNat*48+0*1) w))) (kQ (List.take ((48 - 0)*1) (List.drop (0+0*1) y)))) d 30) r e w o y),[(qJ (List.take ((48 - 0)*1) (List.drop (0+(i:Int).toNat*48+0*1) w))&&(okL noP w&&(decide (0+(i:Int).toNat*48+0*1+(48 - 0)*1≤w.length)&&true)),true),(qJ (List.take ((48 - 0)*1) (List.drop (0+0*1) y))&&(okL noP y&&(decide (0+0*1+(48 - 0)*1≤y.length)&&true)),true),(decide (0≤(i:Int))&&decide ((i:Int)<24),true)]):=by kernel_rfl
theorem iB (h:Bool) (r e w o y:List At) (j i:Nat) (d:Int) (hr:AllI r 300) (he:AllI e 48) (hw:AllI w 1152) (ho:AllI o 300) (hy:AllI y 48) (hj:j<24) (hi:i<j):∃(u:Int) (h':Bool) (r' e' w' o' y':List At),AllI r' 300∧AllI e' 48∧AllI w' 1152∧AllI o' 300∧AllI y' 48∧∀(ee:Ex) (CC:Kst),To Tryz.prog 147 (qE 2 (c1 (c1 (c2 (c2 (c1 (c1 (c2 (c2 (c2 (c2 (c2 (c1 (c1 (c2 (c1 (c1 (c2 (c1 (c2 (c2 (c2 (c2 (c2 (c2 (jk Tryz.prog 158)))))))))))))))))))))))))) ⟨[(0,A0),(8,PP 4),(9,PX 5),(12,PX 6),(13,PX 7),(14,IK j),(15,PX 8),(17,I d),(96,IK j),(97,IK i),(18,IK i),(19,I u)],(kr h' r' e' w' o' y'),9⟩ ee CC→To Tryz.prog 147 (c1 (c1 (c2 (c2 (c1 (c1 (c2 (c2 (c2 (c2 (c2 (c1 (c1 (c2 (c1 (c1 (c2 (c1 (c2 (c2 (c2 (c2 (c2 (c2 (jk Tryz.prog 158))))))))))))))))))))))))) ⟨[(0,A0),(8,PP 4),(9,PX 5),(12,PX 6),(13,PX 7),(14,IK j),(15,PX 8),(17,I d),(96,IK j),(97,IK i)],(kr h r e w o y),9⟩ ee CC:=by
 refine ⟨((kz (qP 30 (kQ (List.take ((48 - 0)*1) (List.drop (0+(i:Int).toNat*48+0*1) w))) (kQ (List.take ((48 - 0)*1) (List.drop (0+0*1) y)))) d 30)),((h||yz 30 (kQ (List.take ((48 - 0)*1) (List.drop (0+(i:Int).toNat*48+0*1) w))) (kQ (List.take ((48 - 0)*1) (List.drop (0+0*1) y)))||xT (qP 30 (kQ (List.take ((48 - 0)*1) (List.drop (0+(i:Int).toNat*48+0*1) w))) (kQ (List.take ((48 - 0)*1) (List.drop (0+0*1) y)))) d 30)),(r),(e),(w),(o),(y),(by repeat' first | assumption | apply AllI.set),(by repeat' first | assumption | apply AllI.set),(by repeat' first | assumption | apply AllI.set),(by repeat' first | assumption | apply AllI.set),(by repeat' first | assumption | apply AllI.set),fun ee CC hC=>To.spineR (k:=2) (z:=Zl) j4 (slots:=[0,8,9,12,13,14,15,17,96,97,18,19]) (blks:=[0,4,5,6,7,8]) (vs:=[A0,PP 4,PX 5,PX 6,PX 7,IK j,PX 8,I d,IK j,IK i,IK i,I ((kz (qP 30 (kQ (List.take ((48 - 0)*1) (List.drop (0+(i:Int).toNat*48+0*1) w))) (kQ (List.take ((48 - 0)*1) (List.drop (0+0*1) y)))) d 30))]) (bs:=(Ka ((h||yz 30 (kQ (List.take ((48 - 0)*1) (List.drop (0+(i:Int).toNat*48+0*1) w))) (kQ (List.take ((48 - 0)*1) (List.drop (0+0*1) y)))||xT (qP 30 (kQ (List.take ((48 - 0)*1) (List.drop (0+(i:Int).toNat*48+0*1) w))) (kQ (List.take ((48 - 0)*1) (List.drop (0+0*1) y)))) d 30)) r e w o y)) (nbB:=9) (by kernel_rfl) (fun dead=>iBR dead h r e w o y j i d) rfl rfl rfl ?_ (jr rfl (je (Nat.lt_of_sub_eq_succ rfl) rfl rfl (je (Nat.lt_of_sub_eq_succ rfl) (AllI.okb (n:=300) (by repeat' first | assumption | apply AllI.set) _) rfl (je (Nat.lt_of_sub_eq_succ rfl) (AllI.okb (n:=48) (by repeat' first | assumption | apply AllI.set) _) rfl (je (Nat.lt_of_sub_eq_succ rfl) (AllI.okb (n:=1152) (by repeat' first | assumption | apply AllI.set) _) rfl (je (Nat.lt_of_sub_eq_succ rfl) (AllI.okb (n:=300) (by repeat' first | assumption | apply AllI.set) _) rfl (je (Nat.lt_of_sub_eq_succ rfl) (AllI.okb (n:=48) (by repeat' first | assumption | apply AllI.set) _) rfl jU))))))) (Nat.le_refl _) hC⟩
 have lnr:=hr.len
 have lne:=he.len
 have lnw:=hw.len
 have lno:=ho.len
 have lny:=hy.len
 repeat' first | exact jd | apply ja
 all_goals first
  | (simp only [Bool.and_eq_true,hr.part,hr.ok,he.part,he.ok,hw.part,hw.ok,ho.part,ho.ok,hy.part,hy.ok,decide_eq_true_eq,true_and,and_true];omega)
theorem iDR (dead:Nat→Value) (h:Bool) (r e w o y:List At) (j i:Nat) (d u:Int):jI [0,8,9,12,13,14,15,17,96,97,18,19,116] [0,4,5,6,7,8] (exec Tryz.prog KA2 Zl 400 (.code (c1 (c2 (c2 (c2 (c1 (c1 (c2 (c2 (c1 (c1 (c2 (c2 (c2 (c2 (c2 (c1 (c1 (c2 (c1 (c1 (c2 (c1 (c2 (c2 (c2 (c2 (c2 (c2 (jk Tryz.prog 158)))))))))))))))))))))))))))))) (Kst.st ⟨[(0,A0),(8,PP 4),(9,PX 5),(12,PX 6),(13,PX 7),(14,IK j),(15,PX 8),(17,I d),(96,IK j),(97,IK i),(18,IK i),(19,I u)],(kr h r e w o y),9⟩ 147 dead []))=some (Ex.normal,[LV.v (V1.one (At.ptr 0 0)),LV.v (V1.one (At.ptr 4 0)),LV.v (V1.one (At.ptx 5 0)),LV.v (V1.one (At.ptx 6 0)),LV.v (V1.one (At.ptx 7 0)),LV.v (V1.one (At.int IntKind.i64 (j:Int))),LV.v (V1.one (At.ptx 8 0)),LV.v (V1.one (At.int IntKind.i64 d)),LV.v (V1.one (At.int IntKind.i64 (j:Int))),LV.v (V1.one (At.int IntKind.i64 (i:Int))),LV.v (V1.one (At.int IntKind.i64 (i:Int))),LV.v (V1.one (At.int IntKind.i64 u)),LV.v (V1.one (At.int IntKind.i64 0))],(KA h r e w o y),[]):=by kernel_rfl
theorem iD (h:Bool) (r e w o y:List At) (j i:Nat) (d u:Int) (hr:AllI r 300) (he:AllI e 48) (hw:AllI w 1152) (ho:AllI o 300) (hy:AllI y 48):∃ (h':Bool) (r' e' w' o' y':List At),AllI r' 300∧AllI e' 48∧AllI w' 1152∧AllI o' 300∧AllI y' 48∧To Tryz.prog 147 (c1 (c2 (c2 (c2 (c1 (c1 (c2 (c2 (c1 (c1 (c2 (c2 (c2 (c2 (c2 (c1 (c1 (c2 (c1 (c1 (c2 (c1 (c2 (c2 (c2 (c2 (c2 (c2 (jk Tryz.prog 158))))))))))))))))))))))))))))) ⟨[(0,A0),(8,PP 4),(9,PX 5),(12,PX 6),(13,PX 7),(14,IK j),(15,PX 8),(17,I d),(96,IK j),(97,IK i),(18,IK i),(19,I u)],(kr h r e w o y),9⟩ .normal ⟨[(0,A0),(8,PP 4),(9,PX 5),(12,PX 6),(13,PX 7),(14,IK j),(15,PX 8),(17,I d),(96,IK j),(97,IK i),(18,IK i),(19,I u),(116,IK 0)],(kr h' r' e' w' o' y'),9⟩:=by
 refine ⟨(h),(r),(e),(w),(o),(y),(by repeat' first | assumption | apply AllI.set),(by repeat' first | assumption | apply AllI.set),(by repeat' first | assumption | apply AllI.set),(by repeat' first | assumption | apply AllI.set),(by repeat' first | assumption | apply AllI.set),To.run (z:=Zl) j4 (slots:=[0,8,9,12,13,14,15,17,96,97,18,19,116]) (blks:=[0,4,5,6,7,8]) (vs:=[A0,PP 4,PX 5,PX 6,PX 7,IK j,PX 8,I d,IK j,IK i,IK i,I u,IK 0]) (bs:=(Ka (h) r e w o y)) (nbB:=9) (fun dead=>iDR dead h r e w o y j i d u) rfl rfl rfl ?_ (jr rfl (je (Nat.lt_of_sub_eq_succ rfl) rfl rfl (je (Nat.lt_of_sub_eq_succ rfl) (AllI.okb (n:=300) (by repeat' first | assumption | apply AllI.set) _) rfl (je (Nat.lt_of_sub_eq_succ rfl) (AllI.okb (n:=48) (by repeat' first | assumption | apply AllI.set) _) rfl (je (Nat.lt_of_sub_eq_succ rfl) (AllI.okb (n:=1152) (by repeat' first | assumption | apply AllI.set) _) rfl (je (Nat.lt_of_sub_eq_succ rfl) (AllI.okb (n:=300) (by repeat' first | assumption | apply AllI.set) _) rfl (je (Nat.lt_of_sub_eq_succ rfl) (AllI.okb (n:=48) (by repeat' first | assumption | apply AllI.set) _) rfl jU))))))) (Nat.le_refl _)⟩
 have lnr:=hr.len
 have lne:=he.len
 have lnw:=hw.len
 have lno:=ho.len
 have lny:=hy.len
 repeat' first | exact jd | apply ja
theorem iER (dead:Nat→Value) (h:Bool) (r e w o y:List At) (j i:Nat) (d u:Int) (k:Nat):jI [0,8,9,12,13,14,15,17,96,97,18,19,116] [0,4,5,6,7,8] (exec Tryz.prog KA2 Zl 400 (.code (c1 (c1 (c2 (c2 (c2 (c2 (c1 (c1 (c2 (c2 (c1 (c1 (c2 (c2 (c2 (c2 (c2 (c1 (c1 (c2 (c1 (c1 (c2 (c1 (c2 (c2 (c2 (c2 (c2 (c2 (jk Tryz.prog 158)))))))))))))))))))))))))))))))) (Kst.st ⟨[(0,A0),(8,PP 4),(9,PX 5),(12,PX 6),(13,PX 7),(14,IK j),(15,PX 8),(17,I d),(96,IK j),(97,IK i),(18,IK i),(19,I u),(116,IK k)],(kr h r e w o y),9⟩ 147 dead [some true]))=some (Ex.normal,[LV.v (V1.one (At.ptr 0 0)),LV.v (V1.one (At.ptr 4 0)),LV.v (V1.one (At.ptx 5 0)),LV.v (V1.one (At.ptx 6 0)),LV.v (V1.one (At.ptx 7 0)),LV.v (V1.one (At.int IntKind.i64 (j:Int))),LV.v (V1.one (At.ptx 8 0)),LV.v (V1.one (At.int IntKind.i64 d)),LV.v (V1.one (At.int IntKind.i64 (j:Int))),LV.v (V1.one (At.int IntKind.i64 (i:Int))),LV.v (V1.one (At.int IntKind.i64 (i:Int))),LV.v (V1.one (At.int IntKind.i64 u)),LV.v (V1.one (At.int IntKind.i64 (wr IntKind.i64 ((k:Int)+1))))],(KA (h||Xn u (jo w (0+(j:Int).toNat*48+(k:Int).toNat*1)) 30||jha (jo w (0+(i:Int).toNat*48+(k:Int).toNat*1)) (ko u (jo w (0+(j:Int).toNat*48+(k:Int).toNat*1)) 30)) r e ((List.set w) (0+(i:Int).toNat*48+(k:Int).toNat*1) (At.int IntKind.i64 (xW (jo w (0+(i:Int).toNat*48+(k:Int).toNat*1)) (ko u (jo w (0+(j:Int).toNat*48+(k:Int).toNat*1)) 30)))) o y),[(decide (0+(i:Int).toNat*48+(k:Int).toNat*1<w.length),true),(decide (0≤(k:Int))&&decide ((k:Int)<48),true),(decide (0≤(i:Int))&&decide ((i:Int)<24),true),(isIntAt IntKind.i64 w (0+(j:Int).toNat*48+(k:Int).toNat*1),true),(decide (0≤(k:Int))&&decide ((k:Int)<48),true),(decide (0≤(j:Int))&&decide ((j:Int)<24),true),(isIntAt IntKind.i64 w (0+(i:Int).toNat*48+(k:Int).toNat*1),true),(decide (0≤(k:Int))&&decide ((k:Int)<48),true),(decide (0≤(i:Int))&&decide ((i:Int)<24),true),(decide ((k:Int)<48),true)]):=by kernel_rfl
theorem iE (h:Bool) (r e w o y:List At) (j i:Nat) (d u:Int) (k:Nat) (hr:AllI r 300) (he:AllI e 48) (hw:AllI w 1152) (ho:AllI o 300) (hy:AllI y 48) (hj:j<24) (hi:i<j) (hk:k<48):∃ (h':Bool) (r' e' w' o' y':List At),AllI r' 300∧AllI e' 48∧AllI w' 1152∧AllI o' 300∧AllI y' 48∧To Tryz.prog 147 (c1 (c1 (c2 (c2 (c2 (c2 (c1 (c1 (c2 (c2 (c1 (c1 (c2 (c2 (c2 (c2 (c2 (c1 (c1 (c2 (c1 (c1 (c2 (c1 (c2 (c2 (c2 (c2 (c2 (c2 (jk Tryz.prog 158))))))))))))))))))))))))))))))) ⟨[(0,A0),(8,PP 4),(9,PX 5),(12,PX 6),(13,PX 7),(14,IK j),(15,PX 8),(17,I d),(96,IK j),(97,IK i),(18,IK i),(19,I u),(116,IK k)],(kr h r e w o y),9⟩ .normal ⟨[(0,A0),(8,PP 4),(9,PX 5),(12,PX 6),(13,PX 7),(14,IK j),(15,PX 8),(17,I d),(96,IK j),(97,IK i),(18,IK i),(19,I u),(116,IK (k+1))],(kr h' r' e' w' o' y'),9⟩:=by
 refine ⟨((h||Xn u (jo w (0+(j:Int).toNat*48+(k:Int).toNat*1)) 30||jha (jo w (0+(i:Int).toNat*48+(k:Int).toNat*1)) (ko u (jo w (0+(j:Int).toNat*48+(k:Int).toNat*1)) 30))),(r),(e),((List.set w) (0+(i:Int).toNat*48+(k:Int).toNat*1) (At.int IntKind.i64 (xW (jo w (0+(i:Int).toNat*48+(k:Int).toNat*1)) (ko u (jo w (0+(j:Int).toNat*48+(k:Int).toNat*1)) 30)))),(o),(y),(by repeat' first | assumption | apply AllI.set),(by repeat' first | assumption | apply AllI.set),(by repeat' first | assumption | apply AllI.set),(by repeat' first | assumption | apply AllI.set),(by repeat' first | assumption | apply AllI.set),To.run (z:=Zl) j4 (slots:=[0,8,9,12,13,14,15,17,96,97,18,19,116]) (blks:=[0,4,5,6,7,8]) (vs:=[A0,PP 4,PX 5,PX 6,PX 7,IK j,PX 8,I d,IK j,IK i,IK i,I u,IK (k+1)]) (bs:=(Ka ((h||Xn u (jo w (0+(j:Int).toNat*48+(k:Int).toNat*1)) 30||jha (jo w (0+(i:Int).toNat*48+(k:Int).toNat*1)) (ko u (jo w (0+(j:Int).toNat*48+(k:Int).toNat*1)) 30))) r e ((List.set w) (0+(i:Int).toNat*48+(k:Int).toNat*1) (At.int IntKind.i64 (xW (jo w (0+(i:Int).toNat*48+(k:Int).toNat*1)) (ko u (jo w (0+(j:Int).toNat*48+(k:Int).toNat*1)) 30)))) o y)) (nbB:=9) (fun dead=>iER dead h r e w o y j i d u k) rfl (by rw [wk k (by omega)];rfl) rfl ?_ (jr rfl (je (Nat.lt_of_sub_eq_succ rfl) rfl rfl (je (Nat.lt_of_sub_eq_succ rfl) (AllI.okb (n:=300) (by repeat' first | assumption | apply AllI.set) _) rfl (je (Nat.lt_of_sub_eq_succ rfl) (AllI.okb (n:=48) (by repeat' first | assumption | apply AllI.set) _) rfl (je (Nat.lt_of_sub_eq_succ rfl) (AllI.okb (n:=1152) (by repeat' first | assumption | apply AllI.set) _) rfl (je (Nat.lt_of_sub_eq_succ rfl) (AllI.okb (n:=300) (by repeat' first | assumption | apply AllI.set) _) rfl (je (Nat.lt_of_sub_eq_succ rfl) (AllI.okb (n:=48) (by repeat' first | assumption | apply AllI.set) _) rfl jU))))))) (Nat.le_refl _)⟩
 have lnr:=hr.len
 have lne:=he.len
 have lnw:=hw.len
 have lno:=ho.len
 have lny:=hy.len
 repeat' first | exact jd | apply ja
 all_goals first
  | (with_reducible refine AllI.ats (by assumption) _ ?_;simp only [Int.toNat_natCast];omega)
  | (simp only [Bool.and_eq_true,hr.part,hr.ok,he.part,he.ok,hw.part,hw.ok,ho.part,ho.ok,hy.part,hy.ok,decide_eq_true_eq,true_and,and_true];omega)
theorem jEv (dead:Nat→Value) (h:Bool) (r e w o y:List At) (j i:Nat) (d u:Int):jI [0,8,9,12,13,14,15,17,96,97,18,19] [0,4,5,6,7,8] (exec Tryz.prog KA2 Zl 400 (.code (c1 (c1 (c2 (c2 (c2 (c2 (c1 (c1 (c2 (c2 (c1 (c1 (c2 (c2 (c2 (c2 (c2 (c1 (c1 (c2 (c1 (c1 (c2 (c1 (c2 (c2 (c2 (c2 (c2 (c2 (jk Tryz.prog 158)))))))))))))))))))))))))))))))) (Kst.st ⟨[(0,A0),(8,PP 4),(9,PX 5),(12,PX 6),(13,PX 7),(14,IK j),(15,PX 8),(17,I d),(96,IK j),(97,IK i),(18,IK i),(19,I u),(116,IK 48)],(kr h r e w o y),9⟩ 147 dead []))=some (Ex.exit 10,[LV.v (V1.one (At.ptr 0 0)),LV.v (V1.one (At.ptr 4 0)),LV.v (V1.one (At.ptx 5 0)),LV.v (V1.one (At.ptx 6 0)),LV.v (V1.one (At.ptx 7 0)),LV.v (V1.one (At.int IntKind.i64 (j:Int))),LV.v (V1.one (At.ptx 8 0)),LV.v (V1.one (At.int IntKind.i64 d)),LV.v (V1.one (At.int IntKind.i64 (j:Int))),LV.v (V1.one (At.int IntKind.i64 (i:Int))),LV.v (V1.one (At.int IntKind.i64 (i:Int))),LV.v (V1.one (At.int IntKind.i64 u))],(KA h r e w o y),[]):=by kernel_rfl
theorem iEe (h:Bool) (r e w o y:List At) (j i:Nat) (d u:Int) (hr:AllI r 300) (he:AllI e 48) (hw:AllI w 1152) (ho:AllI o 300) (hy:AllI y 48):∃ (h':Bool) (r' e' w' o' y':List At),AllI r' 300∧AllI e' 48∧AllI w' 1152∧AllI o' 300∧AllI y' 48∧To Tryz.prog 147 (c1 (c1 (c2 (c2 (c2 (c2 (c1 (c1 (c2 (c2 (c1 (c1 (c2 (c2 (c2 (c2 (c2 (c1 (c1 (c2 (c1 (c1 (c2 (c1 (c2 (c2 (c2 (c2 (c2 (c2 (jk Tryz.prog 158))))))))))))))))))))))))))))))) ⟨[(0,A0),(8,PP 4),(9,PX 5),(12,PX 6),(13,PX 7),(14,IK j),(15,PX 8),(17,I d),(96,IK j),(97,IK i),(18,IK i),(19,I u),(116,IK 48)],(kr h r e w o y),9⟩ (.exit 10) ⟨[(0,A0),(8,PP 4),(9,PX 5),(12,PX 6),(13,PX 7),(14,IK j),(15,PX 8),(17,I d),(96,IK j),(97,IK i),(18,IK i),(19,I u)],(kr h' r' e' w' o' y'),9⟩:=by
 refine ⟨(h),(r),(e),(w),(o),(y),(by repeat' first | assumption | apply AllI.set),(by repeat' first | assumption | apply AllI.set),(by repeat' first | assumption | apply AllI.set),(by repeat' first | assumption | apply AllI.set),(by repeat' first | assumption | apply AllI.set),To.run (z:=Zl) j4 (slots:=[0,8,9,12,13,14,15,17,96,97,18,19]) (blks:=[0,4,5,6,7,8]) (vs:=[A0,PP 4,PX 5,PX 6,PX 7,IK j,PX 8,I d,IK j,IK i,IK i,I u]) (bs:=(Ka (h) r e w o y)) (nbB:=9) (fun dead=>jEv dead h r e w o y j i d u) rfl rfl rfl ?_ (jr rfl (je (Nat.lt_of_sub_eq_succ rfl) rfl rfl (je (Nat.lt_of_sub_eq_succ rfl) (AllI.okb (n:=300) (by repeat' first | assumption | apply AllI.set) _) rfl (je (Nat.lt_of_sub_eq_succ rfl) (AllI.okb (n:=48) (by repeat' first | assumption | apply AllI.set) _) rfl (je (Nat.lt_of_sub_eq_succ rfl) (AllI.okb (n:=1152) (by repeat' first | assumption | apply AllI.set) _) rfl (je (Nat.lt_of_sub_eq_succ rfl) (AllI.okb (n:=300) (by repeat' first | assumption | apply AllI.set) _) rfl (je (Nat.lt_of_sub_eq_succ rfl) (AllI.okb (n:=48) (by repeat' first | assumption | apply AllI.set) _) rfl jU))))))) (Nat.le_refl _)⟩
 have lnr:=hr.len
 have lne:=he.len
 have lnw:=hw.len
 have lno:=ho.len
 have lny:=hy.len
 repeat' first | exact jd | apply ja
theorem iFR (dead:Nat→Value) (h:Bool) (r e w o y:List At) (j i:Nat) (d u:Int):jI [0,8,9,12,13,14,15,17,96,97] [0,4,5,6,7,8] (exec Tryz.prog KA2 Zl 400 (.code (c2 (c2 (c2 (c1 (c1 (c2 (c2 (c2 (c2 (c2 (c1 (c1 (c2 (c1 (c1 (c2 (c1 (c2 (c2 (c2 (c2 (c2 (c2 (jk Tryz.prog 158))))))))))))))))))))))))) (Kst.st ⟨[(0,A0),(8,PP 4),(9,PX 5),(12,PX 6),(13,PX 7),(14,IK j),(15,PX 8),(17,I d),(96,IK j),(97,IK i),(18,IK i),(19,I u)],(kr h r e w o y),9⟩ 147 dead []))=some (Ex.normal,[LV.v (V1.one (At.ptr 0 0)),LV.v (V1.one (At.ptr 4 0)),LV.v (V1.one (At.ptx 5 0)),LV.v (V1.one (At.ptx 6 0)),LV.v (V1.one (At.ptx 7 0)),LV.v (V1.one (At.int IntKind.i64 (j:Int))),LV.v (V1.one (At.ptx 8 0)),LV.v (V1.one (At.int IntKind.i64 d)),LV.v (V1.one (At.int IntKind.i64 (j:Int))),LV.v (V1.one (At.int IntKind.i64 (wr IntKind.i64 ((i:Int)+1))))],(KA h r e w o y),[]):=by kernel_rfl
theorem iF (h:Bool) (r e w o y:List At) (j i:Nat) (d u:Int) (hr:AllI r 300) (he:AllI e 48) (hw:AllI w 1152) (ho:AllI o 300) (hy:AllI y 48) (hj:j<24) (hi:i<j):∃ (h':Bool) (r' e' w' o' y':List At),AllI r' 300∧AllI e' 48∧AllI w' 1152∧AllI o' 300∧AllI y' 48∧To Tryz.prog 147 (c2 (c2 (c2 (c1 (c1 (c2 (c2 (c2 (c2 (c2 (c1 (c1 (c2 (c1 (c1 (c2 (c1 (c2 (c2 (c2 (c2 (c2 (c2 (jk Tryz.prog 158)))))))))))))))))))))))) ⟨[(0,A0),(8,PP 4),(9,PX 5),(12,PX 6),(13,PX 7),(14,IK j),(15,PX 8),(17,I d),(96,IK j),(97,IK i),(18,IK i),(19,I u)],(kr h r e w o y),9⟩ .normal ⟨[(0,A0),(8,PP 4),(9,PX 5),(12,PX 6),(13,PX 7),(14,IK j),(15,PX 8),(17,I d),(96,IK j),(97,IK (i+1))],(kr h' r' e' w' o' y'),9⟩:=by
 refine ⟨(h),(r),(e),(w),(o),(y),(by repeat' first | assumption | apply AllI.set),(by repeat' first | assumption | apply AllI.set),(by repeat' first | assumption | apply AllI.set),(by repeat' first | assumption | apply AllI.set),(by repeat' first | assumption | apply AllI.set),To.run (z:=Zl) j4 (slots:=[0,8,9,12,13,14,15,17,96,97]) (blks:=[0,4,5,6,7,8]) (vs:=[A0,PP 4,PX 5,PX 6,PX 7,IK j,PX 8,I d,IK j,IK (i+1)]) (bs:=(Ka (h) r e w o y)) (nbB:=9) (fun dead=>iFR dead h r e w o y j i d u) rfl (by rw [wk i (by omega)];rfl) rfl ?_ (jr rfl (je (Nat.lt_of_sub_eq_succ rfl) rfl rfl (je (Nat.lt_of_sub_eq_succ rfl) (AllI.okb (n:=300) (by repeat' first | assumption | apply AllI.set) _) rfl (je (Nat.lt_of_sub_eq_succ rfl) (AllI.okb (n:=48) (by repeat' first | assumption | apply AllI.set) _) rfl (je (Nat.lt_of_sub_eq_succ rfl) (AllI.okb (n:=1152) (by repeat' first | assumption | apply AllI.set) _) rfl (je (Nat.lt_of_sub_eq_succ rfl) (AllI.okb (n:=300) (by repeat' first | assumption | apply AllI.set) _) rfl (je (Nat.lt_of_sub_eq_succ rfl) (AllI.okb (n:=48) (by repeat' first | assumption | apply AllI.set) _) rfl jU))))))) (Nat.le_refl _)⟩
 have lnr:=hr.len
 have lne:=he.len
 have lnw:=hw.len
 have lno:=ho.len
 have lny:=hy.len
 repeat' first | exact jd | apply ja
theorem sDL (h:Bool) (p f q r e:List At) (i:Nat) (hp:AllI p 300) (hf:AllI f 576) (hq:AllI q 24) (hr:AllI r 300) (he:AllI e 48) (hi:i<24):∃(h':Bool) (p' f' q' r' e':List At),AllI p' 300∧AllI f' 576∧AllI q' 24∧AllI r' 300∧AllI e' 48∧To Tryz.prog 147 (c2 (c2 (c2 (c1 (c1 (c2 (c2 (c1 (c1 (c2 (c1 (c2 (c2 (c2 (jk Tryz.prog 158))))))))))))))) ⟨[(0,A0),(5,PX 1),(6,PX 2),(7,PX 3),(8,PP 4),(9,PX 5),(10,IK i),(24,IK i),(41,IK 0)],(qN h p f q r e),6⟩ .normal ⟨[(0,A0),(5,PX 1),(6,PX 2),(7,PX 3),(8,PP 4),(9,PX 5),(10,IK i),(24,IK i)],(qN h' p' f' q' r' e'),6⟩:=by
 have round:∀(k:Nat) (s:Bool×List At×List At×List At×List At×List At),k<24→(AllI s.2.1 300∧AllI s.2.2.1 576∧AllI s.2.2.2.1 24∧AllI s.2.2.2.2.1 300∧AllI s.2.2.2.2.2 48)→∃s':Bool×List At×List At×List At×List At×List At,(AllI s'.2.1 300∧AllI s'.2.2.1 576∧AllI s'.2.2.2.1 24∧AllI s'.2.2.2.2.1 300∧AllI s'.2.2.2.2.2 48)∧To Tryz.prog 147 (c1 (c1 (c2 (c2 (c2 (c1 (c1 (c2 (c2 (c1 (c1 (c2 (c1 (c2 (c2 (c2 (jk Tryz.prog 158))))))))))))))))) ((fun (k:Nat) (s:Bool×List At×List At×List At×List At×List At)=>(⟨[(0,A0),(5,PX 1),(6,PX 2),(7,PX 3),(8,PP 4),(9,PX 5),(10,IK i),(24,IK i),(41,IK k)],(qN (s.1) (s.2.1) (s.2.2.1) (s.2.2.2.1) (s.2.2.2.2.1) (s.2.2.2.2.2)),6⟩:Kst)) k s) .normal ((fun (k:Nat) (s:Bool×List At×List At×List At×List At×List At)=>(⟨[(0,A0),(5,PX 1),(6,PX 2),(7,PX 3),(8,PP 4),(9,PX 5),(10,IK i),(24,IK i),(41,IK k)],(qN (s.1) (s.2.1) (s.2.2.1) (s.2.2.2.1) (s.2.2.2.2.1) (s.2.2.2.2.2)),6⟩:Kst)) (k+1) s'):=by
  rintro k ⟨h,p,f,q,r,e⟩ hlt ⟨k0,k1,k2,k3,k4⟩
  obtain ⟨h',p',f',q',r',e',q0,q1,q2,q3,q4,hT⟩:=sD h p f q r e i k k0 k1 k2 k3 k4 hi hlt
  exact ⟨(h',p',f',q',r',e'),⟨q0,q1,q2,q3,q4⟩,hT⟩
 have last:∀(s:Bool×List At×List At×List At×List At×List At),(AllI s.2.1 300∧AllI s.2.2.1 576∧AllI s.2.2.2.1 24∧AllI s.2.2.2.2.1 300∧AllI s.2.2.2.2.2 48)→∃s':Bool×List At×List At×List At×List At×List At,(AllI s'.2.1 300∧AllI s'.2.2.1 576∧AllI s'.2.2.2.1 24∧AllI s'.2.2.2.2.1 300∧AllI s'.2.2.2.2.2 48)∧To Tryz.prog 147 (c1 (c1 (c2 (c2 (c2 (c1 (c1 (c2 (c2 (c1 (c1 (c2 (c1 (c2 (c2 (c2 (jk Tryz.prog 158))))))))))))))))) ((fun (k:Nat) (s:Bool×List At×List At×List At×List At×List At)=>(⟨[(0,A0),(5,PX 1),(6,PX 2),(7,PX 3),(8,PP 4),(9,PX 5),(10,IK i),(24,IK i),(41,IK k)],(qN (s.1) (s.2.1) (s.2.2.1) (s.2.2.2.1) (s.2.2.2.2.1) (s.2.2.2.2.2)),6⟩:Kst)) (24) s) (.exit 2) ((fun (s:Bool×List At×List At×List At×List At×List At)=>(⟨[(0,A0),(5,PX 1),(6,PX 2),(7,PX 3),(8,PP 4),(9,PX 5),(10,IK i),(24,IK i)],(qN (s.1) (s.2.1) (s.2.2.1) (s.2.2.2.1) (s.2.2.2.2.1) (s.2.2.2.2.2)),6⟩:Kst)) s'):=by
  rintro ⟨h,p,f,q,r,e⟩ ⟨k0,k1,k2,k3,k4⟩
  obtain ⟨h',p',f',q',r',e',q0,q1,q2,q3,q4,hT⟩:=sDe h p f q r e i k0 k1 k2 k3 k4
  exact ⟨(h',p',f',q',r',e'),⟨q0,q1,q2,q3,q4⟩,hT⟩
 obtain ⟨⟨h',p',f',q',r',e'⟩,⟨q0,q1,q2,q3,q4⟩,hT⟩:=xc (id:=2) (by kernel_rfl) (by kernel_rfl) round last (h,p,f,q,r,e) ⟨hp,hf,hq,hr,he⟩
 exact ⟨h',p',f',q',r',e',q0,q1,q2,q3,q4,hT⟩
theorem mDL (h:Bool) (r e w o y:List At) (j:Nat) (hr:AllI r 300) (he:AllI e 48) (hw:AllI w 1152) (ho:AllI o 300) (hy:AllI y 48) (hj:j<24):∃(h':Bool) (r' e' w' o' y':List At),AllI r' 300∧AllI e' 48∧AllI w' 1152∧AllI o' 300∧AllI y' 48∧To Tryz.prog 147 (c2 (c1 (c2 (c1 (c1 (c2 (c1 (c1 (c2 (c1 (c2 (c2 (c2 (c2 (c2 (c2 (jk Tryz.prog 158))))))))))))))))) ⟨[(0,A0),(8,PP 4),(9,PX 5),(12,PX 6),(13,PX 7),(14,IK j),(15,PX 8),(64,IK 0)],(kr h r e w o y),9⟩ .normal ⟨[(0,A0),(8,PP 4),(9,PX 5),(12,PX 6),(13,PX 7),(14,IK j),(15,PX 8)],(kr h' r' e' w' o' y'),9⟩:=by
 have round:∀(m:Nat) (s:Bool×List At×List At×List At×List At×List At),m<48→(AllI s.2.1 300∧AllI s.2.2.1 48∧AllI s.2.2.2.1 1152∧AllI s.2.2.2.2.1 300∧AllI s.2.2.2.2.2 48)→∃s':Bool×List At×List At×List At×List At×List At,(AllI s'.2.1 300∧AllI s'.2.2.1 48∧AllI s'.2.2.2.1 1152∧AllI s'.2.2.2.2.1 300∧AllI s'.2.2.2.2.2 48)∧To Tryz.prog 147 (c1 (c1 (c2 (c1 (c2 (c1 (c1 (c2 (c1 (c1 (c2 (c1 (c2 (c2 (c2 (c2 (c2 (c2 (jk Tryz.prog 158))))))))))))))))))) ((fun (m:Nat) (s:Bool×List At×List At×List At×List At×List At)=>(⟨[(0,A0),(8,PP 4),(9,PX 5),(12,PX 6),(13,PX 7),(14,IK j),(15,PX 8),(64,IK m)],(kr (s.1) (s.2.1) (s.2.2.1) (s.2.2.2.1) (s.2.2.2.2.1) (s.2.2.2.2.2)),9⟩:Kst)) m s) .normal ((fun (m:Nat) (s:Bool×List At×List At×List At×List At×List At)=>(⟨[(0,A0),(8,PP 4),(9,PX 5),(12,PX 6),(13,PX 7),(14,IK j),(15,PX 8),(64,IK m)],(kr (s.1) (s.2.1) (s.2.2.1) (s.2.2.2.1) (s.2.2.2.2.1) (s.2.2.2.2.2)),9⟩:Kst)) (m+1) s'):=by
  rintro m ⟨h,r,e,w,o,y⟩ hlt ⟨k0,k1,k2,k3,k4⟩
  obtain ⟨h',r',e',w',o',y',q0,q1,q2,q3,q4,hT⟩:=mD h r e w o y j m k0 k1 k2 k3 k4 hj hlt
  exact ⟨(h',r',e',w',o',y'),⟨q0,q1,q2,q3,q4⟩,hT⟩
 have last:∀(s:Bool×List At×List At×List At×List At×List At),(AllI s.2.1 300∧AllI s.2.2.1 48∧AllI s.2.2.2.1 1152∧AllI s.2.2.2.2.1 300∧AllI s.2.2.2.2.2 48)→∃s':Bool×List At×List At×List At×List At×List At,(AllI s'.2.1 300∧AllI s'.2.2.1 48∧AllI s'.2.2.2.1 1152∧AllI s'.2.2.2.2.1 300∧AllI s'.2.2.2.2.2 48)∧To Tryz.prog 147 (c1 (c1 (c2 (c1 (c2 (c1 (c1 (c2 (c1 (c1 (c2 (c1 (c2 (c2 (c2 (c2 (c2 (c2 (jk Tryz.prog 158))))))))))))))))))) ((fun (m:Nat) (s:Bool×List At×List At×List At×List At×List At)=>(⟨[(0,A0),(8,PP 4),(9,PX 5),(12,PX 6),(13,PX 7),(14,IK j),(15,PX 8),(64,IK m)],(kr (s.1) (s.2.1) (s.2.2.1) (s.2.2.2.1) (s.2.2.2.2.1) (s.2.2.2.2.2)),9⟩:Kst)) (48) s) (.exit 6) ((fun (s:Bool×List At×List At×List At×List At×List At)=>(⟨[(0,A0),(8,PP 4),(9,PX 5),(12,PX 6),(13,PX 7),(14,IK j),(15,PX 8)],(kr (s.1) (s.2.1) (s.2.2.1) (s.2.2.2.1) (s.2.2.2.2.1) (s.2.2.2.2.2)),9⟩:Kst)) s'):=by
  rintro ⟨h,r,e,w,o,y⟩ ⟨k0,k1,k2,k3,k4⟩
  obtain ⟨h',r',e',w',o',y',q0,q1,q2,q3,q4,hT⟩:=mDe h r e w o y j k0 k1 k2 k3 k4
  exact ⟨(h',r',e',w',o',y'),⟨q0,q1,q2,q3,q4⟩,hT⟩
 obtain ⟨⟨h',r',e',w',o',y'⟩,⟨q0,q1,q2,q3,q4⟩,hT⟩:=xc (id:=6) (by kernel_rfl) (by kernel_rfl) round last (h,r,e,w,o,y) ⟨hr,he,hw,ho,hy⟩
 exact ⟨h',r',e',w',o',y',q0,q1,q2,q3,q4,hT⟩
theorem iEL (h:Bool) (r e w o y:List At) (j i:Nat) (d u:Int) (hr:AllI r 300) (he:AllI e 48) (hw:AllI w 1152) (ho:AllI o 300) (hy:AllI y 48) (hj:j<24) (hi:i<j):∃(h':Bool) (r' e' w' o' y':List At),AllI r' 300∧AllI e' 48∧AllI w' 1152∧AllI o' 300∧AllI y' 48∧To Tryz.prog 147 (c2 (c2 (c2 (c2 (c1 (c1 (c2 (c2 (c1 (c1 (c2 (c2 (c2 (c2 (c2 (c1 (c1 (c2 (c1 (c1 (c2 (c1 (c2 (c2 (c2 (c2 (c2 (c2 (jk Tryz.prog 158))))))))))))))))))))))))))))) ⟨[(0,A0),(8,PP 4),(9,PX 5),(12,PX 6),(13,PX 7),(14,IK j),(15,PX 8),(17,I d),(96,IK j),(97,IK i),(18,IK i),(19,I u),(116,IK 0)],(kr h r e w o y),9⟩ .normal ⟨[(0,A0),(8,PP 4),(9,PX 5),(12,PX 6),(13,PX 7),(14,IK j),(15,PX 8),(17,I d),(96,IK j),(97,IK i),(18,IK i),(19,I u)],(kr h' r' e' w' o' y'),9⟩:=by
 have round:∀(k:Nat) (s:Bool×List At×List At×List At×List At×List At),k<48→(AllI s.2.1 300∧AllI s.2.2.1 48∧AllI s.2.2.2.1 1152∧AllI s.2.2.2.2.1 300∧AllI s.2.2.2.2.2 48)→∃s':Bool×List At×List At×List At×List At×List At,(AllI s'.2.1 300∧AllI s'.2.2.1 48∧AllI s'.2.2.2.1 1152∧AllI s'.2.2.2.2.1 300∧AllI s'.2.2.2.2.2 48)∧To Tryz.prog 147 (c1 (c1 (c2 (c2 (c2 (c2 (c1 (c1 (c2 (c2 (c1 (c1 (c2 (c2 (c2 (c2 (c2 (c1 (c1 (c2 (c1 (c1 (c2 (c1 (c2 (c2 (c2 (c2 (c2 (c2 (jk Tryz.prog 158))))))))))))))))))))))))))))))) ((fun (k:Nat) (s:Bool×List At×List At×List At×List At×List At)=>(⟨[(0,A0),(8,PP 4),(9,PX 5),(12,PX 6),(13,PX 7),(14,IK j),(15,PX 8),(17,I d),(96,IK j),(97,IK i),(18,IK i),(19,I u),(116,IK k)],(kr (s.1) (s.2.1) (s.2.2.1) (s.2.2.2.1) (s.2.2.2.2.1) (s.2.2.2.2.2)),9⟩:Kst)) k s) .normal ((fun (k:Nat) (s:Bool×List At×List At×List At×List At×List At)=>(⟨[(0,A0),(8,PP 4),(9,PX 5),(12,PX 6),(13,PX 7),(14,IK j),(15,PX 8),(17,I d),(96,IK j),(97,IK i),(18,IK i),(19,I u),(116,IK k)],(kr (s.1) (s.2.1) (s.2.2.1) (s.2.2.2.1) (s.2.2.2.2.1) (s.2.2.2.2.2)),9⟩:Kst)) (k+1) s'):=by
  rintro k ⟨h,r,e,w,o,y⟩ hlt ⟨k0,k1,k2,k3,k4⟩
  obtain ⟨h',r',e',w',o',y',q0,q1,q2,q3,q4,hT⟩:=iE h r e w o y j i d u k k0 k1 k2 k3 k4 hj hi hlt
  exact ⟨(h',r',e',w',o',y'),⟨q0,q1,q2,q3,q4⟩,hT⟩
 have last:∀(s:Bool×List At×List At×List At×List At×List At),(AllI s.2.1 300∧AllI s.2.2.1 48∧AllI s.2.2.2.1 1152∧AllI s.2.2.2.2.1 300∧AllI s.2.2.2.2.2 48)→∃s':Bool×List At×List At×List At×List At×List At,(AllI s'.2.1 300∧AllI s'.2.2.1 48∧AllI s'.2.2.2.1 1152∧AllI s'.2.2.2.2.1 300∧AllI s'.2.2.2.2.2 48)∧To Tryz.prog 147 (c1 (c1 (c2 (c2 (c2 (c2 (c1 (c1 (c2 (c2 (c1 (c1 (c2 (c2 (c2 (c2 (c2 (c1 (c1 (c2 (c1 (c1 (c2 (c1 (c2 (c2 (c2 (c2 (c2 (c2 (jk Tryz.prog 158))))))))))))))))))))))))))))))) ((fun (k:Nat) (s:Bool×List At×List At×List At×List At×List At)=>(⟨[(0,A0),(8,PP 4),(9,PX 5),(12,PX 6),(13,PX 7),(14,IK j),(15,PX 8),(17,I d),(96,IK j),(97,IK i),(18,IK i),(19,I u),(116,IK k)],(kr (s.1) (s.2.1) (s.2.2.1) (s.2.2.2.1) (s.2.2.2.2.1) (s.2.2.2.2.2)),9⟩:Kst)) (48) s) (.exit 10) ((fun (s:Bool×List At×List At×List At×List At×List At)=>(⟨[(0,A0),(8,PP 4),(9,PX 5),(12,PX 6),(13,PX 7),(14,IK j),(15,PX 8),(17,I d),(96,IK j),(97,IK i),(18,IK i),(19,I u)],(kr (s.1) (s.2.1) (s.2.2.1) (s.2.2.2.1) (s.2.2.2.2.1) (s.2.2.2.2.2)),9⟩:Kst)) s'):=by
  rintro ⟨h,r,e,w,o,y⟩ ⟨k0,k1,k2,k3,k4⟩
  obtain ⟨h',r',e',w',o',y',q0,q1,q2,q3,q4,hT⟩:=iEe h r e w o y j i d u k0 k1 k2 k3 k4
  exact ⟨(h',r',e',w',o',y'),⟨q0,q1,q2,q3,q4⟩,hT⟩
 obtain ⟨⟨h',r',e',w',o',y'⟩,⟨q0,q1,q2,q3,q4⟩,hT⟩:=xc (id:=10) (by kernel_rfl) (by kernel_rfl) round last (h,r,e,w,o,y) ⟨hr,he,hw,ho,hy⟩
 exact ⟨h',r',e',w',o',y',q0,q1,q2,q3,q4,hT⟩
end Go.Proofs.YtnlhpaidmiogbaaGreat

/- thornton.Step: its loops together; its summary: numbers, whatever they are. -/
namespace Go.Proofs.YtnlhpaidmiogbaaGreat
open Go.Lr
set_option linter.unusedVariables false
set_option linter.unusedSimpArgs false
set_option maxRecDepth 20000
abbrev zJ (h:Bool) (x0 x1 x2 x3 x4:List At):Mem:=[(0,flag 61 h),(4,⟨56,(0,0),0,x0⟩),(5,⟨308,(0,0),0,x1⟩),(6,⟨351,(0,0),0,x2⟩),(7,⟨56,(0,0),0,x3⟩),(8,⟨308,(0,0),0,x4⟩)]
abbrev jyT (h:Bool) (x0 x1 x2 x3 x4:List At):List Blk:=[flag 61 h,⟨56,(0,0),0,x0⟩,⟨308,(0,0),0,x1⟩,⟨351,(0,0),0,x2⟩,⟨56,(0,0),0,x3⟩,⟨308,(0,0),0,x4⟩]
abbrev Zb (h:Bool) (x0 x1 x2 x3 x4:List At):Mem:=[(0,flag 61 h),(1,⟨56,(0,0),0,x0⟩),(2,⟨271,(0,0),0,x1⟩),(3,⟨47,(0,0),0,x2⟩),(4,⟨56,(0,0),0,x3⟩),(5,⟨308,(0,0),0,x4⟩)]
abbrev Zc (h:Bool) (x0 x1 x2 x3:List At):Mem:=[(0,flag 61 h),(4,⟨56,(0,0),0,x0⟩),(5,⟨308,(0,0),0,x1⟩),(6,⟨351,(0,0),0,x2⟩),(7,⟨56,(0,0),0,x3⟩)]
abbrev jyU (h:Bool) (x0 x1 x2 x3:List At):List Blk:=[flag 61 h,⟨56,(0,0),0,x0⟩,⟨308,(0,0),0,x1⟩,⟨351,(0,0),0,x2⟩,⟨56,(0,0),0,x3⟩]
theorem ok1 {nb:Nat} (hnb:9≤nb+3) {h:Bool} {p f q r e:List At} (hp:AllI p 300) (hf:AllI f 576) (hq:AllI q 24) (hr:AllI r 300) (he:AllI e 48):ku nb (Zb h p f q r e)=true:=
 je (by omega) rfl rfl (je (by omega) (hp.okb _) rfl (je (by omega) (hf.okb _) rfl (je (by omega) (hq.okb _) rfl (je (by omega) (hr.okb _) rfl (je (by omega) (he.okb _) rfl jU)))))
theorem ok3 {nb:Nat} (hnb:9≤nb+1) {h:Bool} {r e w o:List At} (hr:AllI r 300) (he:AllI e 48) (hw:AllI w 1152) (ho:AllI o 300):ku nb (Zc h r e w o)=true:=
 je (by omega) rfl rfl (je (by omega) (hr.okb _) rfl (je (by omega) (he.okb _) rfl (je (by omega) (hw.okb _) rfl (je (by omega) (ho.okb _) rfl jU))))
theorem ok4 {nb:Nat} (hnb:9≤nb+0) {h:Bool} {r e w o y:List At} (hr:AllI r 300) (he:AllI e 48) (hw:AllI w 1152) (ho:AllI o 300) (hy:AllI y 48):ku nb (zJ h r e w o y)=true:=
 je (by omega) rfl rfl (je (by omega) (hr.okb _) rfl (je (by omega) (he.okb _) rfl (je (by omega) (hw.okb _) rfl (je (by omega) (ho.okb _) rfl (je (by omega) (hy.okb _) rfl jU)))))
theorem sO (h:Bool) (p f q r e:List At) (i:Nat) (hp:AllI p 300) (hf:AllI f 576) (hq:AllI q 24) (hr:AllI r 300) (he:AllI e 48) (hi:i<24):∃(h':Bool) (p' f' q' r' e':List At),AllI p' 300∧AllI f' 576∧AllI q' 24∧AllI r' 300∧AllI e' 48∧To Tryz.prog 147 (c1 (c1 (c2 (c1 (c2 (c2 (c2 (jk Tryz.prog 158)))))))) ⟨[(0,A0),(5,PX 1),(6,PX 2),(7,PX 3),(8,PP 4),(9,PX 5),(24,IK i)],(Zb h p f q r e),6⟩ .normal ⟨[(0,A0),(5,PX 1),(6,PX 2),(7,PX 3),(8,PP 4),(9,PX 5),(24,IK (i+1))],(Zb h' p' f' q' r' e'),6⟩:=by
 obtain ⟨h1,p1,f1,q1,r1,e1,zp1,zf1,zq1,zr1,ze1,t1⟩:=sA h p f q r e i hp hf hq hr he hi
 obtain ⟨h2,p2,f2,q2,r2,e2,zp2,zf2,zq2,zr2,ze2,t2⟩:=sB h1 p1 f1 q1 r1 e1 i zp1 zf1 zq1 zr1 ze1 hi
 obtain ⟨h3,p3,f3,q3,r3,e3,zp3,zf3,zq3,zr3,ze3,t3⟩:=sC h2 p2 f2 q2 r2 e2 i zp2 zf2 zq2 zr2 ze2
 obtain ⟨h4,p4,f4,q4,r4,e4,zp4,zf4,zq4,zr4,ze4,t4⟩:=sDL h3 p3 f3 q3 r3 e3 i zp3 zf3 zq3 zr3 ze3 hi
 obtain ⟨h5,p5,f5,q5,r5,e5,zp5,zf5,zq5,zr5,ze5,t5⟩:=sE h4 p4 f4 q4 r4 e4 i zp4 zf4 zq4 zr4 ze4 hi
 exact ⟨h5,p5,f5,q5,r5,e5,zp5,zf5,zq5,zr5,ze5,t1 _ _ (To.seq (by kernel_rfl) (To.block (id:=1) (by kernel_rfl) (t2 _ _ (To.seq (by kernel_rfl) t3 t4)) (.inr rfl)) t5)⟩
theorem sOL (h:Bool) (p f q r e:List At) (hp:AllI p 300) (hf:AllI f 576) (hq:AllI q 24) (hr:AllI r 300) (he:AllI e 48):∃(h':Bool) (p' f' q' r' e':List At),AllI p' 300∧AllI f' 576∧AllI q' 24∧AllI r' 300∧AllI e' 48∧To Tryz.prog 147 (c2 (c1 (c2 (c2 (c2 (jk Tryz.prog 158)))))) ⟨[(0,A0),(5,PX 1),(6,PX 2),(7,PX 3),(8,PP 4),(9,PX 5),(24,IK 0)],(Zb h p f q r e),6⟩ .normal ⟨[(0,A0),(5,PX 1),(6,PX 2),(7,PX 3),(8,PP 4),(9,PX 5)],(Zb h' p' f' q' r' e'),6⟩:=by
 have round:∀(i:Nat) (s:Bool×List At×List At×List At×List At×List At),i<24→(AllI s.2.1 300∧AllI s.2.2.1 576∧AllI s.2.2.2.1 24∧AllI s.2.2.2.2.1 300∧AllI s.2.2.2.2.2 48)→∃s':Bool×List At×List At×List At×List At×List At,(AllI s'.2.1 300∧AllI s'.2.2.1 576∧AllI s'.2.2.2.1 24∧AllI s'.2.2.2.2.1 300∧AllI s'.2.2.2.2.2 48)∧To Tryz.prog 147 (c1 (c1 (c2 (c1 (c2 (c2 (c2 (jk Tryz.prog 158)))))))) ((fun (i:Nat) (s:Bool×List At×List At×List At×List At×List At)=>(⟨[(0,A0),(5,PX 1),(6,PX 2),(7,PX 3),(8,PP 4),(9,PX 5),(24,IK i)],(Zb (s.1) (s.2.1) (s.2.2.1) (s.2.2.2.1) (s.2.2.2.2.1) (s.2.2.2.2.2)),6⟩:Kst)) i s) .normal ((fun (i:Nat) (s:Bool×List At×List At×List At×List At×List At)=>(⟨[(0,A0),(5,PX 1),(6,PX 2),(7,PX 3),(8,PP 4),(9,PX 5),(24,IK i)],(Zb (s.1) (s.2.1) (s.2.2.1) (s.2.2.2.1) (s.2.2.2.2.1) (s.2.2.2.2.2)),6⟩:Kst)) (i+1) s'):=by
  rintro i ⟨h,p,f,q,r,e⟩ hlt ⟨k0,k1,k2,k3,k4⟩
  obtain ⟨h',p',f',q',r',e',q0,q1,q2,q3,q4,hT⟩:=sO h p f q r e i k0 k1 k2 k3 k4 hlt
  exact ⟨(h',p',f',q',r',e'),⟨q0,q1,q2,q3,q4⟩,hT⟩
 have last:∀(s:Bool×List At×List At×List At×List At×List At),(AllI s.2.1 300∧AllI s.2.2.1 576∧AllI s.2.2.2.1 24∧AllI s.2.2.2.2.1 300∧AllI s.2.2.2.2.2 48)→∃s':Bool×List At×List At×List At×List At×List At,(AllI s'.2.1 300∧AllI s'.2.2.1 576∧AllI s'.2.2.2.1 24∧AllI s'.2.2.2.2.1 300∧AllI s'.2.2.2.2.2 48)∧To Tryz.prog 147 (c1 (c1 (c2 (c1 (c2 (c2 (c2 (jk Tryz.prog 158)))))))) ((fun (i:Nat) (s:Bool×List At×List At×List At×List At×List At)=>(⟨[(0,A0),(5,PX 1),(6,PX 2),(7,PX 3),(8,PP 4),(9,PX 5),(24,IK i)],(Zb (s.1) (s.2.1) (s.2.2.1) (s.2.2.2.1) (s.2.2.2.2.1) (s.2.2.2.2.2)),6⟩:Kst)) (24) s) (.exit 0) ((fun (s:Bool×List At×List At×List At×List At×List At)=>(⟨[(0,A0),(5,PX 1),(6,PX 2),(7,PX 3),(8,PP 4),(9,PX 5)],(Zb (s.1) (s.2.1) (s.2.2.1) (s.2.2.2.1) (s.2.2.2.2.1) (s.2.2.2.2.2)),6⟩:Kst)) s'):=by
  rintro ⟨h,p,f,q,r,e⟩ ⟨k0,k1,k2,k3,k4⟩
  obtain ⟨h',p',f',q',r',e',q0,q1,q2,q3,q4,hT⟩:=sAe h p f q r e k0 k1 k2 k3 k4
  exact ⟨(h',p',f',q',r',e'),⟨q0,q1,q2,q3,q4⟩,hT⟩
 obtain ⟨⟨h',p',f',q',r',e'⟩,⟨q0,q1,q2,q3,q4⟩,hT⟩:=xc (id:=0) (by kernel_rfl) (by kernel_rfl) round last (h,p,f,q,r,e) ⟨hp,hf,hq,hr,he⟩
 exact ⟨h',p',f',q',r',e',q0,q1,q2,q3,q4,hT⟩
theorem iCR (dead:Nat→Value) (h:Bool) (r e w o y:List At) (j i:Nat) (d u:Int):jI [0,8,9,12,13,14,15,17,96,97,18,19] [0,4,5,6,7,8] (exec Tryz.prog KA2 Zl 400 (.code (c1 (c2 (c2 (c1 (c1 (c2 (c2 (c1 (c1 (c2 (c2 (c2 (c2 (c2 (c1 (c1 (c2 (c1 (c1 (c2 (c1 (c2 (c2 (c2 (c2 (c2 (c2 (jk Tryz.prog 158))))))))))))))))))))))))))))) (Kst.st ⟨[(0,A0),(8,PP 4),(9,PX 5),(12,PX 6),(13,PP 7),(14,IK j),(15,PX 8),(17,I d),(96,IK j),(97,IK i),(18,IK i),(19,I u)],(zJ h r e w (jq o 0 300) y),9⟩ 147 dead []))=some (.normal,[A0,PP 4,PX 5,PX 6,PP 7,IK j,PX 8,I d,IK j,IK i,IK i,I u],[some (flag 61 h),some ⟨56,(0,0),0,r⟩,some ⟨308,(0,0),0,e⟩,some ⟨351,(0,0),0,w⟩,some ⟨56,(0,0),0,jq ((jq o 0 300).set (0+0+(plV (i:Int) (j:Int)).toNat*1) (.int .i64 u)) 0 300⟩,some ⟨308,(0,0),0,y⟩],[(decide (0≤(i:Int)),true),(decide ((i:Int)<(j:Int)),true),(decide ((j:Int)<24),true)]):=by kernel_rfl
theorem iC (h:Bool) (r e w o y:List At) (j i:Nat) (d u:Int) (hr:AllI r 300) (he:AllI e 48) (hw:AllI w 1152) (ho:AllI o 300) (hy:AllI y 48) (hj:j<24) (hi:i<j):∃(h':Bool) (r' e' w' o' y':List At),AllI r' 300∧AllI e' 48∧AllI w' 1152∧AllI o' 300∧AllI y' 48∧To Tryz.prog 147 (c1 (c2 (c2 (c1 (c1 (c2 (c2 (c1 (c1 (c2 (c2 (c2 (c2 (c2 (c1 (c1 (c2 (c1 (c1 (c2 (c1 (c2 (c2 (c2 (c2 (c2 (c2 (jk Tryz.prog 158)))))))))))))))))))))))))))) ⟨[(0,A0),(8,PP 4),(9,PX 5),(12,PX 6),(13,PX 7),(14,IK j),(15,PX 8),(17,I d),(96,IK j),(97,IK i),(18,IK i),(19,I u)],(zJ h r e w o y),9⟩ .normal ⟨[(0,A0),(8,PP 4),(9,PX 5),(12,PX 6),(13,PX 7),(14,IK j),(15,PX 8),(17,I d),(96,IK j),(97,IK i),(18,IK i),(19,I u)],(zJ h' r' e' w' o' y'),9⟩:=by
 have ho2:AllI (jq ((jq o 0 300).set (0+0+(plV (i:Int) (j:Int)).toNat*1) (.int .i64 u)) 0 300) 300:=AllI.ints _ _ _
 refine ⟨h,r,e,w,(jq ((jq o 0 300).set (0+0+(plV (i:Int) (j:Int)).toNat*1) (.int .i64 u)) 0 300),y,hr,he,hw,ho2,hy, ?_⟩
 have hio:=AllI.ints o 0 300
 have key:To Tryz.prog 147 (c1 (c2 (c2 (c1 (c1 (c2 (c2 (c1 (c1 (c2 (c2 (c2 (c2 (c2 (c1 (c1 (c2 (c1 (c1 (c2 (c1 (c2 (c2 (c2 (c2 (c2 (c2 (jk Tryz.prog 158)))))))))))))))))))))))))))) ⟨[(0,A0),(8,PP 4),(9,PX 5),(12,PX 6),(13,PX 7),(14,IK j),(15,PX 8),(17,I d),(96,IK j),(97,IK i),(18,IK i),(19,I u)],(zJ h r e w (jq o 0 300) y),9⟩ .normal ⟨[(0,A0),(8,PP 4),(9,PX 5),(12,PX 6),(13,PX 7),(14,IK j),(15,PX 8),(17,I d),(96,IK j),(97,IK i),(18,IK i),(19,I u)],(zJ h r e w (jq ((jq o 0 300).set (0+0+(plV (i:Int) (j:Int)).toNat*1) (.int .i64 u)) 0 300) y),9⟩:=by
  refine To.post (B:=⟨[(0,A0),(8,PP 4),(9,PX 5),(12,PX 6),(13,PP 7),(14,IK j),(15,PX 8),(17,I d),(96,IK j),(97,IK i),(18,IK i),(19,I u)],(zJ h r e w (jq ((jq o 0 300).set (0+0+(plV (i:Int) (j:Int)).toNat*1) (.int .i64 u)) 0 300) y),9⟩) (To.pre (B:=⟨[(0,A0),(8,PP 4),(9,PX 5),(12,PX 6),(13,PP 7),(14,IK j),(15,PX 8),(17,I d),(96,IK j),(97,IK i),(18,IK i),(19,I u)],(zJ h r e w (jq o 0 300) y),9⟩) (To.exec (z:=Zl) j4 (slots:=[0,8,9,12,13,14,15,17,96,97,18,19]) (blks:=[0,4,5,6,7,8]) (vs:=[A0,PP 4,PX 5,PX 6,PP 7,IK j,PX 8,I d,IK j,IK i,IK i,I u]) (bs:=(jyT h r e w (jq ((jq o 0 300).set (0+0+(plV (i:Int) (j:Int)).toNat*1) (.int .i64 u)) 0 300) y)) (nbB:=9) (fun dead=>iCR dead h r e w o y j i d u) (ja (decide_eq_true (by omega)) (ja (decide_eq_true (by omega)) (ja (decide_eq_true (by omega)) jd))) (jr rfl (ok4 (by omega) hr he hw ho2 hy)) (Nat.le_refl _)) (jr rfl (ok4 (by omega) hr he hw hio hy)) (fun q hq=>by
   simp only [List.mem_cons,List.not_mem_nil,or_false] at hq
   rcases hq with rfl | rfl | rfl | rfl | rfl | rfl | rfl | rfl | rfl | rfl | rfl | rfl
   ·exact ⟨A0,by simp,fun _=>rfl⟩
   ·exact ⟨PP 4,by simp,fun _=>rfl⟩
   ·exact ⟨PX 5,by simp,fun _=>rfl⟩
   ·exact ⟨PX 6,by simp,fun _=>rfl⟩
   ·exact ⟨PX 7,by simp,fun _=>rfl⟩
   ·exact ⟨IK j,by simp,fun _=>rfl⟩
   ·exact ⟨PX 8,by simp,fun _=>rfl⟩
   ·exact ⟨I d,by simp,fun _=>rfl⟩
   ·exact ⟨IK j,by simp,fun _=>rfl⟩
   ·exact ⟨IK i,by simp,fun _=>rfl⟩
   ·exact ⟨IK i,by simp,fun _=>rfl⟩
   ·exact ⟨I u,by simp,fun _=>rfl⟩
   ) rfl rfl) (jr rfl (ok4 (by omega) hr he hw ho2 hy)) (fun q hq=>by
   simp only [List.mem_cons,List.not_mem_nil,or_false] at hq
   rcases hq with rfl | rfl | rfl | rfl | rfl | rfl | rfl | rfl | rfl | rfl | rfl | rfl
   ·exact ⟨A0,by simp,fun _=>rfl⟩
   ·exact ⟨PP 4,by simp,fun _=>rfl⟩
   ·exact ⟨PX 5,by simp,fun _=>rfl⟩
   ·exact ⟨PX 6,by simp,fun _=>rfl⟩
   ·exact ⟨PP 7,by simp,fun _=>rfl⟩
   ·exact ⟨IK j,by simp,fun _=>rfl⟩
   ·exact ⟨PX 8,by simp,fun _=>rfl⟩
   ·exact ⟨I d,by simp,fun _=>rfl⟩
   ·exact ⟨IK j,by simp,fun _=>rfl⟩
   ·exact ⟨IK i,by simp,fun _=>rfl⟩
   ·exact ⟨IK i,by simp,fun _=>rfl⟩
   ·exact ⟨I u,by simp,fun _=>rfl⟩
   ) rfl rfl
 have eo:jq o 0 300=o:=ho.eq.symm
 generalize jq ((jq o 0 300).set (0+0+(plV (i:Int) (j:Int)).toNat*1) (.int .i64 u)) 0 300=o2 at key ho2 ⊢
 rw [eo] at key
 exact key
theorem iO (h:Bool) (r e w o y:List At) (j:Nat) (d:Int) (i:Nat) (hr:AllI r 300) (he:AllI e 48) (hw:AllI w 1152) (ho:AllI o 300) (hy:AllI y 48) (hj:j<24) (hi:i<j):∃(h':Bool) (r' e' w' o' y':List At),AllI r' 300∧AllI e' 48∧AllI w' 1152∧AllI o' 300∧AllI y' 48∧To Tryz.prog 147 (c1 (c1 (c2 (c2 (c2 (c2 (c2 (c1 (c1 (c2 (c1 (c1 (c2 (c1 (c2 (c2 (c2 (c2 (c2 (c2 (jk Tryz.prog 158))))))))))))))))))))) ⟨[(0,A0),(8,PP 4),(9,PX 5),(12,PX 6),(13,PX 7),(14,IK j),(15,PX 8),(17,I d),(96,IK j),(97,IK i)],(zJ h r e w o y),9⟩ .normal ⟨[(0,A0),(8,PP 4),(9,PX 5),(12,PX 6),(13,PX 7),(14,IK j),(15,PX 8),(17,I d),(96,IK j),(97,IK (i+1))],(zJ h' r' e' w' o' y'),9⟩:=by
 obtain ⟨h1,r1,e1,w1,o1,y1,zr1,ze1,zw1,zo1,zy1,t1⟩:=iA h r e w o y j i d hr he hw ho hy hi
 obtain ⟨u,h2,r2,e2,w2,o2,y2,zr2,ze2,zw2,zo2,zy2,t2⟩:=iB h1 r1 e1 w1 o1 y1 j i d zr1 ze1 zw1 zo1 zy1 hj hi
 obtain ⟨h3,r3,e3,w3,o3,y3,zr3,ze3,zw3,zo3,zy3,t3⟩:=iC h2 r2 e2 w2 o2 y2 j i d u zr2 ze2 zw2 zo2 zy2 hj hi
 obtain ⟨h4,r4,e4,w4,o4,y4,zr4,ze4,zw4,zo4,zy4,t4⟩:=iD h3 r3 e3 w3 o3 y3 j i d u zr3 ze3 zw3 zo3 zy3
 obtain ⟨h5,r5,e5,w5,o5,y5,zr5,ze5,zw5,zo5,zy5,t5⟩:=iEL h4 r4 e4 w4 o4 y4 j i d u zr4 ze4 zw4 zo4 zy4 hj hi
 obtain ⟨h6,r6,e6,w6,o6,y6,zr6,ze6,zw6,zo6,zy6,t6⟩:=iF h5 r5 e5 w5 o5 y5 j i d u zr5 ze5 zw5 zo5 zy5 hj hi
 exact ⟨h6,r6,e6,w6,o6,y6,zr6,ze6,zw6,zo6,zy6,t1 _ _ (To.seq (by kernel_rfl) (To.block (id:=9) (by kernel_rfl) (t2 _ _ (To.seq (by kernel_rfl) t3 (To.seq (by kernel_rfl) t4 t5))) (.inr rfl)) t6)⟩
theorem iOL (h:Bool) (r e w o y:List At) (j:Nat) (d:Int) (hr:AllI r 300) (he:AllI e 48) (hw:AllI w 1152) (ho:AllI o 300) (hy:AllI y 48) (hj:j<24):∃(h':Bool) (r' e' w' o' y':List At),AllI r' 300∧AllI e' 48∧AllI w' 1152∧AllI o' 300∧AllI y' 48∧To Tryz.prog 147 (c2 (c2 (c2 (c2 (c2 (c1 (c1 (c2 (c1 (c1 (c2 (c1 (c2 (c2 (c2 (c2 (c2 (c2 (jk Tryz.prog 158))))))))))))))))))) ⟨[(0,A0),(8,PP 4),(9,PX 5),(12,PX 6),(13,PX 7),(14,IK j),(15,PX 8),(17,I d),(96,IK j),(97,IK 0)],(zJ h r e w o y),9⟩ .normal ⟨[(0,A0),(8,PP 4),(9,PX 5),(12,PX 6),(13,PX 7),(14,IK j)],(zJ h' r' e' w' o' y'),9⟩:=by
 have round:∀(i:Nat) (s:Bool×List At×List At×List At×List At×List At),i<j→(AllI s.2.1 300∧AllI s.2.2.1 48∧AllI s.2.2.2.1 1152∧AllI s.2.2.2.2.1 300∧AllI s.2.2.2.2.2 48)→∃s':Bool×List At×List At×List At×List At×List At,(AllI s'.2.1 300∧AllI s'.2.2.1 48∧AllI s'.2.2.2.1 1152∧AllI s'.2.2.2.2.1 300∧AllI s'.2.2.2.2.2 48)∧To Tryz.prog 147 (c1 (c1 (c2 (c2 (c2 (c2 (c2 (c1 (c1 (c2 (c1 (c1 (c2 (c1 (c2 (c2 (c2 (c2 (c2 (c2 (jk Tryz.prog 158))))))))))))))))))))) ((fun (i:Nat) (s:Bool×List At×List At×List At×List At×List At)=>(⟨[(0,A0),(8,PP 4),(9,PX 5),(12,PX 6),(13,PX 7),(14,IK j),(15,PX 8),(17,I d),(96,IK j),(97,IK i)],(zJ (s.1) (s.2.1) (s.2.2.1) (s.2.2.2.1) (s.2.2.2.2.1) (s.2.2.2.2.2)),9⟩:Kst)) i s) .normal ((fun (i:Nat) (s:Bool×List At×List At×List At×List At×List At)=>(⟨[(0,A0),(8,PP 4),(9,PX 5),(12,PX 6),(13,PX 7),(14,IK j),(15,PX 8),(17,I d),(96,IK j),(97,IK i)],(zJ (s.1) (s.2.1) (s.2.2.1) (s.2.2.2.1) (s.2.2.2.2.1) (s.2.2.2.2.2)),9⟩:Kst)) (i+1) s'):=by
  rintro i ⟨h,r,e,w,o,y⟩ hlt ⟨k0,k1,k2,k3,k4⟩
  obtain ⟨h',r',e',w',o',y',q0,q1,q2,q3,q4,hT⟩:=iO h r e w o y j d i k0 k1 k2 k3 k4 hj hlt
  exact ⟨(h',r',e',w',o',y'),⟨q0,q1,q2,q3,q4⟩,hT⟩
 have last:∀(s:Bool×List At×List At×List At×List At×List At),(AllI s.2.1 300∧AllI s.2.2.1 48∧AllI s.2.2.2.1 1152∧AllI s.2.2.2.2.1 300∧AllI s.2.2.2.2.2 48)→∃s':Bool×List At×List At×List At×List At×List At,(AllI s'.2.1 300∧AllI s'.2.2.1 48∧AllI s'.2.2.2.1 1152∧AllI s'.2.2.2.2.1 300∧AllI s'.2.2.2.2.2 48)∧To Tryz.prog 147 (c1 (c1 (c2 (c2 (c2 (c2 (c2 (c1 (c1 (c2 (c1 (c1 (c2 (c1 (c2 (c2 (c2 (c2 (c2 (c2 (jk Tryz.prog 158))))))))))))))))))))) ((fun (i:Nat) (s:Bool×List At×List At×List At×List At×List At)=>(⟨[(0,A0),(8,PP 4),(9,PX 5),(12,PX 6),(13,PX 7),(14,IK j),(15,PX 8),(17,I d),(96,IK j),(97,IK i)],(zJ (s.1) (s.2.1) (s.2.2.1) (s.2.2.2.1) (s.2.2.2.2.1) (s.2.2.2.2.2)),9⟩:Kst)) (j) s) (.exit 8) ((fun (s:Bool×List At×List At×List At×List At×List At)=>(⟨[(0,A0),(8,PP 4),(9,PX 5),(12,PX 6),(13,PX 7),(14,IK j)],(zJ (s.1) (s.2.1) (s.2.2.1) (s.2.2.2.1) (s.2.2.2.2.1) (s.2.2.2.2.2)),9⟩:Kst)) s'):=by
  rintro ⟨h,r,e,w,o,y⟩ ⟨k0,k1,k2,k3,k4⟩
  obtain ⟨h',r',e',w',o',y',q0,q1,q2,q3,q4,hT⟩:=iAe h r e w o y j d k0 k1 k2 k3 k4
  exact ⟨(h',r',e',w',o',y'),⟨q0,q1,q2,q3,q4⟩,hT⟩
 obtain ⟨⟨h',r',e',w',o',y'⟩,⟨q0,q1,q2,q3,q4⟩,hT⟩:=xc (id:=8) (by kernel_rfl) (by kernel_rfl) round last (h,r,e,w,o,y) ⟨hr,he,hw,ho,hy⟩
 exact ⟨h',r',e',w',o',y',q0,q1,q2,q3,q4,hT⟩
theorem mHR (dead:Nat→Value) (h:Bool) (r e w o y:List At) (j:Nat):jI [0,8,9,12,13,14] [0,4,5,6,7] (exec Tryz.prog KA2 Zl 400 (.code (c2 (c2 (c1 (c1 (c2 (c1 (c2 (c2 (c2 (c2 (c2 (c2 (jk Tryz.prog 158)))))))))))))) (Kst.st ⟨[(0,A0),(8,PP 4),(9,PX 5),(12,PX 6),(13,PX 7),(14,IK j)],(zJ h r e w o y),9⟩ 147 dead []))=some (.normal,[A0,PP 4,PX 5,PX 6,PX 7,I (wr .i64 ((j:Int) - 1))],[some (flag 61 h),some ⟨56,(0,0),0,r⟩,some ⟨308,(0,0),0,e⟩,some ⟨351,(0,0),0,w⟩,some ⟨56,(0,0),0,o⟩],[]):=by kernel_rfl
theorem mO (h:Bool) (r e w o:List At) (k:Nat) (hr:AllI r 300) (he:AllI e 48) (hw:AllI w 1152) (ho:AllI o 300) (hk:k<24):∃(h':Bool) (r' e' w' o':List At),AllI r' 300∧AllI e' 48∧AllI w' 1152∧AllI o' 300∧To Tryz.prog 147 (c1 (c1 (c2 (c1 (c2 (c2 (c2 (c2 (c2 (c2 (jk Tryz.prog 158))))))))))) ⟨[(0,A0),(8,PP 4),(9,PX 5),(12,PX 6),(13,PX 7),(14,I (23 - (k:Int)))],(Zc h r e w o),8⟩ .normal ⟨[(0,A0),(8,PP 4),(9,PX 5),(12,PX 6),(13,PX 7),(14,I (23 - ((k+1:Nat):Int)))],(Zc h' r' e' w' o'),8⟩:=by
 have e1:(23 - (k:Int))=((23 - k:Nat):Int):=by omega
 have e2:(23 - ((k+1:Nat):Int))=wr .i64 (((23 - k:Nat):Int) - 1):=by
  show _=w64 (((23 - k:Nat):Int) - 1)
  rw [xu (by omega) (by omega)];omega
 rw [e1,e2]
 obtain ⟨j,hj0⟩:∃j,j=23 - k:=⟨_,rfl⟩
 rw [←hj0]
 have hj:j<24:=by omega
 clear e1 e2 hj0
 obtain ⟨h1,r1,e1,w1,o1,zr1,ze1,zw1,zo1,t1⟩:=mA h r e w o j hr he hw ho
 obtain ⟨h2,r2,e2,w2,o2,y2,zr2,ze2,zw2,zo2,zy2,t2⟩:=mB h1 r1 e1 w1 o1 j zr1 ze1 zw1 zo1
 obtain ⟨h3,r3,e3,w3,o3,y3,zr3,ze3,zw3,zo3,zy3,t3⟩:=mC h2 r2 e2 w2 o2 y2 j zr2 ze2 zw2 zo2 zy2
 obtain ⟨h4,r4,e4,w4,o4,y4,zr4,ze4,zw4,zo4,zy4,t4⟩:=mDL h3 r3 e3 w3 o3 y3 j zr3 ze3 zw3 zo3 zy3 hj
 obtain ⟨d,h5,r5,e5,w5,o5,y5,zr5,ze5,zw5,zo5,zy5,t5⟩:=mE h4 r4 e4 w4 o4 y4 j zr4 ze4 zw4 zo4 zy4 hj
 obtain ⟨h6,r6,e6,w6,o6,y6,zr6,ze6,zw6,zo6,zy6,t6⟩:=mF h5 r5 e5 w5 o5 y5 j d zr5 ze5 zw5 zo5 zy5 hj
 obtain ⟨h7,r7,e7,w7,o7,y7,zr7,ze7,zw7,zo7,zy7,t7⟩:=mG h6 r6 e6 w6 o6 y6 j d zr6 ze6 zw6 zo6 zy6
 obtain ⟨h8,r8,e8,w8,o8,y8,zr8,ze8,zw8,zo8,zy8,t8⟩:=iOL h7 r7 e7 w7 o7 y7 j d zr7 ze7 zw7 zo7 zy7 hj
 refine ⟨h8,r8,e8,w8,o8,zr8,ze8,zw8,zo8,To.lower (n:=9) (To.seq (by kernel_rfl) t1 (To.seq (by kernel_rfl) (To.block (id:=5) (by kernel_rfl) (To.seq (by kernel_rfl) t2 (To.pre (To.seq (by kernel_rfl) (To.seq (by kernel_rfl) t3 t4) (To.seq (by kernel_rfl) t5 (To.seq (by kernel_rfl) t6 (To.seq (by kernel_rfl) t7 t8)))) (jr rfl (ok4 (by omega) zr2 ze2 zw2 zo2 zy2)) (fun q hq=>by
   simp only [List.mem_cons,List.not_mem_nil,or_false] at hq
   rcases hq with rfl | rfl | rfl | rfl | rfl | rfl | rfl
   ·exact ⟨A0,by simp,fun _=>rfl⟩
   ·exact ⟨PP 4,by simp,fun _=>rfl⟩
   ·exact ⟨PX 5,by simp,fun _=>rfl⟩
   ·exact ⟨PX 6,by simp,fun _=>rfl⟩
   ·exact ⟨PX 7,by simp,fun _=>rfl⟩
   ·exact ⟨IK j,by simp,fun _=>rfl⟩
   ·exact ⟨PP 8,by simp,fun _=>rfl⟩
   ) rfl rfl)) (.inr rfl)) (To.exec (z:=Zl) j4 (slots:=[0,8,9,12,13,14]) (blks:=[0,4,5,6,7]) (vs:=[A0,PP 4,PX 5,PX 6,PX 7,I (wr .i64 ((j:Int) - 1))]) (bs:=(jyU h8 r8 e8 w8 o8)) (nbB:=9) (fun dead=>mHR dead h8 r8 e8 w8 o8 y8 j) jd (jr rfl (ok3 (by omega) zr8 ze8 zw8 zo8)) (Nat.le_refl _)))) (Nat.le_refl _) (jr rfl (ok3 (by omega) zr8 ze8 zw8 zo8))⟩
theorem mOL (h:Bool) (r e w o:List At) (hr:AllI r 300) (he:AllI e 48) (hw:AllI w 1152) (ho:AllI o 300):∃(h':Bool) (r' e' w' o':List At),AllI r' 300∧AllI e' 48∧AllI w' 1152∧AllI o' 300∧To Tryz.prog 147 (c2 (c1 (c2 (c2 (c2 (c2 (c2 (c2 (jk Tryz.prog 158))))))))) ⟨[(0,A0),(8,PP 4),(9,PX 5),(12,PX 6),(13,PX 7),(14,I (23 - (0:Int)))],(Zc h r e w o),8⟩ .normal ⟨[(0,A0),(8,PP 4),(9,PX 5),(12,PX 6),(13,PX 7)],(Zc h' r' e' w' o'),8⟩:=by
 have round:∀(k:Nat) (s:Bool×List At×List At×List At×List At),k<24→(AllI s.2.1 300∧AllI s.2.2.1 48∧AllI s.2.2.2.1 1152∧AllI s.2.2.2.2 300)→∃s':Bool×List At×List At×List At×List At,(AllI s'.2.1 300∧AllI s'.2.2.1 48∧AllI s'.2.2.2.1 1152∧AllI s'.2.2.2.2 300)∧To Tryz.prog 147 (c1 (c1 (c2 (c1 (c2 (c2 (c2 (c2 (c2 (c2 (jk Tryz.prog 158))))))))))) ((fun (k:Nat) (s:Bool×List At×List At×List At×List At)=>(⟨[(0,A0),(8,PP 4),(9,PX 5),(12,PX 6),(13,PX 7),(14,I (23 - (k:Int)))],(Zc (s.1) (s.2.1) (s.2.2.1) (s.2.2.2.1) (s.2.2.2.2)),8⟩:Kst)) k s) .normal ((fun (k:Nat) (s:Bool×List At×List At×List At×List At)=>(⟨[(0,A0),(8,PP 4),(9,PX 5),(12,PX 6),(13,PX 7),(14,I (23 - (k:Int)))],(Zc (s.1) (s.2.1) (s.2.2.1) (s.2.2.2.1) (s.2.2.2.2)),8⟩:Kst)) (k+1) s'):=by
  rintro k ⟨h,r,e,w,o⟩ hlt ⟨k0,k1,k2,k3⟩
  obtain ⟨h',r',e',w',o',q0,q1,q2,q3,hT⟩:=mO h r e w o k k0 k1 k2 k3 hlt
  exact ⟨(h',r',e',w',o'),⟨q0,q1,q2,q3⟩,hT⟩
 have last:∀(s:Bool×List At×List At×List At×List At),(AllI s.2.1 300∧AllI s.2.2.1 48∧AllI s.2.2.2.1 1152∧AllI s.2.2.2.2 300)→∃s':Bool×List At×List At×List At×List At,(AllI s'.2.1 300∧AllI s'.2.2.1 48∧AllI s'.2.2.2.1 1152∧AllI s'.2.2.2.2 300)∧To Tryz.prog 147 (c1 (c1 (c2 (c1 (c2 (c2 (c2 (c2 (c2 (c2 (jk Tryz.prog 158))))))))))) ((fun (k:Nat) (s:Bool×List At×List At×List At×List At)=>(⟨[(0,A0),(8,PP 4),(9,PX 5),(12,PX 6),(13,PX 7),(14,I (23 - (k:Int)))],(Zc (s.1) (s.2.1) (s.2.2.1) (s.2.2.2.1) (s.2.2.2.2)),8⟩:Kst)) (24) s) (.exit 4) ((fun (s:Bool×List At×List At×List At×List At)=>(⟨[(0,A0),(8,PP 4),(9,PX 5),(12,PX 6),(13,PX 7)],(Zc (s.1) (s.2.1) (s.2.2.1) (s.2.2.2.1) (s.2.2.2.2)),8⟩:Kst)) s'):=by
  rintro ⟨h,r,e,w,o⟩ ⟨k0,k1,k2,k3⟩
  obtain ⟨h',r',e',w',o',q0,q1,q2,q3,hT⟩:=mAe h r e w o k0 k1 k2 k3
  exact ⟨(h',r',e',w',o'),⟨q0,q1,q2,q3⟩,hT⟩
 obtain ⟨⟨h',r',e',w',o'⟩,⟨q0,q1,q2,q3⟩,hT⟩:=xc (id:=4) (by kernel_rfl) (by kernel_rfl) round last (h,r,e,w,o) ⟨hr,he,hw,ho⟩
 exact ⟨h',r',e',w',o',q0,q1,q2,q3,hT⟩
end Go.Proofs.YtnlhpaidmiogbaaGreat

/- thornton.Step: the whole; its summary: three hundred numbers, whatever they are. -/
namespace Go.Proofs.YtnlhpaidmiogbaaGreat
open Go.Lr
set_option linter.unusedVariables false
set_option linter.unusedSimpArgs false
set_option maxRecDepth 20000
abbrev jlM (h:Bool) (x0 x1 x2 x3 x4:List At):Mem:=[(0,flag 61 h),(1,⟨56,(0,0),0,x0⟩),(2,⟨271,(0,0),0,x1⟩),(3,⟨47,(0,0),0,x2⟩),(4,⟨56,(0,0),0,x3⟩),(5,⟨308,(0,0),0,x4⟩)]
abbrev jyV (h:Bool) (x0 x1 x2 x3 x4:List At):List Blk:=[flag 61 h,⟨56,(0,0),0,x0⟩,⟨271,(0,0),0,x1⟩,⟨47,(0,0),0,x2⟩,⟨56,(0,0),0,x3⟩,⟨308,(0,0),0,x4⟩]
abbrev jlN (h:Bool) (x0 x1 x2 x3:List At):Mem:=[(0,flag 61 h),(4,⟨56,(0,0),0,x0⟩),(5,⟨308,(0,0),0,x1⟩),(6,⟨351,(0,0),0,x2⟩),(7,⟨56,(0,0),0,x3⟩)]
theorem jEo (dead:Nat→Value) (h:Bool) (p f q:List At):jI [0,5,6,7,8,9] [0,1,2,3,4,5] (xA Tryz.prog KA2 Zl 400 (kV 3 (jk Tryz.prog 158)) (Kst.st ⟨kC 0 [A0,.v (.agg (jq p 0 300)),.v (.agg (jq f 0 576)),.v (.agg (jq q 0 24))],[(0,flag 61 h)],1⟩ 147 dead []))=some (.normal,[A0,PP 1,PP 2,PP 3,PP 4,PP 5],[some (flag 61 (Go.Lr.exH Tryz.prog 201 61 300 [.v (.agg (jq p 0 300))] h)),some ⟨56,(0,0),0,(mkI (Go.Lr.exN Tryz.prog 201 61 300 [.v (.agg (jq p 0 300))] h) 0 300)⟩,some ⟨271,(0,0),0,jq f 0 576⟩,some ⟨47,(0,0),0,jq q 0 24⟩,some ⟨56,(0,0),0,zc 56⟩,some ⟨308,(0,0),0,zc 308⟩],[]):=by kernel_rfl
theorem jyW (dead:Nat→Value) (h:Bool) (p f q r e:List At):jI [0,8,9,12] [0,4,5,6] (exec Tryz.prog KA2 Zl 400 (.code (c1 (c2 (c2 (c2 (c2 (jk Tryz.prog 158))))))) (Kst.st ⟨[(0,A0),(5,PX 1),(6,PP 2),(8,PP 4),(9,PX 5)],(jlM h p (jq f 0 576) q r e),6⟩ 147 dead []))=some (.normal,[A0,PP 4,PX 5,PP 6],[some (flag 61 (jbm (jq p 0 300) (jq f 0 576) h).2.2),some ⟨56,(0,0),0,r⟩,some ⟨308,(0,0),0,e⟩,some ⟨351,(0,0),0,mkI (jo (jbm (jq p 0 300) (jq f 0 576) h).2.1) 0 1152⟩],[(qT p 0 300&&decide (300≠0),true)]):=by kernel_rfl
theorem jlO (h:Bool) (p f q r e:List At) (hp:AllI p 300) (hf:AllI f 576) (hq:AllI q 24) (hr:AllI r 300) (he:AllI e 48):∃(h':Bool) (w':List At),AllI w' 1152∧To Tryz.prog 147 (c1 (c2 (c2 (c2 (c2 (jk Tryz.prog 158)))))) ⟨[(0,A0),(5,PX 1),(6,PP 2),(8,PP 4),(9,PX 5)],(jlM h p f q r e),6⟩ .normal ⟨[(0,A0),(8,PP 4),(9,PX 5),(12,PP 6)],[(0,flag 61 h'),(4,⟨56,(0,0),0,r⟩),(5,⟨308,(0,0),0,e⟩),(6,⟨351,(0,0),0,w'⟩)],7⟩:=by
 have hif:=AllI.ints f 0 576
 have hwq:AllI (mkI (jo (jbm (jq p 0 300) (jq f 0 576) h).2.1) 0 1152) 1152:=AllI.mkF _ _ _
 refine ⟨(jbm (jq p 0 300) (jq f 0 576) h).2.2,mkI (jo (jbm (jq p 0 300) (jq f 0 576) h).2.1) 0 1152,hwq, ?_⟩
 have key:To Tryz.prog 147 (c1 (c2 (c2 (c2 (c2 (jk Tryz.prog 158)))))) ⟨[(0,A0),(5,PX 1),(6,PP 2),(8,PP 4),(9,PX 5)],(jlM h p (jq f 0 576) q r e),6⟩ .normal ⟨[(0,A0),(8,PP 4),(9,PX 5),(12,PP 6)],[(0,flag 61 (jbm (jq p 0 300) (jq f 0 576) h).2.2),(4,⟨56,(0,0),0,r⟩),(5,⟨308,(0,0),0,e⟩),(6,⟨351,(0,0),0,mkI (jo (jbm (jq p 0 300) (jq f 0 576) h).2.1) 0 1152⟩)],7⟩:=
  To.exec (z:=Zl) j4 (slots:=[0,8,9,12]) (blks:=[0,4,5,6]) (vs:=[A0,PP 4,PX 5,PP 6]) (bs:=[flag 61 (jbm (jq p 0 300) (jq f 0 576) h).2.2,⟨56,(0,0),0,r⟩,⟨308,(0,0),0,e⟩,⟨351,(0,0),0,mkI (jo (jbm (jq p 0 300) (jq f 0 576) h).2.1) 0 1152⟩]) (nbB:=7) (fun dead=>jyW dead h p f q r e) (ja (by rw [hp.areI 300 0 (Nat.le_refl _)];rfl) jd) (jr rfl (je (by omega) rfl rfl (je (by omega) (hr.okb _) rfl (je (by omega) (he.okb _) rfl (je (by omega) (hwq.okb _) rfl jU))))) (Nat.le_of_ble_eq_true rfl)
 have eo:jq f 0 576=f:=hf.eq.symm
 generalize jbm (jq p 0 300) (jq f 0 576) h=qq at key hwq ⊢
 rw [eo] at key
 exact key
theorem stZ (dead:Nat→Value) (h:Bool) (r e w o:List At):jI [8] [0,4] (exec Tryz.prog KA2 Zl 400 (.code (c2 (c2 (c2 (c2 (c2 (c2 (c2 (jk Tryz.prog 158))))))))) (Kst.st ⟨[(0,A0),(8,PP 4),(9,PX 5),(12,PX 6),(13,PX 7)],(jlN h (jq r 0 300) e w o),8⟩ 147 dead []))=some (.ret,[PP 4],[some (flag 61 h),some ⟨56,(0,0),0,jq o 0 300⟩],[(qT o 0 300&&decide (300≠0),true)]):=by kernel_rfl
theorem jyX (h:Bool) (r e w o:List At) (hr:AllI r 300) (he:AllI e 48) (hw:AllI w 1152) (ho:AllI o 300):To Tryz.prog 147 (c2 (c2 (c2 (c2 (c2 (c2 (c2 (jk Tryz.prog 158)))))))) ⟨[(0,A0),(8,PP 4),(9,PX 5),(12,PX 6),(13,PX 7)],(jlN h r e w o),8⟩ .ret ⟨[(8,PP 4)],[(0,flag 61 h),(4,⟨56,(0,0),0,jq o 0 300⟩)],8⟩:=by
 have hir:=AllI.ints r 0 300
 have key:To Tryz.prog 147 (c2 (c2 (c2 (c2 (c2 (c2 (c2 (jk Tryz.prog 158)))))))) ⟨[(0,A0),(8,PP 4),(9,PX 5),(12,PX 6),(13,PX 7)],(jlN h (jq r 0 300) e w o),8⟩ .ret ⟨[(8,PP 4)],[(0,flag 61 h),(4,⟨56,(0,0),0,jq o 0 300⟩)],8⟩:=
  To.exec (z:=Zl) j4 (slots:=[8]) (blks:=[0,4]) (vs:=[PP 4]) (bs:=[flag 61 h,⟨56,(0,0),0,jq o 0 300⟩]) (nbB:=8) (fun dead=>stZ dead h r e w o) (ja (by rw [ho.areI 300 0 (Nat.le_refl _)];rfl) jd) (jr rfl (je (by omega) rfl rfl (je (by omega) ((AllI.ints o 0 300).okb _) rfl jU))) (Nat.le_refl _)
 have eo:jq r 0 300=r:=hr.eq.symm
 rw [eo] at key
 exact key
theorem jEp (h:Bool) (p f q:List At) (hp:AllI p 300) (hf:AllI f 576) (hq:AllI q 24):∃l h',AllI l 300∧ExA Tryz.prog 158 61 [.v (.agg p),.v (.agg f),.v (.agg q)] h (.v (.agg l)) h':=by
 rw [hp.eq,hf.eq,hq.eq]
 have zp0:AllI (mkI (Go.Lr.exN Tryz.prog 201 61 300 [.v (.agg (jq p 0 300))] h) 0 300) 300:=AllI.mkF _ _ _
 have zf0:=AllI.ints f 0 576
 have zq0:=AllI.ints q 0 24
 obtain ⟨h1,p1,f1,q1,r1,e1,zp1,zf1,zq1,zr1,ze1,t1⟩:=sI (Go.Lr.exH Tryz.prog 201 61 300 [.v (.agg (jq p 0 300))] h) (mkI (Go.Lr.exN Tryz.prog 201 61 300 [.v (.agg (jq p 0 300))] h) 0 300) (jq f 0 576) (jq q 0 24) (zc 56) (zc 308) zp0 zf0 zq0 yZ Ze
 obtain ⟨h2,p2,f2,q2,r2,e2,zp2,zf2,zq2,zr2,ze2,t2⟩:=sOL h1 p1 f1 q1 r1 e1 zp1 zf1 zq1 zr1 ze1
 obtain ⟨h3,w3,zw3,t3⟩:=jlO h2 p2 f2 q2 r2 e2 zp2 zf2 zq2 zr2 ze2
 obtain ⟨h4,r4,e4,w4,o4,zr4,ze4,zw4,zo4,t4⟩:=mN h3 r2 e2 w3 zr2 ze2 zw3
 obtain ⟨h5,r5,e5,w5,o5,zr5,ze5,zw5,zo5,t5⟩:=mI h4 r4 e4 w4 o4 zr4 ze4 zw4 zo4
 obtain ⟨h6,r6,e6,w6,o6,zr6,ze6,zw6,zo6,t6⟩:=mOL h5 r5 e5 w5 o5 zr5 ze5 zw5 zo5
 have t7:=jyX h6 r6 e6 w6 o6 zr6 ze6 zw6 zo6
 refine ⟨jq o6 0 300,h6,AllI.ints _ _ _,ZJ (B:=⟨[(8,PP 4)],[(0,flag 61 h6),(4,⟨56,(0,0),0,jq o6 0 300⟩)],8⟩) (e:= .ret) (c:=jk Tryz.prog 158) Tryz.func158 (by kernel_rfl) (Nat.le_of_ble_eq_true (by kernel_rfl)) (Nat.le_of_ble_eq_true (by kernel_rfl)) (plainVs_iff.2 fun v hv=> ?_) ?_ (.inr rfl) (fun dead=>by kernel_rfl) ((AllI.ints o6 0 300).ok) rfl⟩
 ·simp only [List.mem_cons,List.not_mem_nil,or_false] at hv
  rcases hv with rfl | rfl | rfl
  ·exact (AllI.ints p 0 300).ok
  ·exact zf0.ok
  ·exact zq0.ok
 ·refine To.spine (z:=Zl) j4 (k:=3) (slots:=[0,5,6,7,8,9]) (blks:=[0,1,2,3,4,5]) (vs:=[A0,PP 1,PP 2,PP 3,PP 4,PP 5]) (bs:=(jyV (Go.Lr.exH Tryz.prog 201 61 300 [.v (.agg (jq p 0 300))] h) (mkI (Go.Lr.exN Tryz.prog 201 61 300 [.v (.agg (jq p 0 300))] h) 0 300) (jq f 0 576) (jq q 0 24) (zc 56) (zc 308))) (nbB:=6) (by kernel_rfl) (fun dead=>jEo dead h p f q) jd (jr rfl (ok1 (by omega) zp0 zf0 zq0 yZ Ze)) (Nat.le_of_ble_eq_true rfl) ?_
  refine To.pre (To.seq (by kernel_rfl) (To.seq (by kernel_rfl) t1 t2) (To.seq (by kernel_rfl) (To.pre t3 (jr rfl (ok1 (by omega) zp2 zf2 zq2 zr2 ze2)) (fun q hq=>by
   simp only [List.mem_cons,List.not_mem_nil,or_false] at hq
   rcases hq with rfl | rfl | rfl | rfl | rfl
   ·exact ⟨A0,by simp,fun _=>rfl⟩
   ·exact ⟨PX 1,by simp,fun _=>rfl⟩
   ·exact ⟨PX 2,by simp,fun _=>rfl⟩
   ·exact ⟨PP 4,by simp,fun _=>rfl⟩
   ·exact ⟨PX 5,by simp,fun _=>rfl⟩
   ) rfl rfl) (To.seq (by kernel_rfl) (To.pre t4 (jr rfl (je (by omega) rfl rfl (je (by omega) (zr2.okb _) rfl (je (by omega) (ze2.okb _) rfl (je (by omega) (zw3.okb _) rfl jU))))) (fun q hq=>by
   simp only [List.mem_cons,List.not_mem_nil,or_false] at hq
   rcases hq with rfl | rfl | rfl | rfl
   ·exact ⟨A0,by simp,fun _=>rfl⟩
   ·exact ⟨PP 4,by simp,fun _=>rfl⟩
   ·exact ⟨PX 5,by simp,fun _=>rfl⟩
   ·exact ⟨PP 6,by simp,fun _=>rfl⟩
   ) rfl rfl) (To.seq (by kernel_rfl) (To.pre (To.seq (by kernel_rfl) t5 t6) (jr rfl (ok3 (by omega) zr4 ze4 zw4 zo4)) (fun q hq=>by
   simp only [List.mem_cons,List.not_mem_nil,or_false] at hq
   rcases hq with rfl | rfl | rfl | rfl | rfl
   ·exact ⟨A0,by simp,fun _=>rfl⟩
   ·exact ⟨PP 4,by simp,fun _=>rfl⟩
   ·exact ⟨PX 5,by simp,fun _=>rfl⟩
   ·exact ⟨PX 6,by simp,fun _=>rfl⟩
   ·exact ⟨PP 7,by simp,fun _=>rfl⟩
   ) rfl rfl) t7)))) (jr rfl (ok1 (by omega) zp0 zf0 zq0 yZ Ze)) (fun q hq=>by
   simp only [List.mem_cons,List.not_mem_nil,or_false] at hq
   rcases hq with rfl | rfl | rfl | rfl | rfl | rfl
   ·exact ⟨A0,by simp,fun _=>rfl⟩
   ·exact ⟨PP 1,by simp,fun _=>rfl⟩
   ·exact ⟨PP 2,by simp,fun _=>rfl⟩
   ·exact ⟨PP 3,by simp,fun _=>rfl⟩
   ·exact ⟨PP 4,by simp,fun _=>rfl⟩
   ·exact ⟨PP 5,by simp,fun _=>rfl⟩
   ) rfl rfl
noncomputable def thS:List LV→Bool→Option (LV×Bool×List (Bool×Bool)):=exF Tryz.prog 158 61 (fun args=>match args with | [.v (.agg p),.v (.agg f),.v (.agg q)]=>qM p 300&&qM f 576&&qM q 24 | _=>false) 300
theorem jyY:SumOK Tryz.prog 158 (jv 61 thS):=by
 refine jfe (jg j4 Tryz.func158 (by kernel_rfl)) fun args hb hok _=> ?_
 split at hok
 ·simp only [Bool.and_eq_true] at hok
  exact jEp hb _ _ _ (j6 hok.1.1) (j6 hok.1.2) (j6 hok.2)
 ·cases hok
end Go.Proofs.YtnlhpaidmiogbaaGreat

/- still: its summary at closed lengths. -/
namespace Go.Proofs.YtnlhpaidmiogbaaGreat
open Go.Lr
set_option linter.unusedVariables false
noncomputable def KR0:FuncId→Option SumK:=S47
theorem soundKR0:Sound Tryz.prog KR0:=sound47
noncomputable def KR1:FuncId→Option SumK:=more KR0 146 (yq Tryz.prog KR0 Zl 9000 146)
theorem soundKR1:Sound Tryz.prog KR1:=soundKR0.more (kv soundKR0 (jg soundKR0 Tryz.func146 (by kernel_rfl)))
noncomputable def KR2:FuncId→Option SumK:=more KR1 145 (yq Tryz.prog KR1 Zl 9000 145)
theorem soundKR2:Sound Tryz.prog KR2:=soundKR1.more (kv soundKR1 (jg soundKR1 Tryz.func145 (by kernel_rfl)))
noncomputable def KR3:FuncId→Option SumK:=more KR2 141 (jv 114 (Jd Tryz.prog KR2 Zl 9000 141 114))
theorem soundKR3:Sound Tryz.prog KR3:=soundKR2.more (kU soundKR2 (jg soundKR2 Tryz.func141 (by kernel_rfl)))
noncomputable def KR4:FuncId→Option SumK:=more KR3 45 (jv 114 (Jd Tryz.prog KR3 Zl 9000 45 114))
theorem soundKR4:Sound Tryz.prog KR4:=soundKR3.more (kU soundKR3 (jg soundKR3 Tryz.func45 (by kernel_rfl)))
noncomputable def KR5:FuncId→Option SumK:=more KR4 44 (jv 114 (Jd Tryz.prog KR4 Zl 9000 44 114))
theorem jcp:Sound Tryz.prog KR5:=soundKR4.more (kU soundKR4 (jg soundKR4 Tryz.func44 (by kernel_rfl)))
theorem jpX (t:Int):jx8 (jR Tryz.prog KR5 Zl 9000 19 [I t,I 8000] [] 0 [])=some (.v (.agg [.int .i64 t,.int .i64 8000,.int .i64 0,.int .i64 0,.int .i64 0,.int .i64 0,.int .i64 0,.int .i64 (-84238486)]),true):=by kernel_rfl
def je8:List LV→Option (LV×List (Bool×Bool))
 | [.v (.one (.int .i64 t)),.v (.one (.int .i64 us))]=>some (.v (.agg [.int .i64 t,.int .i64 8000,.int .i64 0,.int .i64 0,.int .i64 0,.int .i64 0,.int .i64 0,.int .i64 (-84238486)]),[(decide (us=8000),true)])
 | _=>none
theorem jhT:SumOK Tryz.prog 19 (jp je8):=by
 refine jM (z:=Zl) jcp (jg jcp Tryz.func19 (by kernel_rfl)) fun args v cs hF hc=> ?_
 unfold je8 at hF
 split at hF
 ·rename_i t us
  cases hF
  have hu:us=8000:=of_decide_eq_true (jx hc)
  subst hu
  obtain ⟨cs',h1,h2⟩:=jlb (jpX t)
  exact ⟨9000,[],cs',h1,h2⟩
 ·cases hF
end Go.Proofs.YtnlhpaidmiogbaaGreat

/- A function that is handed a flag that lies in a greater block: what it is told of is the flag alone. -/
set_option linter.unusedVariables false
namespace Go.Lr
open Go.RowKit
def K8:Nat→List LV→Option (Nat×Nat)
 | 0,.v (.one (.ptr c o))::_=>some (c,o)
 | n+1,_::l=>K8 n l
 | _,_=>none
def Xp:Nat→List LV→LV→List LV
 | 0,_::l,v=>v::l
 | n+1,a::l,v=>a::Xp n l v
 | _,[],_=>[]
def ZK:Nat→List LV→List LV
 | 0,_::l=>l
 | n+1,a::l=>a::ZK n l
 | _,[]=>[]
def YD:List Nat→List Blk→Nat→Option Blk
 | i::l,k::ks,j=>match Nat.beq i j with
  | true=>some k
  | false=>YD l ks j
 | _,_,_=>none
def jvu (c:Nat) (f:Blk) (seen:List Nat) (ks:List Blk) (i:Nat):Option Blk:=
 match Nat.beq i c with
 | true=>some f
 | false=>YD seen ks i
def YE (c i:Nat):Bool:=match Nat.beq i c with
 | true=>false
 | false=>true
def JQ (c:Nat):List (Nat×Option Blk)→List (Nat×Option Blk)
 | []=>[]
 | (i,s)::l=>match Nat.beq i c with
  | true=>JQ c l
  | false=>(i,s)::JQ c l
def ZL (ty:TypeId) (c:Nat) (h:Bool):List (Nat×Option Blk)→Option Bool
 | []=>some h
 | (i,s)::l=>match Nat.beq i c with
  | true=>match s with
   | some ⟨t,(0,0),0,[.bool h']⟩=>match Nat.beq t ty with
    | true=>some h'
    | false=>none
   | _=>none
  | false=>ZL ty c h l
def xY (j:Nat) (ty:TypeId) (s:List LV→List Nat→List Blk→Nat→Option Dl):List LV→List Nat→List Blk→Nat→Option Dl:=fun args seen ks nb=>
 match K8 j args with
 | some (c,o)=>match YD seen ks c with
  | some ⟨tt,(0,0),es,l⟩=>match atL l o with
   | some (.bool h)=>match JM (YE c) (ZK j args),JO (jvu c ⟨ty,(0,0),0,[.bool h]⟩ seen ks) 20000 (jaL (Xp j args (.v (.one (.ptr c 0))))) [] with
    | true,some seen'=>match jE (jvu c ⟨ty,(0,0),0,[.bool h]⟩ seen ks) seen' with
     | some ks'=>match okBs (YE c) ks',s (Xp j args (.v (.one (.ptr c 0)))) seen' ks' nb with
      | true,some d=>match d.val.ok (YE c),okBs (YE c) d.nw,jkr (YE c) d.wr,ZL ty c h d.wr with
       | true,true,true,some h'=>match xV (Jh d.wr),Zz (Jh d.wr) seen' with
        | true,true=>some ⟨d.val,(c,some ⟨tt,(0,0),es,l.set o (.bool h')⟩)::JQ c d.wr,d.nw,d.rd,d.cs⟩
        | _,_=>none
       | _,_,_,_=>none
      | _,_=>none
     | none=>none
    | _,_=>none
   | _=>none
  | _=>none
 | none=>none
theorem okNC_iff {c i:Nat}:YE c i=true↔i≠c:=by
 unfold YE
 rw [xi]
 by_cases h:i=c
 ·simp [h]
 ·simp [h]
theorem zU {g:Nat→Option Blk}:∀{seen:List Nat} {ks:List Blk} {i:Nat} {b:Blk},jE g seen=some ks→YD seen ks i=some b→g i=some b
 | [],ks,i,b,_,h=>by simp [YD] at h
 | a::l,ks,i,b,hl,h=>by
  obtain ⟨k,r,h1,h2,rfl⟩:=kf hl
  simp only [YD,xi] at h
  by_cases e:a=i
  ·subst e
   simp only [decide_true] at h
   cases h
   exact h1
  ·simp only [e,decide_false] at h
   exact zU h2 h
open Classical in
noncomputable def gX (g:Nat→Option Blk) (c:Nat) (k:Blk):Nat→Option Blk:=fun i=>if i=c then some k else match g i with
 | some b=>if okL (YE c) b.cells=true then some b else none
 | none=>none
theorem jff {g:Nat→Option Blk} {c i:Nat} {k b:Blk} (h:gX g c k i=some b) (hi:i≠c):g i=some b∧okL (YE c) b.cells=true:=by
 unfold gX at h
 rw [if_neg hi] at h
 split at h
 ·rename_i b' hb
  split at h
  ·rename_i ho;cases h;exact ⟨hb,ho⟩
  ·cases h
 ·cases h
theorem jp0 {g:Nat→Option Blk} {c i:Nat} {k b:Blk} (h:g i=some b) (ho:okL (YE c) b.cells=true) (hi:i≠c):gX g c k i=some b:=by
 unfold gX
 rw [if_neg hi,h]
 simp only [ho,if_true]
theorem jx9 {g:Nat→Option Blk} {c i:Nat} {k b:Blk} (h:g i=some b) (ho:¬okL (YE c) b.cells=true) (hi:i≠c):gX g c k i=none:=by
 unfold gX
 rw [if_neg hi,h]
 show (if okL (YE c) b.cells=true then some b else none)=none
 rw [if_neg ho]
theorem jp1 {g:Nat→Option Blk} {c:Nat} {k:Blk}:gX g c k c=some k:=by unfold gX;rw [if_pos rfl]
theorem Jq {g:Nat→Option Blk} {c i:Nat} {k kc:Blk} (hc:g c=some kc) (h:(gX g c k i).isSome):(g i).isSome:=by
 by_cases hi:i=c
 ·rw [hi,hc];rfl
 ·obtain ⟨b,hb⟩:=Option.isSome_iff_exists.1 h
  rw [(jff hb hi).1];rfl
theorem zV {p:Nat→Bool} {E E':Env} {i:Nat} {b:Blk} {w:World} (h:∀q,p q=true→E' q=E q) (hb:okL p b.cells=true) (he:E' i=E i) (k:blkAt E i b w):blkAt E' i b w:=by
 obtain ⟨r,h1,h2,h3⟩:=k
 refine ⟨r, ?_,h2,fun hne=>by rw [he];exact h3 hne⟩
 rw [he,h1,kk (E:=E) (E':=E') h hb]
theorem YF {g:Nat→Option Blk} {c k:Nat} (hk:k≠c):∀(l:List (Nat×Option Blk)) (g:Nat→Option Blk),wrG g (JQ c l) k=wrG g l k
 | [],g=>rfl
 | (i,s)::l,g=>by
  simp only [JQ,xi]
  by_cases h:i=c
  ·simp only [h,decide_true]
   rw [YF (g:=g) hk l g]
   simp only [wrG]
   exact J8 l k (.inr (by rw [if_neg hk]))
  ·simp only [h,decide_false,wrG]
   exact YF (g:=g) hk l _
theorem JR {c:Nat}:∀{l:List (Nat×Option Blk)} {x:Nat×Option Blk},x∈JQ c l→x∈l∧x.1≠c
 | [],x,h=>by simp [JQ] at h
 | (i,s)::l,x,h=>by
  simp only [JQ,xi] at h
  by_cases e:i=c
  ·simp only [e,decide_true] at h
   obtain ⟨h1,h2⟩:=JR h
   exact ⟨List.mem_cons_of_mem _ h1,h2⟩
  ·simp only [e,decide_false] at h
   rcases List.mem_cons.1 h with rfl | h
   ·exact ⟨List.mem_cons_self ..,e⟩
   ·obtain ⟨h1,h2⟩:=JR h
    exact ⟨List.mem_cons_of_mem _ h1,h2⟩
theorem QM {ty:TypeId} {c:Nat} {h h':Bool}:∀{l:List (Nat×Option Blk)} {g:Nat→Option Blk},ZL ty c h l=some h'→(l.map (·.1)).Nodup→g c=some ⟨ty,(0,0),0,[.bool h]⟩→wrG g l c=some ⟨ty,(0,0),0,[.bool h']⟩
 | [],g,hf,_,hg=>by
  simp only [ZL,Option.some.injEq] at hf
  subst hf
  exact hg
 | (i,s)::l,g,hf,hn,hg=>by
  simp only [List.map_cons,List.nodup_cons] at hn
  simp only [ZL,xi] at hf
  by_cases e:i=c
  ·subst e
   simp only [decide_true] at hf
   split at hf
   ·rename_i t h2
    split at hf
    ·rename_i ht
     cases hf
     have:t=ty:=of_decide_eq_true ht
     subst this
     simp only [wrG]
     rw [qy l i fun x hx e=>hn.1 (by rw [←e];exact List.mem_map_of_mem hx),if_pos rfl]
    ·cases hf
   ·cases hf
  ·simp only [e,decide_false] at hf
   simp only [wrG]
   exact QM hf hn.2 (by rw [if_neg (Ne.symm e)];exact hg)
theorem ZM {c o:Nat} {E E':Env} (h:∀i,YE c i=true→E' i=E i) (he:(LV.v (.one (.ptr c 0))).den E'=(LV.v (.one (.ptr c o))).den E):
  ∀{j:Nat} {args:List LV},K8 j args=some (c,o)→JM (YE c) (ZK j args)=true→(Xp j args (.v (.one (.ptr c 0)))).map (LV.den E')=args.map (LV.den E)
 | 0,[],hp,_=>by simp [K8] at hp
 | 0,a::l,hp,hr=>by
  unfold K8 at hp
  split at hp
  ·rename_i heq
   cases heq
   cases hp
   simp only [ZK] at hr
   simp only [Xp,List.map_cons,he]
   congr 1
   exact List.map_congr_left fun u hu=>LV.den_congr h (yg hr u hu)
  ·rename_i heq _;cases heq
  ·cases hp
 | j+1,[],hp,_=>by simp [K8] at hp
 | j+1,a::l,hp,hr=>by
  simp only [K8] at hp
  simp only [ZK,JM] at hr
  split at hr
  ·rename_i ha
   simp only [Xp,List.map_cons]
   rw [ZM h he hp hr,LV.den_congr h ha]
  ·cases hr
theorem ZN {c o:Nat}:∀{j:Nat} {args:List LV} {u:LV},K8 j args=some (c,o)→u∈Xp j args (.v (.one (.ptr c 0)))→u∈args∨u = .v (.one (.ptr c 0))∧(.v (.one (.ptr c o)):LV)∈args
 | 0,[],u,hp,_=>by simp [K8] at hp
 | 0,a::l,u,hp,hu=>by
  unfold K8 at hp
  split at hp
  ·rename_i heq
   cases heq
   cases hp
   simp only [Xp,List.mem_cons] at hu
   rcases hu with rfl | hu
   ·exact .inr ⟨rfl,List.mem_cons_self ..⟩
   ·exact .inl (List.mem_cons_of_mem _ hu)
  ·rename_i heq _;cases heq
  ·cases hp
 | j+1,[],u,hp,_=>by simp [K8] at hp
 | j+1,a::l,u,hp,hu=>by
  simp only [K8] at hp
  simp only [Xp,List.mem_cons] at hu
  rcases hu with rfl | hu
  ·exact .inl (List.mem_cons_self ..)
  ·rcases ZN hp hu with h | ⟨h1,h2⟩
   ·exact .inl (List.mem_cons_of_mem _ h)
   ·exact .inr ⟨h1,List.mem_cons_of_mem _ h2⟩
theorem jY {P:Program} {f:FuncId} {j:Nat} {ty:TypeId} {s:List LV→List Nat→List Blk→Nat→Option Dl} (hS:GenOK P f s):GenOK P f (xY j ty s):=by
 intro args seen ks g nb p d E w hl hd hnd hcs hrel hg hargs hn
 unfold xY at hd
 split at hd
 ·rename_i c o hptr
  split at hd
  ·rename_i tt es l hlook
   split at hd
   ·rename_i h hat
    split at hd
    ·rename_i seen' hrest hreach
     split at hd
     ·rename_i ks' hks'
      split at hd
      ·rename_i d0 hokb hs0
       split at hd
       ·rename_i h' hval hnw hwr hfl
        split at hd
        ·rename_i hnd0 hin0
         cases hd
         have hnd0:=nodupB_iff.1 hnd0
         have hin0:=Xc hin0
         rw [J5] at hnd0 hin0
         have hkc:g c=some ⟨tt,(0,0),es,l⟩:=zU hl hlook
         obtain ⟨r,g1,g2,g3⟩:=hrel.blk c _ hkc
         have hlt:o<l.length:=jaa hat
         generalize hL:qD (E c) E tt l r o=L
         have hLb:L.blk=(E c).blk:=by rw [←hL];rfl
         have hEb:∀i,(eW E c L i).1=(E i).1:=fun i=>by rw [←hL];exact jjw
         have hEi:∀i,i≠c→eW E c L i=E i:=fun i hi=>by unfold eW;rw [if_neg hi]
         have hEc:eW E c L c=L:=by unfold eW;rw [if_pos rfl]
         have hEn:∀i,YE c i=true→eW E c L i=E i:=fun i hi=>hEi i (okNC_iff.1 hi)
         have hrelW:Rel (eW E c L) (gX g c (flag ty h)) w:=by
          refine ⟨fun i b hb=> ?_,fun i j hi hj he=>hrel.inj i j (Jq hkc hi) (Jq hkc hj) (by rw [←hEb i,←hEb j];exact he)⟩
          by_cases hi:i=c
          ·subst hi
           rw [jp1] at hb
           cases hb
           refine ⟨[], ?_,fun _=>rfl,fun hne=>absurd rfl hne⟩
           rw [hEc]
           have e:=xE (L:=E i) (E:=E) (t:=tt) (l:=l) (r:=r) (o:=o) ty (h:=h) hlt
           rw [YV hat,hL] at e
           show w.heap[L.blk]? = some (JY L ty h)
           rw [e,hLb];exact g1
          ·obtain ⟨q1,q2⟩:=jff hb hi
           exact zV hEn q2 (hEi i hi) (hrel.blk i b q1)
         have hargs':(Xp j args (.v (.one (.ptr c 0)))).map (LV.den (eW E c L))=args.map (LV.den E):=by
          refine ZM hEn ?_ hptr hrest
          show Value.pointer (some ⟨(eW E c L c).1,0+(eW E c L c).pre.length,none⟩)=Value.pointer (some ⟨(E c).1,o+(E c).pre.length,none⟩)
          have e:(eW E c L c).pre.length=o+(E c).pre.length:=by
           rw [hEc,←hL];unfold qD;simp;omega
          rw [e,hEb,Nat.zero_add]
         have hnarX:∀i b,okL (YE c) b.cells=true→jvu c ⟨ty,(0,0),0,[.bool h]⟩ seen ks i=some b→gX g c (flag ty h) i=some b:=by
          intro i b hb hi
          unfold jvu at hi
          rw [xi] at hi
          by_cases e:i=c
          ·subst e
           simp only [decide_true] at hi
           cases hi
           exact jp1
          ·simp only [e,decide_false] at hi
           exact jp0 (zU hl hi) hb e
         have hliveX:jE (gX g c (flag ty h)) seen'=some ks':=xx hks' fun i b _ hb hi=>hnarX i b (okBs_iff.1 hokb b hb) hi
         have hpc:p c=true:=(hg c _ hkc).1
         have hnc:c<nb∨nb+d0.nw.length≤c:=by
          by_cases e:c<nb
          ·exact .inl e
          ·by_cases e2:nb+d0.nw.length≤c
           ·exact .inr e2
           ·have:=hn c (by omega) (by show c<nb+d0.nw.length;omega)
            rw [hpc] at this;cases this
         have main:=hS _ seen' ks' (gX g c (flag ty h)) nb p d0 (eW E c L) w hliveX hs0 (by rw [J5];exact hnd0) hcs hrelW
          (fun i b hb=>by
           by_cases hi:i=c
           ·subst hi;rw [jp1] at hb;cases hb;exact ⟨hpc,rfl⟩
           ·exact hg i b (jff hb hi).1)
          (fun u hu=>by
           rcases ZN hptr hu with hu2 | ⟨e2,hu2⟩
           ·exact hargs u hu2
           ·rw [e2];exact hpc) hn
         have hkeyX:∀i,i∈d0.wr.map (·.1)→(gX g c (flag ty h) i).isSome:=fun i hi=>kw hliveX i (hin0 i hi)
         have jh6:∀(E':Env) (w':World),Post w (eW E c L) (gX g c (flag ty h)) nb ⟨d0.val,d0.wr,d0.nw,[],[]⟩ E' w'→
           (d0.val.den E'=d0.val.den fun i=>if i=c then E c else E' i)∧
           Post w E g nb ⟨d0.val,(c,some ⟨tt,(0,0),es,l.set o (.bool h')⟩)::JQ c d0.wr,d0.nw,[],[]⟩ (fun i=>if i=c then E c else E' i) w':=by
          intro E' w' hp
          have hEc':E' c=L:=by rw [hp.agree c hnc,hEc]
          have hN:∀i,YE c i=true→(fun i=>if i=c then E c else E' i) i=E' i:=fun i hi=>if_neg (okNC_iff.1 hi)
          have hN1:∀i,((fun i=>if i=c then E c else E' i) i).1=(E' i).1:=by
           intro i
           by_cases hi:i=c
           ·subst hi
            show (if i=i then E i else E' i).1=_
            rw [if_pos rfl,hEc',hLb]
           ·show (if i=c then E c else E' i).1=_
            rw [if_neg hi]
          have hold:∀i,i<nb∨nb+d0.nw.length≤i→(fun i=>if i=c then E c else E' i) i=E i:=by
           intro i hi
           by_cases hic:i=c
           ·subst hic;exact if_pos rfl
           ·show (if i=c then E c else E' i)=_
            rw [if_neg hic,hp.agree i hi,hEi i hic]
          have hpo:∀q,p q=true→(fun i=>if i=c then E c else E' i) q=E q:=by
           intro q hq
           refine hold q ?_
           by_cases e:q<nb
           ·exact .inl e
           ·by_cases e2:nb+d0.nw.length≤q
            ·exact .inr e2
            ·have:=hn q (by omega) (by show q<nb+d0.nw.length;omega)
             rw [hq] at this;cases this
          have hwc:wrG g ((c,some ⟨tt,(0,0),es,l.set o (.bool h')⟩)::JQ c d0.wr) c=some ⟨tt,(0,0),es,l.set o (.bool h')⟩:=by
           simp only [wrG]
           rw [qy _ c fun x hx=>(JR hx).2,if_pos rfl]
          have hwi:∀i,i≠c→i∈d0.wr.map (·.1)→wrG g ((c,some ⟨tt,(0,0),es,l.set o (.bool h')⟩)::JQ c d0.wr) i=wrG (gX g c (flag ty h)) d0.wr i:=by
           intro i hi hm
           simp only [wrG]
           rw [YF (g:=g) hi]
           exact J8 d0.wr i (.inl hm)
          have hwo:∀i,i≠c→i ∉ d0.wr.map (·.1)→wrG g ((c,some ⟨tt,(0,0),es,l.set o (.bool h')⟩)::JQ c d0.wr) i=g i:=by
           intro i hi hm
           rw [qy]
           intro x hx e
           rcases List.mem_cons.1 hx with rfl | hx
           ·exact hi e.symm
           ·exact hm (by rw [←e];exact List.mem_map_of_mem (JR hx).1)
          have hXo:∀i,i ∉ d0.wr.map (·.1)→wrG (gX g c (flag ty h)) d0.wr i=gX g c (flag ty h) i:=fun i hm=>qy _ i fun x hx e=>hm (by rw [←e];exact List.mem_map_of_mem hx)
          have hcase:∀i b,nwG (wrG g ((c,some ⟨tt,(0,0),es,l.set o (.bool h')⟩)::JQ c d0.wr)) nb d0.nw i=some b→
            (i=c∧b=⟨tt,(0,0),es,l.set o (.bool h')⟩)∨(i≠c∧okL (YE c) b.cells=true∧nwG (wrG (gX g c (flag ty h)) d0.wr) nb d0.nw i=some b)∨(i≠c∧(i<nb∨nb+d0.nw.length≤i)∧g i=some b∧gX g c (flag ty h) i=none):=by
           intro i b hb
           by_cases hic:i=c
           ·subst hic
            rw [qk _ _ _ hnc,hwc] at hb
            cases hb
            exact .inl ⟨rfl,rfl⟩
           ·right
            by_cases hnew:nb≤i∧i<nb+d0.nw.length
            ·left
             rw [jb0 _ _ _ hnew.1 hnew.2] at hb
             refine ⟨hic,okBs_iff.1 hnw b (List.mem_of_getElem? hb), ?_⟩
             rw [jb0 _ _ _ hnew.1 hnew.2];exact hb
            ·have hno:i<nb∨nb+d0.nw.length≤i:=by omega
             rw [qk _ _ _ hno] at hb
             by_cases hm:i∈d0.wr.map (·.1)
             ·left
              rw [hwi i hic hm] at hb
              refine ⟨hic, ?_,by rw [qk _ _ _ hno];exact hb⟩
              obtain ⟨x,hx,rfl⟩:=List.mem_map.1 hm
              rw [jej _ hnd0 x hx] at hb
              exact Qt hwr x hx b hb
             ·rw [hwo i hic hm] at hb
              by_cases ho:okL (YE c) b.cells=true
              ·left
               exact ⟨hic,ho,by rw [qk _ _ _ hno,hXo i hm];exact jp0 hb ho hic⟩
              ·right
               exact ⟨hic,hno,hb,jx9 hb ho hic⟩
          refine ⟨(LV.den_congr hN hval).symm,fun i hi=>hold i hi,⟨fun i b hb=> ?_,fun i k hi hk he=> ?_⟩,hp.os,hp.tape,hp.output,hp.size,fun k hk hne=>hp.frame k hk fun i hi=>by rw [hEb];exact hne i (Jq hkc hi),fun i i1 i2=> ?_⟩
          ·rcases hcase i b hb with ⟨rfl,rfl⟩ | ⟨hic,ho,hb2⟩ | ⟨hic,hno,hb2,hx⟩
           ·have hb2:=hp.rel.blk i (flag ty h') (by
             simp only
             rw [qk _ _ _ hnc]
             exact QM hfl hnd0 jp1)
            obtain ⟨r2,u1,u2,-⟩:=hb2
            rw [hEc',u2 rfl] at u1
            have e:=xE (L:=E i) (E:=E) (t:=tt) (l:=l) (r:=r) (o:=o) ty (h:=h') hlt
            rw [hL] at e
            have hn2:okL p (l.set o (.bool h'))=true:=by
             rw [okL_iff]
             intro a ha
             rcases List.mem_or_eq_of_mem_set ha with ha | rfl
             ·exact okL_iff.1 (hg i _ hkc).2 a ha
             ·rfl
            refine zV (E:=E) hpo hn2 (if_pos rfl) ⟨r, ?_,g2,fun hne=>by show (l.set o _).length+_=_;rw [List.length_set];exact g3 hne⟩
            rw [←hLb]
            exact u1.trans (congrArg some e)
           ·exact zV hN ho (if_neg hic) (hp.rel.blk i b hb2)
           ·obtain ⟨r2,u1,u2,u3⟩:=hrel.blk i b hb2
            refine zV (E:=E) hpo (hg i b hb2).2 (hold i hno) ⟨r2, ?_,u2,u3⟩
            rw [hp.frame _ (Array.getElem?_eq_some_iff.1 u1).1 fun q hq hqe=> ?_]
            ·exact u1
            ·rw [hEb] at hqe
             have:=hrel.inj q i (Jq hkc hq) (by rw [hb2];rfl) hqe
             rw [this,hx] at hq
             cases hq
          ·obtain ⟨b,hb⟩:=Option.isSome_iff_exists.1 hi
           obtain ⟨b2,hb2⟩:=Option.isSome_iff_exists.1 hk
           have he':(E' i).1=(E' k).1:=by rw [←hN1 i,←hN1 k];exact he
           have dom:∀i b,nwG (wrG g ((c,some ⟨tt,(0,0),es,l.set o (.bool h')⟩)::JQ c d0.wr)) nb d0.nw i=some b→
             (nwG (wrG (gX g c (flag ty h)) d0.wr) nb d0.nw i).isSome∨((i<nb∨nb+d0.nw.length≤i)∧(g i).isSome∧gX g c (flag ty h) i=none):=by
            intro i b hb
            rcases hcase i b hb with ⟨rfl,rfl⟩ | ⟨hic,ho,hb2⟩ | ⟨hic,hno,hb2,hx⟩
            ·left;rw [qk _ _ _ hnc,QM (g:=gX g i (flag ty h)) hfl hnd0 jp1];rfl
            ·left;rw [hb2];rfl
            ·right;exact ⟨hno,by rw [hb2];rfl,hx⟩
           have mix:∀i k,(nwG (wrG (gX g c (flag ty h)) d0.wr) nb d0.nw i).isSome→(k<nb∨nb+d0.nw.length≤k)→(g k).isSome→gX g c (flag ty h) k=none→(E' i).1=(E' k).1→False:=by
            intro i k hi hno hgk hxk he
            rw [hp.agree k hno,hEb] at he
            obtain ⟨bk,hbk⟩:=Option.isSome_iff_exists.1 hgk
            obtain ⟨rk,v1,-,-⟩:=hrel.blk k bk hbk
            have hks:=(Array.getElem?_eq_some_iff.1 v1).1
            by_cases hnew:nb≤i∧i<nb+d0.nw.length
            ·rcases hp.fresh i hnew.1 hnew.2 with hf | ⟨q,q1,q2⟩
             ·omega
             ·rw [hEb] at q2
              have:=hrel.inj q k (Jq hkc q1) hgk (by rw [←q2,he])
              rw [this,hxk] at q1
              cases q1
            ·have hno2:i<nb∨nb+d0.nw.length≤i:=by omega
             rw [qk _ _ _ hno2] at hi
             have hXi:(gX g c (flag ty h) i).isSome:=by
              by_cases hm:i∈d0.wr.map (·.1)
              ·exact hkeyX i hm
              ·rw [hXo i hm] at hi;exact hi
             rw [hp.agree i hno2,hEb] at he
             have:=hrel.inj i k (Jq hkc hXi) hgk he
             rw [this,hxk] at hXi
             cases hXi
           rcases dom i b hb with h1 | ⟨h1,h2,h3⟩
           ·rcases dom k b2 hb2 with k1 | ⟨k1,k2,k3⟩
            ·exact hp.rel.inj i k h1 k1 he'
            ·exact absurd he' fun e=>mix i k h1 k1 k2 k3 e
           ·rcases dom k b2 hb2 with k1 | ⟨k1,k2,k3⟩
            ·exact absurd he'.symm fun e=>mix k i k1 h1 h2 h3 e
            ·rw [hp.agree i h1,hp.agree k k1,hEb,hEb] at he'
             exact hrel.inj i k h2 k2 he'
          ·rcases hp.fresh i i1 i2 with hf | ⟨q,q1,q2⟩
           ·left;rw [hN1];exact hf
           ·right;exact ⟨q,Jq hkc q1,by rw [hN1,q2,hEb]⟩
         rw [hargs'] at main
         refine main.imp (fun ⟨fn,h1,h2,h3,h4⟩=>⟨fn,h1,h2,h3,h4.mono ?_⟩) (fun ⟨u,w',h1,E',h2,h3⟩=>⟨u,w',h1,_, ?_,(jh6 E' w' h3).2⟩)
         ·rintro e w' ⟨u,rfl,E',rfl,h3⟩
          exact ⟨_,rfl,_,(jh6 E' w' h3).1,(jh6 E' w' h3).2⟩
         ·rw [h2];exact (jh6 E' w' h3).1
        ·cases hd
       ·cases hd
      ·cases hd
     ·cases hd
    ·cases hd
   ·cases hd
  ·cases hd
 ·cases hd
end Go.Lr

/- Summaries by formula, of functions that are handed one block and plain values; summaries by all blocks, the one or else the other. -/
set_option linter.unusedVariables false
namespace Go.Lr
open Go.RowKit
def fM (F:Blk→List LV→Option (LV×Blk×List (Bool×Bool))):Sum:=fun args=>
 match args with
 | .v (.one (.ptr b 0))::rest=>match ke rest with
  | true=>some ⟨[],[b],fun _ wB _=>match wB with
   | [k]=>match F k rest with
    | some (v,k',cs)=>some ⟨v,[k'],[],cs⟩
    | none=>none
   | _=>none⟩
  | false=>none
 | _=>none
section
variable {P:Program} {S:FuncId→Option SumK} {z:Md}
theorem jp4 (hs:Sound P S) {f:FuncId} (ho:Own P f) {F:Blk→List LV→Option (LV×Blk×List (Bool×Bool))}
  (hF:∀k rest v k' cs,F k rest=some (v,k',cs)→(∀c∈cs,c.1=c.2)→ke rest=true→okL noP k.cells=true∧okL noP k'.cells=true∧v.ok noP=true∧k'.es=k.es∧
   ∃n dec m' nb' cs',jR P S z n f (A0::rest) [(0,k)] 1 dec=some (v,m',nb',cs')∧getM m' 0=some k'∧∀c∈cs',c.1=c.2):SumOK P f (fM F):=by
 intro args t g nb p rdB wrB ans ws E w hs' hr hw _ hgo hz hc hrel hg hargs hn
 unfold fM at hs'
 split at hs'
 ·rename_i b rest
  split at hs'
  ·rename_i hp
   cases hs'
   simp only at hgo hw
   split at hgo
   ·rename_i k
    split at hgo
    ·rename_i v k' cs hFk
     cases hgo
     obtain ⟨hk,hok',hv,hes',n,dec,m',nb',cs',hrun,hk',hc'⟩:=hF k rest v k' cs hFk hc hp
     simp only [jE] at hw
     split at hw
     ·rename_i q r hq hr'
      cases hr'
      cases hw
      simp only [Xm] at hz
      cases hz
      have hp':=plainVs_iff.1 hp
      obtain ⟨s',h1,h2,h3,h4⟩:=zA hrun
      have hget:∀i c,getM [(0,k)] i=some c→i=0∧c=k:=by
       intro i c hc
       rw [jz] at hc
       by_cases hi:i=0
       ·rw [if_pos hi] at hc;cases hc;exact ⟨hi,rfl⟩
       ·rw [if_neg hi] at hc;simp [getM] at hc
      obtain ⟨v',b1,b2,b3,b4,b5,b6,b7,b8⟩:=(kD (QZ P) hs.sums hs.mix hs.ng n).2.2.2 f (A0::rest) _ _ s' h1 (fun i c hc=>by
       obtain ⟨rfl,rfl⟩:=hget i c hc
       exact ⟨Nat.zero_lt_one,jn jm hk⟩) ⟨rfl,trivial⟩ (fun u hu=>by
       rcases List.mem_cons.1 hu with rfl | hu
       ·rfl
       ·exact LV.ok_mono jm (hp' u hu))
      cases b1
      obtain ⟨r0,g1,g2,g3⟩:=hrel.blk b k hq
      have hmr:MRel (fun _=>E b) ⟨.nil,0,[(0,k)],1,dec,[],[]⟩ w:=by
       refine ⟨⟨fun i c hc=> ?_,fun i j hi hj _=> ?_⟩,fun i c hc=> ?_,⟨rfl,trivial⟩⟩
       ·obtain ⟨rfl,rfl⟩:=hget i c hc
        exact ⟨r0,by rw [qx hk] at g1 ⊢;exact g1,g2,g3⟩
       ·obtain ⟨c,hc⟩:=Option.isSome_iff_exists.1 hi
        obtain ⟨d,hd⟩:=Option.isSome_iff_exists.1 hj
        rw [(hget i c hc).1,(hget j d hd).1]
       ·obtain ⟨rfl,rfl⟩:=hget i c hc
        exact ⟨Nat.zero_lt_one,jn jm hk⟩
      have hcall:=b8 (by rw [Good,h4];exact hc') (fun _=>E b) w hmr
      have hargs':((A0::rest).map (LV.den fun _=>E b))=((LV.v (V1.one (At.ptr b 0)))::rest).map (LV.den E):=by
       rw [List.map_cons,List.map_cons,j9 hp',j9 (E:=E) hp']
       rfl
      rw [hargs'] at hcall
      obtain ⟨fn,f1,f2,f3⟩:=ho
      refine .inl ⟨fn,f1,f2,f3,hcall.mono ?_⟩
      rintro e w' ⟨E',rfl,hmr',hx⟩
      refine ⟨_,rfl,E,by rw [km hv,km (E:=E) hv], ?_⟩
      obtain ⟨r',q1,q2,q3⟩:=hmr'.rel.blk 0 k' (by rw [h2];exact hk')
      rw [hx.agree 0 (by show 0<1;omega)] at q1 q3
      have hframe:∀j,j<w.heap.size→j≠(E b).1→w'.heap[j]? = w.heap[j]? :=fun j hj hne=>hx.frame j hj fun i hi he=>hne he.symm
      refine ⟨fun _ _=>rfl,⟨fun i c hic=> ?_,fun i j hi hj he=> ?_⟩,hx.os,hx.tape,hx.output,hx.size,fun j hj hne=>hframe j hj fun e=>hne b (by simp [hq]) e.symm,fun i h1 h2=>by simp at h2;omega⟩
      ·simp only [nwG,wrG] at hic
       by_cases hi:i=b
       ·subst hi
        rw [if_pos rfl] at hic
        cases hic
        exact ⟨r',by rw [qx hok'] at q1 ⊢;exact q1,q2,q3⟩
       ·rw [if_neg hi] at hic
        obtain ⟨r,u1,u2,u3⟩:=hrel.blk i c hic
        refine ⟨r, ?_,u2,u3⟩
        rw [hframe _ (Array.getElem?_eq_some_iff.1 u1).1 (fun e=>hi (hrel.inj i b (by simp [hic]) (by simp [hq]) e))]
        exact u1
      ·simp only [nwG,wrG] at hi hj
       refine hrel.inj i j ?_ ?_ he
       ·by_cases h1:i=b
        ·rw [h1];simp [hq]
        ·simpa [if_neg h1] using hi
       ·by_cases h1:j=b
        ·rw [h1];simp [hq]
        ·simpa [if_neg h1] using hj
     ·cases hw
    ·cases hgo
   ·cases hgo
  ·cases hs'
 ·cases hs'
end
def jdj (s:Sum):List LV→List Nat→List Blk→Nat→Option Dl:=fun args seen ks nb=>
 match s args with
 | some t=>match jE (YD seen ks) t.rd,jE (YD seen ks) t.wr,xV t.wr with
  | some rB,some wB,true=>match t.go rB wB nb with
   | some ans=>match Xm t.wr ans.wr with
    | some ws=>some ⟨ans.val,ws,ans.nw,[],ans.cs⟩
    | none=>none
   | none=>none
  | _,_,_=>none
 | none=>none
theorem jcs {P:Program} {f:FuncId} {s:Sum} (hS:SumOK P f s):GenOK P f (jdj s):=by
 intro args seen ks g nb p d E w hl hd hnd hcs hrel hg hargs hn
 unfold jdj at hd
 split at hd
 ·rename_i t ht
  split at hd
  ·rename_i rB wB hr hw hnd2
   split at hd
   ·rename_i ans hgo
    split at hd
    ·rename_i ws hz
     cases hd
     have up:∀(l:List Nat) (r:List Blk),jE (YD seen ks) l=some r→jE g l=some r:=fun l r h=>xx h fun i b _ _ hi=>zU hl hi
     exact hS args t g nb p rB wB ans ws E w ht (up _ _ hr) (up _ _ hw) hnd2 hgo hz hcs hrel hg hargs hn
    ·cases hd
   ·cases hd
  ·cases hd
 ·cases hd
def kA (s1 s2:List LV→List Nat→List Blk→Nat→Option Dl):List LV→List Nat→List Blk→Nat→Option Dl:=fun args seen ks nb=>
 match s1 args seen ks nb with
 | some d=>some d
 | none=>s2 args seen ks nb
theorem jK {P:Program} {f:FuncId} {s1 s2:List LV→List Nat→List Blk→Nat→Option Dl} (h1:GenOK P f s1) (h2:GenOK P f s2):GenOK P f (kA s1 s2):=by
 intro args seen ks g nb p d E w hl hd hnd hcs hrel hg hargs hn
 unfold kA at hd
 split at hd
 ·rename_i d' hd'
  cases hd
  exact h1 args seen ks g nb p _ E w hl hd' hnd hcs hrel hg hargs hn
 ·exact h2 args seen ks g nb p d E w hl hd hnd hcs hrel hg hargs hn
end Go.Lr

/- Summaries for the whole filter: the flag may lie anywhere; what the evaluator makes by running. -/
namespace Go.Proofs.YtnlhpaidmiogbaaGreat
open Go.Lr
set_option linter.unusedVariables false
noncomputable def K0:FuncId→Option SumK:=more (more (more S47 181 (jfa 61 (yv 61 1 jck))) 81 (jfa 61 (yv 61 1 jaU))) 135 (jfa 61 (yv 61 1 jdd))
theorem soundK0:Sound Tryz.prog K0:=((sound47.more (YC jcl)).more (YC jjo)).more (YC je1)
noncomputable def K1:FuncId→Option SumK:=more K0 196 (jv 61 (Jd Tryz.prog K0 Zl 2000 196 61))
theorem soundK1:Sound Tryz.prog K1:=soundK0.more (kU soundK0 (jg soundK0 Tryz.func196 (by kernel_rfl)))
noncomputable def K2:FuncId→Option SumK:=more K1 177 (jv 61 (Jd Tryz.prog K1 Zl 2000 177 61))
theorem soundK2:Sound Tryz.prog K2:=soundK1.more (kU soundK1 (jg soundK1 Tryz.func177 (by kernel_rfl)))
noncomputable def K3:FuncId→Option SumK:=more K2 151 (jv 61 (Jd Tryz.prog K2 Zl 2000 151 61))
theorem soundK3:Sound Tryz.prog K3:=soundK2.more (kU soundK2 (jg soundK2 Tryz.func151 (by kernel_rfl)))
noncomputable def K4:FuncId→Option SumK:=more K3 153 (jv 61 (Jd Tryz.prog K3 Zl 2000 153 61))
theorem soundK4:Sound Tryz.prog K4:=soundK3.more (kU soundK3 (jg soundK3 Tryz.func153 (by kernel_rfl)))
noncomputable def K5:FuncId→Option SumK:=moreG K4 147 (kA (xY 0 61 (jS Tryz.prog K4 Zl 4000 147)) (jS Tryz.prog K4 Zl 4000 147))
theorem soundK5:Sound Tryz.prog K5:=soundK4.moreG (jK (jY (jl soundK4 (jg soundK4 Tryz.func147 (by kernel_rfl)))) (jl soundK4 (jg soundK4 Tryz.func147 (by kernel_rfl))))
noncomputable def K6:FuncId→Option SumK:=moreG K5 152 (jS Tryz.prog K5 Zl 4000 152)
theorem soundK6:Sound Tryz.prog K6:=soundK5.moreG (jl soundK5 (jg soundK5 Tryz.func152 (by kernel_rfl)))
noncomputable def K7:FuncId→Option SumK:=more K6 118 (yq Tryz.prog K6 Zl 2000 118)
theorem soundK7:Sound Tryz.prog K7:=soundK6.more (kv soundK6 (jg soundK6 Tryz.func118 (by kernel_rfl)))
end Go.Proofs.YtnlhpaidmiogbaaGreat

/- state.unit: its summary. Plain sums of four squares. -/
namespace Go.Proofs.YtnlhpaidmiogbaaGreat
open Go.Lr
set_option linter.unusedVariables false
def unA (q0 q1 q2 q3:Int):Int:=jb 0 0+jb (wHi (q0*q0)) (wLo (q0*q0))
def unB (q0 q1 q2 q3:Int):Int:=jb (w64 (wHi (jb 0 0+jb (wHi (q0*q0)) (wLo (q0*q0))))) (wLo (jb 0 0+jb (wHi (q0*q0)) (wLo (q0*q0))))+jb (wHi (q1*q1)) (wLo (q1*q1))
def unC (q0 q1 q2 q3:Int):Int:=jb (w64 (wHi (jb (w64 (wHi (jb 0 0+jb (wHi (q0*q0)) (wLo (q0*q0))))) (wLo (jb 0 0+jb (wHi (q0*q0)) (wLo (q0*q0))))+jb (wHi (q1*q1)) (wLo (q1*q1))))) (wLo (jb (w64 (wHi (jb 0 0+jb (wHi (q0*q0)) (wLo (q0*q0))))) (wLo (jb 0 0+jb (wHi (q0*q0)) (wLo (q0*q0))))+jb (wHi (q1*q1)) (wLo (q1*q1))))+jb (wHi (q2*q2)) (wLo (q2*q2))
def unD (q0 q1 q2 q3:Int):Int:=jb (w64 (wHi (jb (w64 (wHi (jb (w64 (wHi (jb 0 0+jb (wHi (q0*q0)) (wLo (q0*q0))))) (wLo (jb 0 0+jb (wHi (q0*q0)) (wLo (q0*q0))))+jb (wHi (q1*q1)) (wLo (q1*q1))))) (wLo (jb (w64 (wHi (jb 0 0+jb (wHi (q0*q0)) (wLo (q0*q0))))) (wLo (jb 0 0+jb (wHi (q0*q0)) (wLo (q0*q0))))+jb (wHi (q1*q1)) (wLo (q1*q1))))+jb (wHi (q2*q2)) (wLo (q2*q2))))) (wLo (jb (w64 (wHi (jb (w64 (wHi (jb 0 0+jb (wHi (q0*q0)) (wLo (q0*q0))))) (wLo (jb 0 0+jb (wHi (q0*q0)) (wLo (q0*q0))))+jb (wHi (q1*q1)) (wLo (q1*q1))))) (wLo (jb (w64 (wHi (jb 0 0+jb (wHi (q0*q0)) (wLo (q0*q0))))) (wLo (jb 0 0+jb (wHi (q0*q0)) (wLo (q0*q0))))+jb (wHi (q1*q1)) (wLo (q1*q1))))+jb (wHi (q2*q2)) (wLo (q2*q2))))+jb (wHi (q3*q3)) (wLo (q3*q3))
def unE (q0 q1 q2 q3:Int):Int:=jb (w64 (wHi (jb (w64 (wHi (jb (w64 (wHi (jb (w64 (wHi (jb 0 0+jb (wHi (q0*q0)) (wLo (q0*q0))))) (wLo (jb 0 0+jb (wHi (q0*q0)) (wLo (q0*q0))))+jb (wHi (q1*q1)) (wLo (q1*q1))))) (wLo (jb (w64 (wHi (jb 0 0+jb (wHi (q0*q0)) (wLo (q0*q0))))) (wLo (jb 0 0+jb (wHi (q0*q0)) (wLo (q0*q0))))+jb (wHi (q1*q1)) (wLo (q1*q1))))+jb (wHi (q2*q2)) (wLo (q2*q2))))) (wLo (jb (w64 (wHi (jb (w64 (wHi (jb 0 0+jb (wHi (q0*q0)) (wLo (q0*q0))))) (wLo (jb 0 0+jb (wHi (q0*q0)) (wLo (q0*q0))))+jb (wHi (q1*q1)) (wLo (q1*q1))))) (wLo (jb (w64 (wHi (jb 0 0+jb (wHi (q0*q0)) (wLo (q0*q0))))) (wLo (jb 0 0+jb (wHi (q0*q0)) (wLo (q0*q0))))+jb (wHi (q1*q1)) (wLo (q1*q1))))+jb (wHi (q2*q2)) (wLo (q2*q2))))+jb (wHi (q3*q3)) (wLo (q3*q3))))) (wLo (jb (w64 (wHi (jb (w64 (wHi (jb (w64 (wHi (jb 0 0+jb (wHi (q0*q0)) (wLo (q0*q0))))) (wLo (jb 0 0+jb (wHi (q0*q0)) (wLo (q0*q0))))+jb (wHi (q1*q1)) (wLo (q1*q1))))) (wLo (jb (w64 (wHi (jb 0 0+jb (wHi (q0*q0)) (wLo (q0*q0))))) (wLo (jb 0 0+jb (wHi (q0*q0)) (wLo (q0*q0))))+jb (wHi (q1*q1)) (wLo (q1*q1))))+jb (wHi (q2*q2)) (wLo (q2*q2))))) (wLo (jb (w64 (wHi (jb (w64 (wHi (jb 0 0+jb (wHi (q0*q0)) (wLo (q0*q0))))) (wLo (jb 0 0+jb (wHi (q0*q0)) (wLo (q0*q0))))+jb (wHi (q1*q1)) (wLo (q1*q1))))) (wLo (jb (w64 (wHi (jb 0 0+jb (wHi (q0*q0)) (wLo (q0*q0))))) (wLo (jb 0 0+jb (wHi (q0*q0)) (wLo (q0*q0))))+jb (wHi (q1*q1)) (wLo (q1*q1))))+jb (wHi (q2*q2)) (wLo (q2*q2))))+jb (wHi (q3*q3)) (wLo (q3*q3))))
theorem jxY (q0 q1 q2 q3:Int):(jR Tryz.prog (ZF K7 133) Zl 4000 116 [.v (.agg [.int .i64 q0,.int .i64 q1,.int .i64 q2,.int .i64 q3])] [] 0 (nn 1 (tt 1 []))).map (fun r=>(r.1,r.2.2.2))=some (LV.v (V1.one (At.bool false)),[(decide (jO q0>1073741840),true)]):=by kernel_rfl
theorem jxZ (q0 q1 q2 q3:Int):(jR Tryz.prog (ZF K7 133) Zl 4000 116 [.v (.agg [.int .i64 q0,.int .i64 q1,.int .i64 q2,.int .i64 q3])] [] 0 (nn 1 (ff 1 (nn 1 (tt 1 []))))).map (fun r=>(r.1,r.2.2.2))=some (LV.v (V1.one (At.bool false)),[(decide (jO q1>1073741840),true),(true&&true,true),(isI q0,true),(isI q0,true),(decide (jO q0>1073741840),false)]):=by kernel_rfl
theorem jx0 (q0 q1 q2 q3:Int):(jR Tryz.prog (ZF K7 133) Zl 4000 116 [.v (.agg [.int .i64 q0,.int .i64 q1,.int .i64 q2,.int .i64 q3])] [] 0 (nn 1 (ff 1 (nn 1 (ff 1 (nn 1 (tt 1 []))))))).map (fun r=>(r.1,r.2.2.2))=some (LV.v (V1.one (At.bool false)),[(decide (jO q2>1073741840),true),(true&&true,true),(isI q1,true),(isI q1,true),(decide (jO q1>1073741840),false),(true&&true,true),(isI q0,true),(isI q0,true),(decide (jO q0>1073741840),false)]):=by kernel_rfl
theorem jx1 (q0 q1 q2 q3:Int):(jR Tryz.prog (ZF K7 133) Zl 4000 116 [.v (.agg [.int .i64 q0,.int .i64 q1,.int .i64 q2,.int .i64 q3])] [] 0 (nn 1 (ff 1 (nn 1 (ff 1 (nn 1 (ff 1 (nn 1 (tt 1 []))))))))).map (fun r=>(r.1,r.2.2.2))=some (LV.v (V1.one (At.bool false)),[(decide (jO q3>1073741840),true),(true&&true,true),(isI q2,true),(isI q2,true),(decide (jO q2>1073741840),false),(true&&true,true),(isI q1,true),(isI q1,true),(decide (jO q1>1073741840),false),(true&&true,true),(isI q0,true),(isI q0,true),(decide (jO q0>1073741840),false)]):=by kernel_rfl
theorem jx2 (q0 q1 q2 q3:Int):(jR Tryz.prog (ZF K7 133) Zl 4000 116 [.v (.agg [.int .i64 q0,.int .i64 q1,.int .i64 q2,.int .i64 q3])] [] 0 (nn 1 (ff 1 (nn 1 (ff 1 (nn 1 (ff 1 (nn 1 (ff 1 (nn 2 (ff 1 (nn 1 (ff 1 (nn 1 (ff 1 (nn 1 (ff 1 (nn 1 (tt 8 []))))))))))))))))))).map (fun r=>(r.1,r.2.2.2))=some (LV.v (V1.one (At.bool (decide (wr IntKind.i64 ((if isI (kB (unE q0 q1 q2 q3) (Int.toNat 0))=true then kB (unE q0 q1 q2 q3) (Int.toNat 0) else 0) - 1152921504606846976)≤4294967296)))),[(decide (wr IntKind.i64 ((if isI (kB (unE q0 q1 q2 q3) (Int.toNat 0))=true then kB (unE q0 q1 q2 q3) (Int.toNat 0) else 0) - 1152921504606846976)≥ -4294967296),true),(decide (wr IntKind.i64 ((if isI (kB (unE q0 q1 q2 q3) (Int.toNat 0))=true then kB (unE q0 q1 q2 q3) (Int.toNat 0) else 0) - 1152921504606846976)≥ -4294967296),true),(decide (wr IntKind.i64 ((if isI (kB (unE q0 q1 q2 q3) (Int.toNat 0))=true then kB (unE q0 q1 q2 q3) (Int.toNat 0) else 0) - 1152921504606846976)≥ -4294967296),true),(decide (wr IntKind.i64 ((if isI (kB (unE q0 q1 q2 q3) (Int.toNat 0))=true then kB (unE q0 q1 q2 q3) (Int.toNat 0) else 0) - 1152921504606846976)≥ -4294967296),true),(isI (kB (unE q0 q1 q2 q3) 0),true),(isI (kB (unE q0 q1 q2 q3) 0),true),(isI (kB (unE q0 q1 q2 q3) 0),true),(isI (kB (unE q0 q1 q2 q3) 0),true),(isI (w64 (wHi (unD q0 q1 q2 q3))),true),(isU (wLo (unD q0 q1 q2 q3)),true),(decide (0≤0)&&decide (0≤126),true),(!isW (unD q0 q1 q2 q3),false),(isI (w64 (wHi (unC q0 q1 q2 q3))),true),(isU (wLo (unC q0 q1 q2 q3)),true),(isI (wHi (q3*q3)),true),(isU (wLo (q3*q3)),true),(!isW (unC q0 q1 q2 q3),false),(isI (w64 (wHi (unB q0 q1 q2 q3))),true),(isU (wLo (unB q0 q1 q2 q3)),true),(isI (wHi (q2*q2)),true),(isU (wLo (q2*q2)),true),(!isW (unB q0 q1 q2 q3),false),(isI (w64 (wHi (unA q0 q1 q2 q3))),true),(isU (wLo (unA q0 q1 q2 q3)),true),(isI (wHi (q1*q1)),true),(isU (wLo (q1*q1)),true),(!isW (unA q0 q1 q2 q3),false),(isI 0,true),(isU 0,true),(isI (wHi (q0*q0)),true),(isU (wLo (q0*q0)),true),(true&&true,true),(isI q3,true),(isI q3,true),(decide (jO q3>1073741840),false),(true&&true,true),(isI q2,true),(isI q2,true),(decide (jO q2>1073741840),false),(true&&true,true),(isI q1,true),(isI q1,true),(decide (jO q1>1073741840),false),(true&&true,true),(isI q0,true),(isI q0,true),(decide (jO q0>1073741840),false)]):=by kernel_rfl
theorem jx3 (q0 q1 q2 q3:Int):(jR Tryz.prog (ZF K7 133) Zl 4000 116 [.v (.agg [.int .i64 q0,.int .i64 q1,.int .i64 q2,.int .i64 q3])] [] 0 (nn 1 (ff 1 (nn 1 (ff 1 (nn 1 (ff 1 (nn 1 (ff 1 (nn 2 (ff 1 (nn 1 (ff 1 (nn 1 (ff 1 (nn 1 (ff 1 (nn 1 (tt 4 (ff 4 [])))))))))))))))))))).map (fun r=>(r.1,r.2.2.2))=some (LV.v (V1.one (At.bool false)),[(decide (wr IntKind.i64 ((if isI (kB (unE q0 q1 q2 q3) (Int.toNat 0))=true then kB (unE q0 q1 q2 q3) (Int.toNat 0) else 0) - 1152921504606846976)≥ -4294967296),false),(decide (wr IntKind.i64 ((if isI (kB (unE q0 q1 q2 q3) (Int.toNat 0))=true then kB (unE q0 q1 q2 q3) (Int.toNat 0) else 0) - 1152921504606846976)≥ -4294967296),false),(decide (wr IntKind.i64 ((if isI (kB (unE q0 q1 q2 q3) (Int.toNat 0))=true then kB (unE q0 q1 q2 q3) (Int.toNat 0) else 0) - 1152921504606846976)≥ -4294967296),false),(decide (wr IntKind.i64 ((if isI (kB (unE q0 q1 q2 q3) (Int.toNat 0))=true then kB (unE q0 q1 q2 q3) (Int.toNat 0) else 0) - 1152921504606846976)≥ -4294967296),false),(isI (kB (unE q0 q1 q2 q3) 0),true),(isI (kB (unE q0 q1 q2 q3) 0),true),(isI (kB (unE q0 q1 q2 q3) 0),true),(isI (kB (unE q0 q1 q2 q3) 0),true),(isI (w64 (wHi (unD q0 q1 q2 q3))),true),(isU (wLo (unD q0 q1 q2 q3)),true),(decide (0≤0)&&decide (0≤126),true),(!isW (unD q0 q1 q2 q3),false),(isI (w64 (wHi (unC q0 q1 q2 q3))),true),(isU (wLo (unC q0 q1 q2 q3)),true),(isI (wHi (q3*q3)),true),(isU (wLo (q3*q3)),true),(!isW (unC q0 q1 q2 q3),false),(isI (w64 (wHi (unB q0 q1 q2 q3))),true),(isU (wLo (unB q0 q1 q2 q3)),true),(isI (wHi (q2*q2)),true),(isU (wLo (q2*q2)),true),(!isW (unB q0 q1 q2 q3),false),(isI (w64 (wHi (unA q0 q1 q2 q3))),true),(isU (wLo (unA q0 q1 q2 q3)),true),(isI (wHi (q1*q1)),true),(isU (wLo (q1*q1)),true),(!isW (unA q0 q1 q2 q3),false),(isI 0,true),(isU 0,true),(isI (wHi (q0*q0)),true),(isU (wLo (q0*q0)),true),(true&&true,true),(isI q3,true),(isI q3,true),(decide (jO q3>1073741840),false),(true&&true,true),(isI q2,true),(isI q2,true),(decide (jO q2>1073741840),false),(true&&true,true),(isI q1,true),(isI q1,true),(decide (jO q1>1073741840),false),(true&&true,true),(isI q0,true),(isI q0,true),(decide (jO q0>1073741840),false)]):=by kernel_rfl
theorem Qj {x:Int} (h:decide (jO x>1073741840)=false): -1073741840≤x∧x≤1073741840:=by
 have:=of_decide_eq_false h
 unfold jO at this
 split at this <;> rename_i h1
 ·omega
 ·split at this <;> rename_i h2
  ·omega
  ·split at this <;> omega
theorem KK {x:Int} (h: -1073741840≤x∧x≤1073741840):0≤x*x∧x*x≤1152921538966585600:=by
 constructor
 ·by_cases h0:0≤x
  ·exact Int.mul_nonneg h0 h0
  ·have:=Int.mul_nonneg (show 0≤ -x by omega) (show 0≤ -x by omega);rwa [Int.neg_mul_neg] at this
 ·by_cases h0:0≤x
  ·have:=Int.mul_le_mul h.2 h.2 h0 (by omega);omega
  ·have:=Int.mul_le_mul (show -x≤1073741840 by omega) (show -x≤1073741840 by omega) (by omega) (by omega);rw [Int.neg_mul_neg] at this;omega
theorem YA {x:Int} (h: -1073741840≤x∧x≤1073741840):isI x=true:=isI_iff.2 (by omega)
theorem w00:jb 0 0=0:=rfl
theorem wre {v:Int} (h0:0≤v) (h1:v<9223372036854775808*18446744073709551616):w64 (wHi v)=wHi v:=xu (by unfold wHi;omega) (by unfold wHi;omega)
theorem jcq {v:Int} (h0:0≤v) (h1:v<9223372036854775808):isW v=true:=by
 unfold isW;simp only [Bool.and_eq_true,decide_eq_true_eq];omega
theorem zj {v:Int} (h0:0≤v) (h1:v<9223372036854775808):isI (wHi v)=true:=isI_iff.2 (by unfold wHi;omega)
theorem jDS {q0 q1 q2 q3:Int} (h0: -1073741840≤q0∧q0≤1073741840) (h1: -1073741840≤q1∧q1≤1073741840) (h2: -1073741840≤q2∧q2≤1073741840) (h3: -1073741840≤q3∧q3≤1073741840):
  unA q0 q1 q2 q3=q0*q0∧unB q0 q1 q2 q3=q0*q0+q1*q1∧unC q0 q1 q2 q3=q0*q0+q1*q1+q2*q2∧unD q0 q1 q2 q3=q0*q0+q1*q1+q2*q2+q3*q3∧unE q0 q1 q2 q3=q0*q0+q1*q1+q2*q2+q3*q3:=by
 have s0:=KK h0
 have s1:=KK h1
 have s2:=KK h2
 have s3:=KK h3
 have a:unA q0 q1 q2 q3=q0*q0:=by unfold unA;rw [jW,w00];omega
 have b:unB q0 q1 q2 q3=q0*q0+q1*q1:=by
  have e:unB q0 q1 q2 q3=jb (w64 (wHi (unA q0 q1 q2 q3))) (wLo (unA q0 q1 q2 q3))+jb (wHi (q1*q1)) (wLo (q1*q1)):=rfl
  rw [e,a,wre (by omega) (by omega),jW,jW]
 have c:unC q0 q1 q2 q3=q0*q0+q1*q1+q2*q2:=by
  have e:unC q0 q1 q2 q3=jb (w64 (wHi (unB q0 q1 q2 q3))) (wLo (unB q0 q1 q2 q3))+jb (wHi (q2*q2)) (wLo (q2*q2)):=rfl
  rw [e,b,wre (by omega) (by omega),jW,jW]
 have d:unD q0 q1 q2 q3=q0*q0+q1*q1+q2*q2+q3*q3:=by
  have e:unD q0 q1 q2 q3=jb (w64 (wHi (unC q0 q1 q2 q3))) (wLo (unC q0 q1 q2 q3))+jb (wHi (q3*q3)) (wLo (q3*q3)):=rfl
  rw [e,c,wre (by omega) (by omega),jW,jW]
 refine ⟨a,b,c,d, ?_⟩
 have e:unE q0 q1 q2 q3=jb (w64 (wHi (unD q0 q1 q2 q3))) (wLo (unD q0 q1 q2 q3)):=rfl
 rw [e,d,wre (by omega) (by omega),jW]
def Kj (q0 q1 q2 q3:Int):Bool:=bif decide (jO q0>1073741840) then false else bif decide (jO q1>1073741840) then false else bif decide (jO q2>1073741840) then false else bif decide (jO q3>1073741840) then false else
 decide (q0*q0+q1*q1+q2*q2+q3*q3 - 1152921504606846976≥ -4294967296)&&decide (q0*q0+q1*q1+q2*q2+q3*q3 - 1152921504606846976≤4294967296)
def jx4:List LV→Option (LV×List (Bool×Bool))
 | [.v (.agg [.int .i64 q0,.int .i64 q1,.int .i64 q2,.int .i64 q3])]=>some (.v (.one (.bool (Kj q0 q1 q2 q3))),[])
 | _=>none
theorem jpY:SumOK Tryz.prog 116 (jp jx4):=by
 refine jM (z:=Zl) (soundK7.drop 133) (jg soundK7 Tryz.func116 (by kernel_rfl)) fun args v cs hF hc=> ?_
 unfold jx4 at hF
 split at hF
 ·rename_i q0 q1 q2 q3
  cases hF
  cases c0:decide (jO q0>1073741840)
  ·have h0:=Qj c0
   have b0:=YA h0
   cases c1:decide (jO q1>1073741840)
   ·have h1:=Qj c1
    have b1:=YA h1
    cases c2:decide (jO q2>1073741840)
    ·have h2:=Qj c2
     have b2:=YA h2
     cases c3:decide (jO q3>1073741840)
     ·have h3:=Qj c3
      obtain ⟨eA,eB,eC,eD,eE⟩:=jDS h0 h1 h2 h3
      have s0:=KK h0
      have s1:=KK h1
      have s2:=KK h2
      have s3:=KK h3
      have r0:isI (kB (unE q0 q1 q2 q3) 0)=true:=by rw [eE];have:=jpc (q0*q0+q1*q1+q2*q2+q3*q3);simp only [Int.toNat_zero] at this;rw [this];exact isI_iff.2 (by omega)
      have r1:kB (unE q0 q1 q2 q3) (Int.toNat 0)=q0*q0+q1*q1+q2*q2+q3*q3:=by rw [eE,jpc]
      have r2:wr IntKind.i64 ((if isI (kB (unE q0 q1 q2 q3) (Int.toNat 0))=true then kB (unE q0 q1 q2 q3) (Int.toNat 0) else 0) - 1152921504606846976)=q0*q0+q1*q1+q2*q2+q3*q3 - 1152921504606846976:=by
       rw [if_pos (show isI (kB (unE q0 q1 q2 q3) (Int.toNat 0))=true from r0),r1,jlc,xu (by omega) (by omega)]
      have wA:(!isW (unA q0 q1 q2 q3))=false:=by rw [eA,jcq (by omega) (by omega)];rfl
      have wB:(!isW (unB q0 q1 q2 q3))=false:=by rw [eB,jcq (by omega) (by omega)];rfl
      have wC:(!isW (unC q0 q1 q2 q3))=false:=by rw [eC,jcq (by omega) (by omega)];rfl
      have wD:(!isW (unD q0 q1 q2 q3))=false:=by rw [eD,jcq (by omega) (by omega)];rfl
      have iA:isI (w64 (wHi (unA q0 q1 q2 q3)))=true:=by rw [eA,wre (by omega) (by omega)];exact zj (by omega) (by omega)
      have iB:isI (w64 (wHi (unB q0 q1 q2 q3)))=true:=by rw [eB,wre (by omega) (by omega)];exact zj (by omega) (by omega)
      have iC:isI (w64 (wHi (unC q0 q1 q2 q3)))=true:=by rw [eC,wre (by omega) (by omega)];exact zj (by omega) (by omega)
      have iD:isI (w64 (wHi (unD q0 q1 q2 q3)))=true:=by rw [eD,wre (by omega) (by omega)];exact zj (by omega) (by omega)
      have i0:isI (wHi (q0*q0))=true:=zj (by omega) (by omega)
      have i1:isI (wHi (q1*q1))=true:=zj (by omega) (by omega)
      have i2:isI (wHi (q2*q2))=true:=zj (by omega) (by omega)
      have i3:isI (wHi (q3*q3))=true:=zj (by omega) (by omega)
      have b3:=YA h3
      cases c4:decide (q0*q0+q1*q1+q2*q2+q3*q3 - 1152921504606846976≥ -4294967296)
      ·have e:Kj q0 q1 q2 q3=false:=by unfold Kj;rw [c0,c1,c2,c3,c4];rfl
       rw [e]
       refine ⟨4000,_,_,jx3 q0 q1 q2 q3, ?_⟩
       rw [r2]
       repeat' first | exact jd | apply ja
       all_goals first | with_reducible assumption | with_reducible rfl | with_reducible exact Yg _ | rfl
      ·have e:Kj q0 q1 q2 q3=decide (q0*q0+q1*q1+q2*q2+q3*q3 - 1152921504606846976≤4294967296):=by unfold Kj;rw [c0,c1,c2,c3,c4];rfl
       rw [e,←r2]
       refine ⟨4000,_,_,jx2 q0 q1 q2 q3, ?_⟩
       rw [r2]
       repeat' first | exact jd | apply ja
       all_goals first | with_reducible assumption | with_reducible rfl | with_reducible exact Yg _ | rfl
     ·have e:Kj q0 q1 q2 q3=false:=by unfold Kj;rw [c0,c1,c2,c3];rfl
      rw [e]
      refine ⟨4000,_,_,jx1 q0 q1 q2 q3, ?_⟩
      repeat' first | exact jd | apply ja
      all_goals first | with_reducible assumption | with_reducible rfl | rfl
    ·have e:Kj q0 q1 q2 q3=false:=by unfold Kj;rw [c0,c1,c2];rfl
     rw [e]
     refine ⟨4000,_,_,jx0 q0 q1 q2 q3, ?_⟩
     repeat' first | exact jd | apply ja
     all_goals first | with_reducible assumption | with_reducible rfl | rfl
   ·have e:Kj q0 q1 q2 q3=false:=by unfold Kj;rw [c0,c1];rfl
    rw [e]
    refine ⟨4000,_,_,jxZ q0 q1 q2 q3, ?_⟩
    repeat' first | exact jd | apply ja
    all_goals first | with_reducible assumption | with_reducible rfl | rfl
  ·have e:Kj q0 q1 q2 q3=false:=by unfold Kj;rw [c0];rfl
   rw [e]
   exact ⟨4000,_,_,jxY q0 q1 q2 q3,ja c0 jd⟩
 ·cases hF
noncomputable def K8u:FuncId→Option SumK:=more K7 116 (jp jx4)
theorem soundK8u:Sound Tryz.prog K8u:=soundK7.more jpY
end Go.Proofs.YtnlhpaidmiogbaaGreat

/- state.clamp: its summary. -/
namespace Go.Proofs.YtnlhpaidmiogbaaGreat
open Go.Lr
noncomputable def K9u:FuncId→Option SumK:=more K8u 119 (jv 61 (Jd Tryz.prog K8u Zl 2000 119 61))
theorem soundK9u:Sound Tryz.prog K9u:=soundK8u.more (kU soundK8u (jg soundK8u Tryz.func119 (by kernel_rfl)))
end Go.Proofs.YtnlhpaidmiogbaaGreat
