/- Joined texts. What each part proves stands ahead of it; no condition. -/
import Derived.Test.YtnlhpaidmiogbaaGreatLrM5
import Derived.Test.YtnlhpaidmiogbaaGreatLrM4
import Derived.Test.YtnlhpaidmiogbaaGreatLrM2
import Derived.WalkKit
import Derived.ProofKit
import Derived.OpenShut
import Derived.WideShapes

/- state.Keep: its summary, number by number: it always ends. -/
namespace Go.Proofs.YtnlhpaidmiogbaaGreat
open Go.Lr
set_option linter.unusedVariables false
def je7 (hb:Bool) (s0 s1 s2 s3 s4 s5 s6 s7 s8 s9 s10 s11 s12 s13 s14 s15 s16 s17 s18 s19 s20 s21 s22 s23:Int):Bool:=(bif Kj s0 s1 s2 s3 then hb else uFl hb s0 s1 s2 s3)||jF s4 (wr IntKind.i64 (0 - 549755813888)) 549755813888||jF s5 (wr IntKind.i64 (0 - 549755813888)) 549755813888||jF s6 (wr IntKind.i64 (0 - 549755813888)) 549755813888||jF s7 (wr IntKind.i64 (0 - 9007199254740992)) 9007199254740992||jF s8 (wr IntKind.i64 (0 - 9007199254740992)) 9007199254740992||jF s9 (wr IntKind.i64 (0 - 9007199254740992)) 9007199254740992||jF s10 (wr IntKind.i64 (0 - 134217728)) 134217728||jF s11 (wr IntKind.i64 (0 - 134217728)) 134217728||jF s12 (wr IntKind.i64 (0 - 134217728)) 134217728||jF s13 (wr IntKind.i64 (0 - 1073741824)) 1073741824||jF s14 (wr IntKind.i64 (0 - 1073741824)) 1073741824||jF s15 (wr IntKind.i64 (0 - 1073741824)) 1073741824||jF s16 (wr IntKind.i64 (0 - 2147483648)) 2147483648||jF s17 (wr IntKind.i64 (0 - 2147483648)) 2147483648||jF s18 (wr IntKind.i64 (0 - 2147483648)) 2147483648||jF s19 (wr IntKind.i64 (0 - 2147483648)) 2147483648||jF s20 (wr IntKind.i64 (0 - 2147483648)) 2147483648||jF s21 (wr IntKind.i64 (0 - 2147483648)) 2147483648||jF s22 (wr IntKind.i64 (0 - 137438953472)) 137438953472||jF s23 (wr IntKind.i64 (0 - 137438953472)) 137438953472
def jdg (s0 s1 s2 s3 s4 s5 s6 s7 s8 s9 s10 s11 s12 s13 s14 s15 s16 s17 s18 s19 s20 s21 s22 s23:Int):LV:= .v (.agg [.int .i64 (bif Kj s0 s1 s2 s3 then s0 else uV0 s0 s1 s2 s3),.int .i64 (bif Kj s0 s1 s2 s3 then s1 else uV1 s0 s1 s2 s3),.int .i64 (bif Kj s0 s1 s2 s3 then s2 else uV2 s0 s1 s2 s3),.int .i64 (bif Kj s0 s1 s2 s3 then s3 else uV3 s0 s1 s2 s3),.int .i64 (jw s4 (wr IntKind.i64 (0 - 549755813888)) 549755813888),.int .i64 (jw s5 (wr IntKind.i64 (0 - 549755813888)) 549755813888),.int .i64 (jw s6 (wr IntKind.i64 (0 - 549755813888)) 549755813888),.int .i64 (jw s7 (wr IntKind.i64 (0 - 9007199254740992)) 9007199254740992),.int .i64 (jw s8 (wr IntKind.i64 (0 - 9007199254740992)) 9007199254740992),.int .i64 (jw s9 (wr IntKind.i64 (0 - 9007199254740992)) 9007199254740992),.int .i64 (jw s10 (wr IntKind.i64 (0 - 134217728)) 134217728),.int .i64 (jw s11 (wr IntKind.i64 (0 - 134217728)) 134217728),.int .i64 (jw s12 (wr IntKind.i64 (0 - 134217728)) 134217728),.int .i64 (jw s13 (wr IntKind.i64 (0 - 1073741824)) 1073741824),.int .i64 (jw s14 (wr IntKind.i64 (0 - 1073741824)) 1073741824),.int .i64 (jw s15 (wr IntKind.i64 (0 - 1073741824)) 1073741824),.int .i64 (jw s16 (wr IntKind.i64 (0 - 2147483648)) 2147483648),.int .i64 (jw s17 (wr IntKind.i64 (0 - 2147483648)) 2147483648),.int .i64 (jw s18 (wr IntKind.i64 (0 - 2147483648)) 2147483648),.int .i64 (jw s19 (wr IntKind.i64 (0 - 2147483648)) 2147483648),.int .i64 (jw s20 (wr IntKind.i64 (0 - 2147483648)) 2147483648),.int .i64 (jw s21 (wr IntKind.i64 (0 - 2147483648)) 2147483648),.int .i64 (jw s22 (wr IntKind.i64 (0 - 137438953472)) 137438953472),.int .i64 (jw s23 (wr IntKind.i64 (0 - 137438953472)) 137438953472)])
def jk8:List LV→Bool→Option (LV×Bool×List (Bool×Bool))
 | [.v (.agg [.int .i64 s0,.int .i64 s1,.int .i64 s2,.int .i64 s3,.int .i64 s4,.int .i64 s5,.int .i64 s6,.int .i64 s7,.int .i64 s8,.int .i64 s9,.int .i64 s10,.int .i64 s11,.int .i64 s12,.int .i64 s13,.int .i64 s14,.int .i64 s15,.int .i64 s16,.int .i64 s17,.int .i64 s18,.int .i64 s19,.int .i64 s20,.int .i64 s21,.int .i64 s22,.int .i64 s23])],hb=>some (jdg s0 s1 s2 s3 s4 s5 s6 s7 s8 s9 s10 s11 s12 s13 s14 s15 s16 s17 s18 s19 s20 s21 s22 s23,je7 hb s0 s1 s2 s3 s4 s5 s6 s7 s8 s9 s10 s11 s12 s13 s14 s15 s16 s17 s18 s19 s20 s21 s22 s23,[])
 | _,_=>none
theorem jpV (s0 s1 s2 s3 s4 s5 s6 s7 s8 s9 s10 s11 s12 s13 s14 s15 s16 s17 s18 s19 s20 s21 s22 s23:Int) (hb:Bool):(jR Tryz.prog K9u Zl 4000 61 [A0,.v (.agg [.int .i64 s0,.int .i64 s1,.int .i64 s2,.int .i64 s3,.int .i64 s4,.int .i64 s5,.int .i64 s6,.int .i64 s7,.int .i64 s8,.int .i64 s9,.int .i64 s10,.int .i64 s11,.int .i64 s12,.int .i64 s13,.int .i64 s14,.int .i64 s15,.int .i64 s16,.int .i64 s17,.int .i64 s18,.int .i64 s19,.int .i64 s20,.int .i64 s21,.int .i64 s22,.int .i64 s23])] [(0,flag 61 hb)] 1 (tt 1 [])).map (fun r=>(r.1,getM r.2.1 0,r.2.2.2))=some (.v (.agg [.int .i64 (uV0 s0 s1 s2 s3),.int .i64 (uV1 s0 s1 s2 s3),.int .i64 (uV2 s0 s1 s2 s3),.int .i64 (uV3 s0 s1 s2 s3),.int .i64 ((jw s4 (wr IntKind.i64 (0 - 549755813888)) 549755813888)),.int .i64 ((jw s5 (wr IntKind.i64 (0 - 549755813888)) 549755813888)),.int .i64 ((jw s6 (wr IntKind.i64 (0 - 549755813888)) 549755813888)),.int .i64 ((jw s7 (wr IntKind.i64 (0 - 9007199254740992)) 9007199254740992)),.int .i64 ((jw s8 (wr IntKind.i64 (0 - 9007199254740992)) 9007199254740992)),.int .i64 ((jw s9 (wr IntKind.i64 (0 - 9007199254740992)) 9007199254740992)),.int .i64 ((jw s10 (wr IntKind.i64 (0 - 134217728)) 134217728)),.int .i64 ((jw s11 (wr IntKind.i64 (0 - 134217728)) 134217728)),.int .i64 ((jw s12 (wr IntKind.i64 (0 - 134217728)) 134217728)),.int .i64 ((jw s13 (wr IntKind.i64 (0 - 1073741824)) 1073741824)),.int .i64 ((jw s14 (wr IntKind.i64 (0 - 1073741824)) 1073741824)),.int .i64 ((jw s15 (wr IntKind.i64 (0 - 1073741824)) 1073741824)),.int .i64 ((jw s16 (wr IntKind.i64 (0 - 2147483648)) 2147483648)),.int .i64 ((jw s17 (wr IntKind.i64 (0 - 2147483648)) 2147483648)),.int .i64 ((jw s18 (wr IntKind.i64 (0 - 2147483648)) 2147483648)),.int .i64 ((jw s19 (wr IntKind.i64 (0 - 2147483648)) 2147483648)),.int .i64 ((jw s20 (wr IntKind.i64 (0 - 2147483648)) 2147483648)),.int .i64 ((jw s21 (wr IntKind.i64 (0 - 2147483648)) 2147483648)),.int .i64 ((jw s22 (wr IntKind.i64 (0 - 137438953472)) 137438953472)),.int .i64 ((jw s23 (wr IntKind.i64 (0 - 137438953472)) 137438953472))]),some (flag 61 (uFl hb s0 s1 s2 s3||jF s4 (wr IntKind.i64 (0 - 549755813888)) 549755813888||jF s5 (wr IntKind.i64 (0 - 549755813888)) 549755813888||jF s6 (wr IntKind.i64 (0 - 549755813888)) 549755813888||jF s7 (wr IntKind.i64 (0 - 9007199254740992)) 9007199254740992||jF s8 (wr IntKind.i64 (0 - 9007199254740992)) 9007199254740992||jF s9 (wr IntKind.i64 (0 - 9007199254740992)) 9007199254740992||jF s10 (wr IntKind.i64 (0 - 134217728)) 134217728||jF s11 (wr IntKind.i64 (0 - 134217728)) 134217728||jF s12 (wr IntKind.i64 (0 - 134217728)) 134217728||jF s13 (wr IntKind.i64 (0 - 1073741824)) 1073741824||jF s14 (wr IntKind.i64 (0 - 1073741824)) 1073741824||jF s15 (wr IntKind.i64 (0 - 1073741824)) 1073741824||jF s16 (wr IntKind.i64 (0 - 2147483648)) 2147483648||jF s17 (wr IntKind.i64 (0 - 2147483648)) 2147483648||jF s18 (wr IntKind.i64 (0 - 2147483648)) 2147483648||jF s19 (wr IntKind.i64 (0 - 2147483648)) 2147483648||jF s20 (wr IntKind.i64 (0 - 2147483648)) 2147483648||jF s21 (wr IntKind.i64 (0 - 2147483648)) 2147483648||jF s22 (wr IntKind.i64 (0 - 137438953472)) 137438953472||jF s23 (wr IntKind.i64 (0 - 137438953472)) 137438953472)),[(!Kj s0 s1 s2 s3,true)]):=by kernel_rfl
theorem jpW (s0 s1 s2 s3 s4 s5 s6 s7 s8 s9 s10 s11 s12 s13 s14 s15 s16 s17 s18 s19 s20 s21 s22 s23:Int) (hb:Bool):(jR Tryz.prog K9u Zl 4000 61 [A0,.v (.agg [.int .i64 s0,.int .i64 s1,.int .i64 s2,.int .i64 s3,.int .i64 s4,.int .i64 s5,.int .i64 s6,.int .i64 s7,.int .i64 s8,.int .i64 s9,.int .i64 s10,.int .i64 s11,.int .i64 s12,.int .i64 s13,.int .i64 s14,.int .i64 s15,.int .i64 s16,.int .i64 s17,.int .i64 s18,.int .i64 s19,.int .i64 s20,.int .i64 s21,.int .i64 s22,.int .i64 s23])] [(0,flag 61 hb)] 1 (ff 1 [])).map (fun r=>(r.1,getM r.2.1 0,r.2.2.2))=some (.v (.agg [.int .i64 (s0),.int .i64 (s1),.int .i64 (s2),.int .i64 (s3),.int .i64 ((jw s4 (wr IntKind.i64 (0 - 549755813888)) 549755813888)),.int .i64 ((jw s5 (wr IntKind.i64 (0 - 549755813888)) 549755813888)),.int .i64 ((jw s6 (wr IntKind.i64 (0 - 549755813888)) 549755813888)),.int .i64 ((jw s7 (wr IntKind.i64 (0 - 9007199254740992)) 9007199254740992)),.int .i64 ((jw s8 (wr IntKind.i64 (0 - 9007199254740992)) 9007199254740992)),.int .i64 ((jw s9 (wr IntKind.i64 (0 - 9007199254740992)) 9007199254740992)),.int .i64 ((jw s10 (wr IntKind.i64 (0 - 134217728)) 134217728)),.int .i64 ((jw s11 (wr IntKind.i64 (0 - 134217728)) 134217728)),.int .i64 ((jw s12 (wr IntKind.i64 (0 - 134217728)) 134217728)),.int .i64 ((jw s13 (wr IntKind.i64 (0 - 1073741824)) 1073741824)),.int .i64 ((jw s14 (wr IntKind.i64 (0 - 1073741824)) 1073741824)),.int .i64 ((jw s15 (wr IntKind.i64 (0 - 1073741824)) 1073741824)),.int .i64 ((jw s16 (wr IntKind.i64 (0 - 2147483648)) 2147483648)),.int .i64 ((jw s17 (wr IntKind.i64 (0 - 2147483648)) 2147483648)),.int .i64 ((jw s18 (wr IntKind.i64 (0 - 2147483648)) 2147483648)),.int .i64 ((jw s19 (wr IntKind.i64 (0 - 2147483648)) 2147483648)),.int .i64 ((jw s20 (wr IntKind.i64 (0 - 2147483648)) 2147483648)),.int .i64 ((jw s21 (wr IntKind.i64 (0 - 2147483648)) 2147483648)),.int .i64 ((jw s22 (wr IntKind.i64 (0 - 137438953472)) 137438953472)),.int .i64 ((jw s23 (wr IntKind.i64 (0 - 137438953472)) 137438953472))]),some (flag 61 (hb||jF s4 (wr IntKind.i64 (0 - 549755813888)) 549755813888||jF s5 (wr IntKind.i64 (0 - 549755813888)) 549755813888||jF s6 (wr IntKind.i64 (0 - 549755813888)) 549755813888||jF s7 (wr IntKind.i64 (0 - 9007199254740992)) 9007199254740992||jF s8 (wr IntKind.i64 (0 - 9007199254740992)) 9007199254740992||jF s9 (wr IntKind.i64 (0 - 9007199254740992)) 9007199254740992||jF s10 (wr IntKind.i64 (0 - 134217728)) 134217728||jF s11 (wr IntKind.i64 (0 - 134217728)) 134217728||jF s12 (wr IntKind.i64 (0 - 134217728)) 134217728||jF s13 (wr IntKind.i64 (0 - 1073741824)) 1073741824||jF s14 (wr IntKind.i64 (0 - 1073741824)) 1073741824||jF s15 (wr IntKind.i64 (0 - 1073741824)) 1073741824||jF s16 (wr IntKind.i64 (0 - 2147483648)) 2147483648||jF s17 (wr IntKind.i64 (0 - 2147483648)) 2147483648||jF s18 (wr IntKind.i64 (0 - 2147483648)) 2147483648||jF s19 (wr IntKind.i64 (0 - 2147483648)) 2147483648||jF s20 (wr IntKind.i64 (0 - 2147483648)) 2147483648||jF s21 (wr IntKind.i64 (0 - 2147483648)) 2147483648||jF s22 (wr IntKind.i64 (0 - 137438953472)) 137438953472||jF s23 (wr IntKind.i64 (0 - 137438953472)) 137438953472)),[(!Kj s0 s1 s2 s3,false)]):=by kernel_rfl
theorem jk9:SumOK Tryz.prog 61 (jv 61 jk8):=by
 refine jT (z:=Zl) soundK9u (jg soundK9u Tryz.func61 (by kernel_rfl)) fun args hb v h' cs hF hc=> ?_
 unfold jk8 at hF
 split at hF
 ·rename_i s0 s1 s2 s3 s4 s5 s6 s7 s8 s9 s10 s11 s12 s13 s14 s15 s16 s17 s18 s19 s20 s21 s22 s23
  cases hF
  cases c:Kj s0 s1 s2 s3
  ·refine ⟨rfl,4000,tt 1 [],_, ?_,ja (show (!Kj s0 s1 s2 s3)=true by rw [c];rfl) jd⟩
   rw [jpV]
   simp only [jdg,je7,c,cond_false]
  ·refine ⟨rfl,4000,ff 1 [],_, ?_,ja (show (!Kj s0 s1 s2 s3)=false by rw [c];rfl) jd⟩
   rw [jpW]
   simp only [jdg,je7,c,cond_true]
 ·cases hF
noncomputable def jxW:FuncId→Option SumK:=more K9u 61 (jv 61 jk8)
theorem soundK10u:Sound Tryz.prog jxW:=soundK9u.more jk9
noncomputable def jxX:FuncId→Option SumK:=more jxW 154 (jv 61 (Jd Tryz.prog jxW Zl 2000 154 61))
theorem soundK11u:Sound Tryz.prog jxX:=soundK10u.more (kU soundK10u (jg soundK10u Tryz.func154 (by kernel_rfl)))
noncomputable def jvt:FuncId→Option SumK:=more jxX 149 (jv 61 (Jd Tryz.prog jxX Zl 2000 149 61))
theorem soundK12u:Sound Tryz.prog jvt:=soundK11u.more (kU soundK11u (jg soundK11u Tryz.func149 (by kernel_rfl)))
end Go.Proofs.YtnlhpaidmiogbaaGreat

/- States with holes: what a stage comes to, but for numbers that do not matter. -/
set_option linter.unusedVariables false
namespace Go.Lr
open Go.RowKit
inductive P1 where
 | lit (a:At)
 | hi
 | hb
def XR:List (Nat×Nat)→List (Nat×Nat)→Bool
 | [],[]=>true
 | (a,b)::l,(c,d)::m=>match Nat.beq a c with
  | true=>match Nat.beq b d with
   | true=>XR l m
   | false=>false
  | false=>false
 | _,_=>false
theorem ZP:∀{l m:List (Nat×Nat)},XR l m=true→l=m
 | [],[],_=>rfl
 | [],_::_,h=>by simp [XR] at h
 | _::_,[],h=>by simp [XR] at h
 | (a,b)::l,(c,d)::m,h=>by
  unfold XR at h
  split at h
  ·rename_i h1
   split at h
   ·rename_i h2
    rw [Nat.eq_of_beq_eq_true h1,Nat.eq_of_beq_eq_true h2,ZP h]
   ·cases h
  ·cases h
def jhW (a b c d e f:Nat):Bool:=match Nat.beq a b with
 | true=>match Nat.beq c d with
  | true=>Nat.beq e f
  | false=>false
 | false=>false
theorem zm {a b c d e f:Nat} (h:jhW a b c d e f=true):a=b∧c=d∧e=f:=by
 unfold jhW at h
 split at h
 ·rename_i h1
  split at h
  ·rename_i h2
   exact ⟨Nat.eq_of_beq_eq_true h1,Nat.eq_of_beq_eq_true h2,Nat.eq_of_beq_eq_true h⟩
  ·cases h
 ·cases h
def eqA:At→At→Bool
 | .int k n,.int l m=>match QA k l with
  | true=>decide (n=m)
  | false=>false
 | .bool a,.bool b=>match a,b with
  | true,true=>true
  | false,false=>true
  | _,_=>false
 | .ptr b o,.ptr c p=>jhW b c o p 0 0
 | .nilp,.nilp=>true
 | .sl b o l c,.sl b' o' l' c'=>match Nat.beq b b' with
  | true=>jhW o o' l l' c c'
  | false=>false
 | .slu b l,.slu b' l'=>jhW b b' l l' 0 0
 | .slx b o l c,.slx b' o' l' c'=>match Nat.beq b b' with
  | true=>jhW o o' l l' c c'
  | false=>false
 | .ptx b o,.ptx c p=>jhW b c o p 0 0
 | .nilsl,.nilsl=>true
 | .slt b o n,.slt b' o' n'=>jhW b b' o o' n n'
 | .fn f l,.fn g m=>match Nat.beq f g with
  | true=>XR l m
  | false=>false
 | _,_=>false
theorem jp5 {a b:At} (h:eqA a b=true):a=b:=by
 unfold eqA at h
 split at h
 ·split at h
  ·rename_i h1
   rw [Jx h1,of_decide_eq_true h]
  ·cases h
 ·split at h <;> first | rfl | cases h
 ·obtain ⟨rfl,rfl,_⟩:=zm h;rfl
 ·rfl
 ·split at h
  ·rename_i h1
   obtain ⟨rfl,rfl,rfl⟩:=zm h
   rw [Nat.eq_of_beq_eq_true h1]
  ·cases h
 ·obtain ⟨rfl,rfl,_⟩:=zm h;rfl
 ·split at h
  ·rename_i h1
   obtain ⟨rfl,rfl,rfl⟩:=zm h
   rw [Nat.eq_of_beq_eq_true h1]
  ·cases h
 ·obtain ⟨rfl,rfl,_⟩:=zm h;rfl
 ·rfl
 ·obtain ⟨rfl,rfl,rfl⟩:=zm h;rfl
 ·split at h
  ·rename_i h1
   have e:_=_:=Nat.eq_of_beq_eq_true h1
   rw [e,ZP h]
  ·cases h
 ·cases h
def jp6:P1→At→Bool
 | .lit a,b=>eqA b a
 | .hi,.int .i64 _=>true
 | .hb,.bool _=>true
 | _,_=>false
def jp7 (x:Int) (y:Bool):P1→At
 | .lit a=>a
 | .hi=> .int .i64 x
 | .hb=> .bool y
def iA:At→Int
 | .int _ n=>n
 | _=>0
def bA:At→Bool
 | .bool b=>b
 | _=>false
theorem ja9 {p:P1} {a:At} (h:jp6 p a=true):a=jp7 (iA a) (bA a) p:=by
 unfold jp6 at h
 split at h
 ·exact jp5 h
 ·rfl
 ·rfl
 ·cases h
def jjz:List P1→List At→Bool
 | [],[]=>true
 | p::ps,a::l=>match jp6 p a with
  | true=>jjz ps l
  | false=>false
 | _,_=>false
def jjA (f:Nat→Int) (g:Nat→Bool):Nat→List P1→List At
 | _,[]=>[]
 | o,p::ps=>jp7 (f o) (g o) p::jjA f g (o+1) ps
def xe (l:List At) (o:Nat):At:=(l[o]?).getD .nilp
theorem jfh:∀{ps:List P1} {l:List At} {o:Nat} {f:Nat→Int} {g:Nat→Bool},jjz ps l=true→(∀k a,l[k]? = some a→f (o+k)=iA a∧g (o+k)=bA a)→l=jjA f g o ps
 | [],[],_,_,_,_,_=>rfl
 | [],_::_,_,_,_,h,_=>by simp [jjz] at h
 | _::_,[],_,_,_,h,_=>by simp [jjz] at h
 | p::ps,a::l,o,f,g,h,hf=>by
  unfold jjz at h
  split at h
  ·rename_i h1
   have h0:=hf 0 a rfl
   have e:=ja9 h1
   simp only [jjA]
   rw [show f o=iA a from h0.1,show g o=bA a from h0.2,←e,←jfh h fun k b hk=>by
    have:=hf (k+1) b (by simpa using hk)
    rwa [show o+(k+1)=o+1+k by omega] at this]
  ·cases h
theorem jct {ps:List P1} {l:List At} (h:jjz ps l=true):l=jjA (fun o=>iA (xe l o)) (fun o=>bA (xe l o)) 0 ps:=
 jfh h fun k a hk=>by simp [xe,hk]
inductive PV where
 | one (p:P1)
 | agg (l:List P1)
structure PB where
 ty:TypeId
 fr:Nat×Nat
 es:Nat
 cells:List P1
structure Asg where
 F:Nat→Nat→Int
 G:Nat→Nat→Bool
 fs:Nat→Nat→Int
 gs:Nat→Nat→Bool
structure PS where
 live:List (Nat×PV)
 mem:List (Nat×PB)
 nb:Nat
def jB0 (f:Nat→Int) (g:Nat→Bool):PV→LV
 | .one p=> .v (.one (jp7 (f 0) (g 0) p))
 | .agg l=> .v (.agg (jjA f g 0 l))
def jB1 (f:Nat→Int) (g:Nat→Bool) (b:PB):Blk:=⟨b.ty,b.fr,b.es,jjA f g 0 b.cells⟩
def jfi (s:Asg):List (Nat×PV)→List (Nat×LV)
 | []=>[]
 | (i,p)::l=>(i,jB0 (s.fs i) (s.gs i) p)::jfi s l
def jvv (s:Asg):List (Nat×PB)→Mem
 | []=>[]
 | (i,p)::l=>(i,jB1 (s.F i) (s.G i) p)::jvv s l
def Ke (s:Asg) (p:PS):Kst:=⟨jfi s p.live,jvv s p.mem,p.nb⟩
def jyb:PV→LV→Bool
 | .one p,.v (.one a)=>jp6 p a
 | .agg l,.v (.agg m)=>jjz l m
 | _,_=>false
def xZ:LV→List At
 | .v (.one a)=>[a]
 | .v (.agg l)=>l
 | _=>[]
theorem jlg {p:PV} {v:LV} (h:jyb p v=true):v=jB0 (fun o=>iA (xe (xZ v) o)) (fun o=>bA (xe (xZ v) o)) p:=by
 unfold jyb at h
 split at h
 ·rename_i p a
  have e:=ja9 h
  show _=LV.v (.one (jp7 (iA a) (bA a) p))
  rw [←e]
 ·rename_i l m
  have e:=jct h
  show _=LV.v (.agg (jjA (fun o=>iA (xe m o)) (fun o=>bA (xe m o)) 0 l))
  rw [←e]
 ·cases h
def fr2 (a b:Nat×Nat):Bool:=match a,b with
 | (x,y),(z,w)=>jhW x z y w 0 0
def jp8 (p:PB) (b:Blk):Bool:=match Nat.beq b.ty p.ty with
 | true=>match fr2 b.fr p.fr with
  | true=>match Nat.beq b.es p.es with
   | true=>jjz p.cells b.cells
   | false=>false
  | false=>false
 | false=>false
theorem jba {p:PB} {b:Blk} (h:jp8 p b=true):b=jB1 (fun o=>iA (xe b.cells o)) (fun o=>bA (xe b.cells o)) p:=by
 unfold jp8 at h
 split at h
 ·rename_i h1
  split at h
  ·rename_i h2
   split at h
   ·rename_i h3
    have e:=jct h
    obtain ⟨ty,⟨x,y⟩,es,cells⟩:=b
    obtain ⟨ty',⟨x',y'⟩,es',ps⟩:=p
    simp only [fr2] at h2
    obtain ⟨rfl,rfl,_⟩:=zm h2
    have e1:ty=ty':=Nat.eq_of_beq_eq_true h1
    have e2:es=es':=Nat.eq_of_beq_eq_true h3
    subst e1
    subst e2
    show _=Blk.mk ty (x,y) es (jjA (fun o=>iA (xe cells o)) (fun o=>bA (xe cells o)) 0 ps)
    rw [←e]
   ·cases h
  ·cases h
 ·cases h
def jfj:List (Nat×PV)→List LV→Bool
 | [],[]=>true
 | (_,p)::l,v::m=>match jyb p v with
  | true=>jfj l m
  | false=>false
 | _,_=>false
def jbb:List (Nat×PB)→List (Option Blk)→Bool
 | [],[]=>true
 | (_,p)::l,some b::m=>match jp8 p b with
  | true=>jbb l m
  | false=>false
 | _,_=>false
theorem jcu {s:Asg}:∀{l:List (Nat×PV)} {m:List LV} {h:Nat→LV},jfj l m=true→(l.map (·.1)).map h=m→(∀k,s.fs k=(fun o=>iA (xe (xZ (h k)) o))∧s.gs k=(fun o=>bA (xe (xZ (h k)) o)))→(l.map (·.1)).zip m=jfi s l
 | [],_,_,_,_,_=>rfl
 | (i,p)::l,[],_,h,_,_=>by simp [jfj] at h
 | (i,p)::l,v::m,hh,h,he,hs=>by
  unfold jfj at h
  split at h
  ·rename_i h1
   simp only [List.map_cons,List.cons.injEq] at he
   have e:=jlg h1
   simp only [List.map_cons,List.zip_cons_cons,jfi]
   rw [jcu h he.2 hs,(hs i).1,(hs i).2,he.1,←e]
  ·cases h
theorem jcv {s:Asg}:∀{l:List (Nat×PB)} {m:List (Option Blk)} {h:Nat→Option Blk},jbb l m=true→(l.map (·.1)).map h=m→
  (∀k b,h k=some b→s.F k=(fun o=>iA (xe b.cells o))∧s.G k=(fun o=>bA (xe b.cells o)))→∃bs,m=bs.map some∧(l.map (·.1)).zip bs=jvv s l
 | [],[],_,_,_,_=>⟨[],rfl,rfl⟩
 | [],_::_,_,h,_,_=>by simp [jbb] at h
 | (i,p)::l,[],_,h,_,_=>by simp [jbb] at h
 | (i,p)::l,none::m,_,h,_,_=>by simp [jbb] at h
 | (i,p)::l,some b::m,hh,h,he,hs=>by
  unfold jbb at h
  split at h
  ·rename_i h1
   simp only [List.map_cons,List.cons.injEq] at he
   have e:=jba h1
   obtain ⟨bs,g1,g2⟩:=jcv h he.2 hs
   have h2:=hs i b he.1
   refine ⟨b::bs,by simp [g1], ?_⟩
   simp only [List.map_cons,List.zip_cons_cons,jvv]
   rw [g2,h2.1,h2.2,←e]
  ·cases h
def exB:Ex→Ex→Bool
 | .normal,.normal=>true
 | .ret,.ret=>true
 | .exit a,.exit b=>Nat.beq a b
 | _,_=>false
theorem jfk {a b:Ex} (h:exB a b=true):a=b:=by
 unfold exB at h
 split at h
 ·rfl
 ·rfl
 ·rw [Nat.eq_of_beq_eq_true h]
 ·cases h
def jjB (p:PS) (e:Ex) (r:Option (Ex×List LV×List (Option Blk)×List (Bool×Bool))):Bool:=
 match r with
 | some (e0,vs,bs,cs)=>match exB e0 e with
  | true=>match jfj p.live vs with
   | true=>match jbb p.mem bs with
    | true=>QL cs
    | false=>false
   | false=>false
  | false=>false
 | none=>false
def ToP (P:Program) (sz:Nat) (c:Code) (A:Kst) (e:Ex) (B:Kst→Prop):Prop:=
 ∀E a w,KR E sz A a w→∀Q:Exit→Act→World→Prop,(∀B0,B B0→∀E' a' w',KR E' sz B0 a' w'→Ext w E A.ms w' E' B0.ms→Q e.to a' w')→c.wp P Q a w
def Fil (p:PS) (B:Kst):Prop:=∃s,B=Ke s p
section
variable {P:Program} {S:FuncId→Option SumK} {z:Md} {sz:Nat}
theorem ToP.run (hs:Sound P S) {c:Code} {A:Kst} {e:Ex} {p:PS} {n:Nat} {dec:List (Option Bool)}
  (hrun:∀dead,jjB p e (jI (p.live.map (·.1)) (p.mem.map (·.1)) (Go.Lr.exec P S z n (.code c) (A.st sz dead dec)))=true)
  (hB:∀s,jlR (Ke s p)=true) (hnb:Nat.ble A.nb p.nb=true):ToP P sz c A e (Fil p):=by
 intro E a w hk Q hQ
 have hr:=hk.toR dec
 have h:=hrun fun t=>a.tmps.getD t undef
 cases hp:jI (p.live.map (·.1)) (p.mem.map (·.1)) (Go.Lr.exec P S z n (.code c) (A.st sz (fun t=>a.tmps.getD t undef) dec)) with
 | none=>rw [hp] at h;cases h
 | some q=>
  obtain ⟨e0,vs,bs,cs⟩:=q
  rw [hp] at h
  simp only [jjB] at h
  split at h
  ·rename_i he
   split at h
   ·rename_i hv
    split at h
    ·rename_i hb
     have hcs:=yj h
     have:=jfk he
     subst this
     unfold jI at hp
     split at hp
     ·rename_i e' s' hex
      simp only [Option.some.injEq,Prod.mk.injEq] at hp
      obtain ⟨rfl,gv,gb,rfl⟩:=hp
      obtain ⟨e2,q1,q2,q3,q4,q5,q6⟩:=(kD (QZ P) hs.sums hs.mix hs.ng n).1 c _ _ s' hex hk.le hr.st
      cases q1
      let s:Asg:=⟨fun k o=>iA (xe ((getM s'.mem k).elim [] (·.cells)) o),fun k o=>bA (xe ((getM s'.mem k).elim [] (·.cells)) o),fun k o=>iA (xe (xZ (getT s'.tm k)) o),fun k o=>bA (xe (xZ (getT s'.tm k)) o)⟩
      have e1:(p.live.map (·.1)).zip vs=jfi s p.live:=jcu (h:=getT s'.tm) hv gv fun k=>⟨rfl,rfl⟩
      obtain ⟨bs',rfl,e3⟩:=jcv (s:=s) (h:=getM s'.mem) hb gb fun k b hb=>⟨by show (fun o=>iA (xe ((getM s'.mem k).elim [] (·.cells)) o))=_;rw [hb];rfl,by show (fun o=>bA (xe ((getM s'.mem k).elim [] (·.cells)) o))=_;rw [hb];rfl⟩
      have hB':KstOK ⟨(p.live.map (·.1)).zip vs,(p.mem.map (·.1)).zip bs',p.nb⟩:=by rw [e1,e3];exact jy (hB s)
      have hnb':=Nat.le_of_ble_eq_true hnb
      refine q6 hcs E a w hr Q fun E' a' w' hr' hx=> ?_
      have hsub:=Jb (p.mem.map (·.1)) bs' (getM s'.mem) gb
      refine hQ (Ke s p) ⟨s,rfl⟩ E' a' w' ?_ ?_
      ·have:Ke s p=⟨(p.live.map (·.1)).zip vs,(p.mem.map (·.1)).zip bs',p.nb⟩:=by rw [e1,e3];rfl
       rw [this]
       refine ⟨hB',hr'.size.trans q4,hk.le,hr'.defers,fun q hq=> ?_,⟨fun i b hib=>hr'.m.rel.blk i b (hsub i b hib),fun i j hi hj he=>hr'.m.rel.inj i j ?_ ?_ he⟩⟩
       ·rw [hr'.tm q.1,Jc (p.live.map (·.1)) vs (getT s'.tm) gv q hq]
       ·obtain ⟨b,hib⟩:=Option.isSome_iff_exists.1 hi;simp [hsub i b hib]
       ·obtain ⟨b,hjb⟩:=Option.isSome_iff_exists.1 hj;simp [hsub j b hjb]
      ·have:(Ke s p).ms=(Kst.mk ((p.live.map (·.1)).zip vs) ((p.mem.map (·.1)).zip bs') p.nb).ms:=by rw [e1,e3];rfl
       rw [this]
       refine ⟨hnb',hx.agree,hx.os,hx.tape,hx.output,hx.size,hx.frame,fun i hi=>hx.src i ?_⟩
       obtain ⟨b,hib⟩:=Option.isSome_iff_exists.1 hi
       simp [hsub i b hib]
     ·cases hp
    ·cases h
   ·cases h
  ·cases h
theorem ToP.mono {c:Code} {A:Kst} {e:Ex} {B C:Kst→Prop} (h:ToP P sz c A e B) (k:∀x,B x→C x):ToP P sz c A e C:=
 fun E a w hr Q hQ=>h E a w hr Q fun B0 hB0=>hQ B0 (k B0 hB0)
theorem ToP.seq {c:Code} {A:Kst} {e:Ex} {B C:Kst→Prop} (hc:Ji c=true) (h:ToP P sz (c1 c) A .normal B) (k:∀x,B x→ToP P sz (c2 c) x e C):ToP P sz c A e C:=by
 cases c <;> simp only [Ji,Bool.false_eq_true] at hc
 intro E a w hr Q hQ
 refine wp_seq (h E a w hr _ fun B0 hB E' a' w' hr' hx'=> ?_)
 exact k B0 hB E' a' w' hr' Q fun C0 hC E'' a'' w'' hr'' hx''=>hQ C0 hC E'' a'' w'' hr'' (hx'.trans hx'')
theorem ToP.seq_out {c:Code} {A:Kst} {e:Ex} {B:Kst→Prop} (hc:Ji c=true) (he:e≠ .normal) (h:ToP P sz (c1 c) A e B):ToP P sz c A e B:=by
 cases c <;> simp only [Ji,Bool.false_eq_true] at hc
 intro E a w hr Q hQ
 refine wp_seq (h E a w hr _ fun B0 hB E' a' w' hr' hx'=> ?_)
 have:=hQ B0 hB E' a' w' hr' hx'
 cases e <;> first | exact absurd rfl he | exact this
theorem ToP.block {c:Code} {id:Nat} {A:Kst} {e:Ex} {B:Kst→Prop} (hc:Zd c=some id) (h:ToP P sz (c1 c) A e B) (he:e = .exit id∨e = .normal):ToP P sz c A .normal B:=by
 cases c <;> simp only [Zd,reduceCtorEq] at hc
 cases hc
 intro E a w hr Q hQ
 refine wp_block (h E a w hr _ fun B0 hB E' a' w' hr' hx'=> ?_)
 have:=hQ B0 hB E' a' w' hr' hx'
 rcases he with rfl | rfl
 ·simpa only [Ex.to,Exit.inBlock,if_true] using this
 ·exact this
def RdP (P:Program) (sz:Nat) (c:Code) (m:Nat) (A:Kst) (e:Ex) (B:Kst→Prop):Prop:=
 ∀E a w,KR E sz A a w→∀Q:Exit→Act→World→Prop,(∀B0,B B0→∀E' a' w',KR E' sz B0 a' w'→Ext w E A.ms w' E' B0.ms→Q e.to a' w')→Code.rounds P c Q m a w
theorem RdP.last {c:Code} {A:Kst} {e:Ex} {B:Kst→Prop} (he:e≠ .normal) (h:ToP P sz c A e B):RdP P sz c 1 A e B:=by
 intro E a w hr Q hQ
 rw [rounds_succ]
 refine h E a w hr _ fun B0 hB E' a' w' hr' hx'=> ?_
 have:=hQ B0 hB E' a' w' hr' hx'
 cases e <;> first | exact absurd rfl he | exact this
theorem RdP.next {c:Code} {A:Kst} {e:Ex} {B C:Kst→Prop} {m:Nat} (h:ToP P sz c A .normal B) (k:∀x,B x→RdP P sz c m x e C):RdP P sz c (m+1) A e C:=by
 intro E a w hr Q hQ
 rw [rounds_succ]
 refine h E a w hr _ fun B0 hB E' a' w' hr' hx'=> ?_
 exact k B0 hB E' a' w' hr' Q fun C0 hC E'' a'' w'' hr'' hx''=>hQ C0 hC E'' a'' w'' hr'' (hx'.trans hx'')
theorem ToP.loop {c:Code} {A:Kst} {e:Ex} {B:Kst→Prop} {m:Nat} (hc:Kb c=true) (h:RdP P sz (c1 c) m A e B):ToP P sz c A e B:=by
 cases c <;> simp only [Kb,Bool.false_eq_true] at hc
 exact fun E a w hr Q hQ=>wp_loop_rounds m (h E a w hr Q hQ)
theorem jbc {f:FuncId} {fn:Func} {c:Code} {args:List LV} {B:Kst→Prop} {e:Ex} {v:LV} (ho:Own P f) (hf:P.funcs[f]? = some fn) (hb:fn.body=some c)
  (hle:fn.ntmps≤60000) (hargs:args.length≤fn.ntmps) (ha:ke args=true) (h:ToP P fn.ntmps c ⟨kC 0 args,[],0⟩ e B) (he:e = .normal∨e = .ret)
  (hres:∀x,B x→∀dead,kx P fn.results.toList (getT (x.tm dead)) x.mem=some v) (hv:v.ok noP=true) (w:World):CallOK P f (args.map (LV.den E0)).toArray w fun u w'=>u=v.den E0∧Below w.heap.size w w':=by
 have ha':=plainVs_iff.1 ha
 refine qb ho (calls_of_wp hf hb (h E0 _ w ⟨⟨fun q hq=> ?_,(zL args 0).1,fun q hq=> ?_,fun i b h=>by simp [getM] at h,trivial⟩,by simp;omega,hle,rfl,fun q hq=> ?_,⟨fun i b h=>by simp [getM] at h,fun i j h=>by simp [getM] at h⟩⟩ _ fun B0 hB E' a' w' hr' hx'=> ?_))
 ·have:=(kK args 0 q).1 hq
  have:=(List.getElem?_eq_some_iff.1 this.2).1
  omega
 ·exact LV.ok_mono jm (ha' q.2 (List.mem_of_getElem? ((kK args 0 q).1 hq).2))
 ·have:=((kK args 0 q).1 hq).2
  simp only [Nat.sub_zero] at this
  have hlt:=(List.getElem?_eq_some_iff.1 this).1
  simp only [Array.getD_eq_getD_getElem?,Array.getElem?_append,List.size_toArray,List.length_map]
  rw [if_pos hlt]
  simp [this]
 ·have hR:=hr'.toR []
  have hpost:bodyPost P fn (fun e w'=>e = .returned (v.den E0)∧Below w.heap.size w w') .ret a' w':=by
   refine ⟨hr'.defers,v.den E',qV hR.m.rel hR.tm (hres B0 hB _), ?_, ?_⟩
   ·rw [km hv]
   ·exact ⟨hx'.os,hx'.tape,hx'.output,hx'.size,fun k hk=>hx'.frame k hk fun i hi=>by simp [getM,Kst.ms] at hi⟩
  rcases he with rfl | rfl
  ·exact hpost
  ·exact hpost
end
end Go.Lr
namespace Go.Lr
abbrev pI (n:Int):P1:= .lit (.int .i64 n)
abbrev pL (a:At):P1:= .lit a
abbrev pB (x:Bool):P1:= .lit (.bool x)
def rp:Nat→P1→List P1
 | 0,_=>[]
 | n+1,p=>p::rp n p
end Go.Lr

/- Opaque summaries, off one run that asks nothing. -/
set_option linter.unusedVariables false
namespace Go.Lr
open Go.RowKit
def okX (ty:TypeId) (n:Nat) (r:Option (LV×Option Blk×List (Bool×Bool))):Bool:=
 match r with
 | some (.v (.agg l),some b,cs)=>match qM l n with
  | true=>match jp8 ⟨ty,(0,0),0,[.hb]⟩ b with
   | true=>QL cs
   | false=>false
  | false=>false
 | _=>false
theorem joC {ty:TypeId} {n:Nat} {r:Option (LV×Option Blk×List (Bool×Bool))} (h:okX ty n r=true):∃l h' cs,r=some (.v (.agg l),some (flag ty h'),cs)∧AllI l n∧∀c∈cs,c.1=c.2:=by
 unfold okX at h
 split at h
 ·rename_i l b cs
  split at h
  ·rename_i h1
   split at h
   ·rename_i h2
    refine ⟨l,bA (xe b.cells 0),cs, ?_,j6 h1,yj h⟩
    have e:b=flag ty (bA (xe b.cells 0)):=jba h2
    rw [←e]
   ·cases h
  ·cases h
 ·cases h
section
variable {P:Program} {S:FuncId→Option SumK} {z:Md}
theorem AllI.okn {l:List At} {n:Nat} (h:AllI l n):(LV.v (.agg l)).ok noP=true:=h.ok
theorem jaW (hs:Sound P S) {f:FuncId} {ty:TypeId} {okA:List LV→Bool} {n:Nat} (ho:Own P f)
  (h:∀args hb,okA args=true→∃(k:Nat) (dec:List (Option Bool)),okX ty n ((jR P S z k f (A0::args) [(0,flag ty hb)] 1 dec).map (fun r=>(r.1,getM r.2.1 0,r.2.2.2)))=true):SumOK P f (jv ty (exF P f ty okA n)):=by
 refine jfe ho fun args hb hok hp=> ?_
 obtain ⟨k,dec,hr⟩:=h args hb hok
 obtain ⟨l,h',cs,hrun,hl,hc⟩:=joC hr
 exact ⟨l,h',hl,fun w L hL=>jbp hs hrun hc hp hl.okn w L hL⟩
end
end Go.Lr

/- strap.Step: opaque; output.Of: by formula; and the rest of the filter over them. -/
namespace Go.Proofs.YtnlhpaidmiogbaaGreat
open Go.Lr
set_option linter.unusedVariables false
def jxE:List LV→Bool
 | [.v (.agg [.int .i64 s0,.int .i64 s1,.int .i64 s2,.int .i64 s3,.int .i64 s4,.int .i64 s5,.int .i64 s6,.int .i64 s7,.int .i64 s8,.int .i64 s9,.int .i64 s10,.int .i64 s11,.int .i64 s12,.int .i64 s13,.int .i64 s14,.int .i64 s15,.int .i64 s16,.int .i64 s17,.int .i64 s18,.int .i64 s19,.int .i64 s20,.int .i64 s21,.int .i64 s22,.int .i64 s23]),.v (.agg [.int .i64 i0,.int .i64 i1,.int .i64 i2,.int .i64 i3,.int .i64 i4,.int .i64 i5,.int .i64 i6,.int .i64 i7])]=>true
 | _=>false
theorem jxF (s0 s1 s2 s3 s4 s5 s6 s7 s8 s9 s10 s11 s12 s13 s14 s15 s16 s17 s18 s19 s20 s21 s22 s23 i0 i1 i2 i3 i4 i5 i6 i7:Int) (hb:Bool):okX 61 24 ((jR Tryz.prog jvt Zl 4000 98 [A0,.v (.agg [.int .i64 s0,.int .i64 s1,.int .i64 s2,.int .i64 s3,.int .i64 s4,.int .i64 s5,.int .i64 s6,.int .i64 s7,.int .i64 s8,.int .i64 s9,.int .i64 s10,.int .i64 s11,.int .i64 s12,.int .i64 s13,.int .i64 s14,.int .i64 s15,.int .i64 s16,.int .i64 s17,.int .i64 s18,.int .i64 s19,.int .i64 s20,.int .i64 s21,.int .i64 s22,.int .i64 s23]),.v (.agg [.int .i64 i0,.int .i64 i1,.int .i64 i2,.int .i64 i3,.int .i64 i4,.int .i64 i5,.int .i64 i6,.int .i64 i7])] [(0,flag 61 hb)] 1 []).map (fun r=>(r.1,getM r.2.1 0,r.2.2.2)))=true:=by kernel_rfl
theorem jhQ:SumOK Tryz.prog 98 (jv 61 (exF Tryz.prog 98 61 jxE 24)):=by
 refine jaW (z:=Zl) soundK12u (jg soundK12u Tryz.func98 (by kernel_rfl)) fun args hb hok=> ?_
 unfold jxE at hok
 split at hok
 ·exact ⟨4000,[],jxF _ _ _ _ _ _ _ _ _ _ _ _ _ _ _ _ _ _ _ _ _ _ _ _ _ _ _ _ _ _ _ _ hb⟩
 ·cases hok
noncomputable def jxG:FuncId→Option SumK:=more jvt 98 (jv 61 (exF Tryz.prog 98 61 jxE 24))
theorem soundK13u:Sound Tryz.prog jxG:=soundK12u.more jhQ
def jvl (t:Int) (s0 s1 s2 s3 s4 s5 s6 s7 s8 s9 s10 s11 s12 s13 s14 s15 s16 s17 s18 s19 s20 s21 s22 s23:Int):LV:=match jdg s0 s1 s2 s3 s4 s5 s6 s7 s8 s9 s10 s11 s12 s13 s14 s15 s16 s17 s18 s19 s20 s21 s22 s23 with
 | .v (.agg (k0::k1::k2::k3::k4::k5::k6::k7::k8::k9::_))=> .v (.agg [.int .i64 t,k0,k1,k2,k3,k4,k5,k6,k7,k8,k9])
 | v=>v
def je4:List LV→Bool→Option (LV×Bool×List (Bool×Bool))
 | [.v (.agg [.int .i64 s0,.int .i64 s1,.int .i64 s2,.int .i64 s3,.int .i64 s4,.int .i64 s5,.int .i64 s6,.int .i64 s7,.int .i64 s8,.int .i64 s9,.int .i64 s10,.int .i64 s11,.int .i64 s12,.int .i64 s13,.int .i64 s14,.int .i64 s15,.int .i64 s16,.int .i64 s17,.int .i64 s18,.int .i64 s19,.int .i64 s20,.int .i64 s21,.int .i64 s22,.int .i64 s23]),.v (.one (.int .i64 t))],hb=>some (jvl t s0 s1 s2 s3 s4 s5 s6 s7 s8 s9 s10 s11 s12 s13 s14 s15 s16 s17 s18 s19 s20 s21 s22 s23,je7 hb s0 s1 s2 s3 s4 s5 s6 s7 s8 s9 s10 s11 s12 s13 s14 s15 s16 s17 s18 s19 s20 s21 s22 s23,[])
 | _,_=>none
theorem jpP (t s0 s1 s2 s3 s4 s5 s6 s7 s8 s9 s10 s11 s12 s13 s14 s15 s16 s17 s18 s19 s20 s21 s22 s23:Int) (hb:Bool):(jR Tryz.prog jxG Zl 4000 97 [A0,.v (.agg [.int .i64 s0,.int .i64 s1,.int .i64 s2,.int .i64 s3,.int .i64 s4,.int .i64 s5,.int .i64 s6,.int .i64 s7,.int .i64 s8,.int .i64 s9,.int .i64 s10,.int .i64 s11,.int .i64 s12,.int .i64 s13,.int .i64 s14,.int .i64 s15,.int .i64 s16,.int .i64 s17,.int .i64 s18,.int .i64 s19,.int .i64 s20,.int .i64 s21,.int .i64 s22,.int .i64 s23]),I t] [(0,flag 61 hb)] 1 []).map (fun r=>(r.1,getM r.2.1 0,r.2.2.2))=some (jvl t s0 s1 s2 s3 s4 s5 s6 s7 s8 s9 s10 s11 s12 s13 s14 s15 s16 s17 s18 s19 s20 s21 s22 s23,some (flag 61 (je7 hb s0 s1 s2 s3 s4 s5 s6 s7 s8 s9 s10 s11 s12 s13 s14 s15 s16 s17 s18 s19 s20 s21 s22 s23)),[]):=by kernel_rfl
theorem jhR:SumOK Tryz.prog 97 (jv 61 je4):=by
 refine jT (z:=Zl) soundK13u (jg soundK13u Tryz.func97 (by kernel_rfl)) fun args hb v h' cs hF hc=> ?_
 unfold je4 at hF
 split at hF
 ·cases hF
  exact ⟨rfl,4000,[],_,jpP _ _ _ _ _ _ _ _ _ _ _ _ _ _ _ _ _ _ _ _ _ _ _ _ _ hb,jd⟩
 ·cases hF
noncomputable def jxH:FuncId→Option SumK:=more jxG 97 (jv 61 je4)
theorem soundK14u:Sound Tryz.prog jxH:=soundK13u.more jhR
def ja5:List LV→Option (LV×List (Bool×Bool))
 | [.v (.agg [.int .i64 s0,.int .i64 s1,.int .i64 s2,.int .i64 s3,.int .i64 s4,.int .i64 s5,.int .i64 s6,.int .i64 s7,.int .i64 s8,.int .i64 s9,.int .i64 s10,.int .i64 s11,.int .i64 s12,.int .i64 s13,.int .i64 s14,.int .i64 s15,.int .i64 s16,.int .i64 s17,.int .i64 s18,.int .i64 s19,.int .i64 s20,.int .i64 s21,.int .i64 s22,.int .i64 s23]),.v (.agg [.int .i64 o0,.int .i64 o1,.int .i64 o2,.int .i64 o3,.int .i64 o4,.int .i64 o5,.int .i64 o6,.int .i64 o7,.int .i64 o8,.int .i64 o9,.int .i64 o10])]=>some (.v (.agg [.int .i64 o1,.int .i64 o2,.int .i64 o3,.int .i64 o4,.int .i64 o5,.int .i64 o6,.int .i64 o7,.int .i64 o8,.int .i64 o9,.int .i64 o10,.int .i64 s10,.int .i64 s11,.int .i64 s12,.int .i64 s13,.int .i64 s14,.int .i64 s15,.int .i64 s16,.int .i64 s17,.int .i64 s18,.int .i64 s19,.int .i64 s20,.int .i64 s21,.int .i64 s22,.int .i64 s23]),[])
 | _=>none
theorem jk6 (s0 s1 s2 s3 s4 s5 s6 s7 s8 s9 s10 s11 s12 s13 s14 s15 s16 s17 s18 s19 s20 s21 s22 s23 o0 o1 o2 o3 o4 o5 o6 o7 o8 o9 o10:Int):(jR Tryz.prog jxH Zl 4000 99 [.v (.agg [.int .i64 s0,.int .i64 s1,.int .i64 s2,.int .i64 s3,.int .i64 s4,.int .i64 s5,.int .i64 s6,.int .i64 s7,.int .i64 s8,.int .i64 s9,.int .i64 s10,.int .i64 s11,.int .i64 s12,.int .i64 s13,.int .i64 s14,.int .i64 s15,.int .i64 s16,.int .i64 s17,.int .i64 s18,.int .i64 s19,.int .i64 s20,.int .i64 s21,.int .i64 s22,.int .i64 s23]),.v (.agg [.int .i64 o0,.int .i64 o1,.int .i64 o2,.int .i64 o3,.int .i64 o4,.int .i64 o5,.int .i64 o6,.int .i64 o7,.int .i64 o8,.int .i64 o9,.int .i64 o10])] [] 0 []).map (fun r=>(r.1,r.2.2.2))=some (.v (.agg [.int .i64 o1,.int .i64 o2,.int .i64 o3,.int .i64 o4,.int .i64 o5,.int .i64 o6,.int .i64 o7,.int .i64 o8,.int .i64 o9,.int .i64 o10,.int .i64 s10,.int .i64 s11,.int .i64 s12,.int .i64 s13,.int .i64 s14,.int .i64 s15,.int .i64 s16,.int .i64 s17,.int .i64 s18,.int .i64 s19,.int .i64 s20,.int .i64 s21,.int .i64 s22,.int .i64 s23]),[]):=by kernel_rfl
theorem je5:SumOK Tryz.prog 99 (jp ja5):=by
 refine jM (z:=Zl) soundK14u (jg soundK14u Tryz.func99 (by kernel_rfl)) fun args v cs hF hc=> ?_
 unfold ja5 at hF
 split at hF
 ·cases hF
  exact ⟨4000,[],[],jk6 _ _ _ _ _ _ _ _ _ _ _ _ _ _ _ _ _ _ _ _ _ _ _ _ _ _ _ _ _ _ _ _ _ _ _,by simp⟩
 ·cases hF
noncomputable def jxI:FuncId→Option SumK:=more jxH 99 (jp ja5)
theorem soundK15u:Sound Tryz.prog jxI:=soundK14u.more je5
noncomputable def jvm:FuncId→Option SumK:=more jxI 96 (jv 61 (Jd Tryz.prog jxI Zl 2000 96 61))
theorem soundK16u:Sound Tryz.prog jvm:=soundK15u.more (kU soundK15u (jg soundK15u Tryz.func96 (by kernel_rfl)))
noncomputable def jxJ:FuncId→Option SumK:=more jvm 95 (yq Tryz.prog jvm Zl 2000 95)
theorem soundK17u:Sound Tryz.prog jxJ:=soundK16u.more (kv soundK16u (jg soundK16u Tryz.func95 (by kernel_rfl)))
noncomputable def jBY:FuncId→Option SumK:=more jxJ 200 (jv 61 (Jd Tryz.prog jxJ Zl 2000 200 61))
theorem soundK18u:Sound Tryz.prog jBY:=soundK17u.more (kU soundK17u (jg soundK17u Tryz.func200 (by kernel_rfl)))
noncomputable def jvn:FuncId→Option SumK:=more jBY 158 (jv 61 thS)
theorem soundK19u:Sound Tryz.prog jvn:=soundK18u.more (jyY)
noncomputable def jxK:FuncId→Option SumK:=moreG jvn 156 (kA (xY 0 61 (jS Tryz.prog jvn Zl 4000 156)) (jS Tryz.prog jvn Zl 4000 156))
theorem soundK20u:Sound Tryz.prog jxK:=soundK19u.moreG (jK (jY (jl soundK19u (jg soundK19u Tryz.func156 (by kernel_rfl)))) (jl soundK19u (jg soundK19u Tryz.func156 (by kernel_rfl))))
noncomputable def jxL:FuncId→Option SumK:=more jxK 105 (yq Tryz.prog jxK Zl 2000 105)
theorem soundK21u:Sound Tryz.prog jxL:=soundK20u.more (kv soundK20u (jg soundK20u Tryz.func105 (by kernel_rfl)))
noncomputable def jvo:FuncId→Option SumK:=more jxL 60 (yq Tryz.prog jxL Zl 2000 60)
theorem soundK22u:Sound Tryz.prog jvo:=soundK21u.more (kv soundK21u (jg soundK21u Tryz.func60 (by kernel_rfl)))
noncomputable def jxM:FuncId→Option SumK:=moreG jvo 62 (kA (xY 0 61 (jS Tryz.prog jvo Zl 4000 62)) (jS Tryz.prog jvo Zl 4000 62))
theorem soundK23u:Sound Tryz.prog jxM:=soundK22u.moreG (jK (jY (jl soundK22u (jg soundK22u Tryz.func62 (by kernel_rfl)))) (jl soundK22u (jg soundK22u Tryz.func62 (by kernel_rfl))))
noncomputable def jxN:FuncId→Option SumK:=moreG jxM 64 (jS Tryz.prog jxM Zl 4000 64)
theorem soundK24u:Sound Tryz.prog jxN:=soundK23u.moreG (jl soundK23u (jg soundK23u Tryz.func64 (by kernel_rfl)))
noncomputable def jpQ:FuncId→Option SumK:=moreG jxN 66 (jS Tryz.prog jxN Zl 4000 66)
theorem soundK25u:Sound Tryz.prog jpQ:=soundK24u.moreG (jl soundK24u (jg soundK24u Tryz.func66 (by kernel_rfl)))
noncomputable def jxO:FuncId→Option SumK:=moreG jpQ 46 (kA (xY 1 61 (jS Tryz.prog jpQ Zl 4000 46)) (jS Tryz.prog jpQ Zl 4000 46))
theorem soundK26u:Sound Tryz.prog jxO:=soundK25u.moreG (jK (jY (jl soundK25u (jg soundK25u Tryz.func46 (by kernel_rfl)))) (jl soundK25u (jg soundK25u Tryz.func46 (by kernel_rfl))))
noncomputable def jpR:FuncId→Option SumK:=moreG jxO 51 (jS Tryz.prog jxO Zl 4000 51)
theorem soundK27u:Sound Tryz.prog jpR:=soundK26u.moreG (jl soundK26u (jg soundK26u Tryz.func51 (by kernel_rfl)))
noncomputable def jvp:FuncId→Option SumK:=moreG jpR 47 (kA (xY 1 61 (jS Tryz.prog jpR Zl 4000 47)) (jS Tryz.prog jpR Zl 4000 47))
theorem soundK28u:Sound Tryz.prog jvp:=soundK27u.moreG (jK (jY (jl soundK27u (jg soundK27u Tryz.func47 (by kernel_rfl)))) (jl soundK27u (jg soundK27u Tryz.func47 (by kernel_rfl))))
noncomputable def jpS:FuncId→Option SumK:=moreG jvp 157 (kA (xY 1 61 (jS Tryz.prog jvp Zl 4000 157)) (jS Tryz.prog jvp Zl 4000 157))
theorem soundK29u:Sound Tryz.prog jpS:=soundK28u.moreG (jK (jY (jl soundK28u (jg soundK28u Tryz.func157 (by kernel_rfl)))) (jl soundK28u (jg soundK28u Tryz.func157 (by kernel_rfl))))
noncomputable def jxP:FuncId→Option SumK:=moreG jpS 102 (jS Tryz.prog jpS Zl 4000 102)
theorem soundK30u:Sound Tryz.prog jxP:=soundK29u.moreG (jl soundK29u (jg soundK29u Tryz.func102 (by kernel_rfl)))
noncomputable def jhb:FuncId→Option SumK:=moreG jxP 132 (jS Tryz.prog jxP Zl 4000 132)
theorem soundK31u:Sound Tryz.prog jhb:=soundK30u.moreG (jl soundK30u (jg soundK30u Tryz.func132 (by kernel_rfl)))
noncomputable def jvq:FuncId→Option SumK:=moreG jhb 104 (jS Tryz.prog jhb Zl 4000 104)
theorem soundK32u:Sound Tryz.prog jvq:=soundK31u.moreG (jl soundK31u (jg soundK31u Tryz.func104 (by kernel_rfl)))
noncomputable def jvr:FuncId→Option SumK:=moreG jvq 179 (jS Tryz.prog jvq Zl 4000 179)
theorem soundK33u:Sound Tryz.prog jvr:=soundK32u.moreG (jl soundK32u (jg soundK32u Tryz.func179 (by kernel_rfl)))
noncomputable def jxQ:FuncId→Option SumK:=moreG jvr 108 (kA (xY 1 61 (jS Tryz.prog jvr Zl 4000 108)) (jS Tryz.prog jvr Zl 4000 108))
theorem soundK34u:Sound Tryz.prog jxQ:=soundK33u.moreG (jK (jY (jl soundK33u (jg soundK33u Tryz.func108 (by kernel_rfl)))) (jl soundK33u (jg soundK33u Tryz.func108 (by kernel_rfl))))
noncomputable def jxR:FuncId→Option SumK:=moreG jxQ 34 (jS Tryz.prog jxQ Zl 4000 34)
theorem soundK35u:Sound Tryz.prog jxR:=soundK34u.moreG (jl soundK34u (jg soundK34u Tryz.func34 (by kernel_rfl)))
noncomputable def jBZ:FuncId→Option SumK:=moreG jxR 35 (jS Tryz.prog jxR Zl 4000 35)
theorem soundK36u:Sound Tryz.prog jBZ:=soundK35u.moreG (jl soundK35u (jg soundK35u Tryz.func35 (by kernel_rfl)))
noncomputable def jvs:FuncId→Option SumK:=more jBZ 19 (jp je8)
theorem soundK37u:Sound Tryz.prog jvs:=soundK36u.more (jhT)
end Go.Proofs.YtnlhpaidmiogbaaGreat

/- States with holes and with numbers told by a term; asks that are not closed are left to prove. -/
set_option linter.unusedVariables false
namespace Go.Lr
open Go.RowKit
inductive P2 where
 | old (p:P1)
 | sym (x:Int)
 | raw (a:At)
inductive Ob where
 | oi (x y:Int)
 | oa (x y:At)
 | ol (x y:List At)
 | ob (x y:Blk)
def Ob.ok:Ob→Prop
 | .oi x y=>x=y
 | .oa x y=>x=y
 | .ol x y=>x=y
 | .ob x y=>x=y
def jvw:P2→At→Option (List Ob)
 | .old p,a=>match jp6 p a with
  | true=>some []
  | false=>none
 | .raw x,a=>some [.oa a x]
 | .sym x,.int .i64 n=>some [.oi n x]
 | .sym _,_=>none
def jp9 (x:Int) (y:Bool):P2→At
 | .old p=>jp7 x y p
 | .sym n=> .int .i64 n
 | .raw a=>a
def AllOb (l:List Ob):Prop:=∀q∈l,q.ok
theorem jfl {p:P2} {a:At} {es:List Ob} (h:jvw p a=some es) (he:AllOb es):a=jp9 (iA a) (bA a) p:=by
 unfold jvw at h
 split at h
 ·split at h
  ·rename_i h1
   exact ja9 h1
  ·cases h
 ·cases h
  exact he _ (List.mem_singleton.2 rfl)
 ·cases h
  rename_i x n
  have h1:n=x:=he (.oi n x) (List.mem_singleton.2 rfl)
  simp only [jp9]
  rw [h1]
 ·cases h
def ZQ:List P2→List At→Option (List Ob)
 | [],[]=>some []
 | p::ps,a::l=>match jvw p a with
  | some es=>match ZQ ps l with
   | some fs=>some (es++fs)
   | none=>none
  | none=>none
 | _,_=>none
def ZR (f:Nat→Int) (g:Nat→Bool):Nat→List P2→List At
 | _,[]=>[]
 | o,p::ps=>jp9 (f o) (g o) p::ZR f g (o+1) ps
theorem AllOb.left {l m:List Ob} (h:AllOb (l++m)):AllOb l:=fun q hq=>h q (List.mem_append_left m hq)
theorem AllOb.right {l m:List Ob} (h:AllOb (l++m)):AllOb m:=fun q hq=>h q (List.mem_append_right l hq)
theorem jcw:∀{ps:List P2} {l:List At} {o:Nat} {f:Nat→Int} {g:Nat→Bool} {es:List Ob},ZQ ps l=some es→AllOb es→(∀k a,l[k]? = some a→f (o+k)=iA a∧g (o+k)=bA a)→l=ZR f g o ps
 | [],[],_,_,_,_,_,_,_=>rfl
 | [],_::_,_,_,_,_,h,_,_=>by simp [ZQ] at h
 | _::_,[],_,_,_,_,h,_,_=>by simp [ZQ] at h
 | p::ps,a::l,o,f,g,es,h,he,hf=>by
  unfold ZQ at h
  split at h
  ·rename_i es1 h1
   split at h
   ·rename_i es2 h2
    cases h
    have h0:=hf 0 a rfl
    have e:=jfl h1 he.left
    simp only [ZR]
    rw [show f o=iA a from h0.1,show g o=bA a from h0.2,←e,←jcw h2 he.right fun k b hk=>by
     have:=hf (k+1) b (by simpa using hk)
     rwa [show o+(k+1)=o+1+k by omega] at this]
   ·cases h
  ·cases h
theorem ZS {ps:List P2} {l:List At} {es:List Ob} (h:ZQ ps l=some es) (he:AllOb es):l=ZR (fun o=>iA (xe l o)) (fun o=>bA (xe l o)) 0 ps:=
 jcw h he fun k a hk=>by simp [xe,hk]
inductive PV2 where
 | one (p:P2)
 | agg (l:List P2)
structure PB2 where
 ty:TypeId
 fr:Nat×Nat
 es:Nat
 cells:List P2
 raw:Option (List At):=none
structure PS2 where
 live:List (Nat×PV2)
 mem:List (Nat×PB2)
 nb:Nat
def jqa (f:Nat→Int) (g:Nat→Bool):PV2→LV
 | .one p=> .v (.one (jp9 (f 0) (g 0) p))
 | .agg l=> .v (.agg (ZR f g 0 l))
def jyc (f:Nat→Int) (g:Nat→Bool) (ps:List P2):Option (List At)→List At
 | none=>ZR f g 0 ps
 | some l=>l
def jqb (f:Nat→Int) (g:Nat→Bool) (b:PB2):Blk:=⟨b.ty,b.fr,b.es,jyc f g b.cells b.raw⟩
def XS (s:Asg):List (Nat×PV2)→List (Nat×LV)
 | []=>[]
 | (i,p)::l=>(i,jqa (s.fs i) (s.gs i) p)::XS s l
def jhX (s:Asg):List (Nat×PB2)→Mem
 | []=>[]
 | (i,p)::l=>(i,jqb (s.F i) (s.G i) p)::jhX s l
def j8 (s:Asg) (p:PS2):Kst:=⟨XS s p.live,jhX s p.mem,p.nb⟩
def jlh:PV2→LV→Option (List Ob)
 | .one p,.v (.one a)=>jvw p a
 | .agg l,.v (.agg m)=>ZQ l m
 | _,_=>none
theorem jhY {p:PV2} {v:LV} {es:List Ob} (h:jlh p v=some es) (he:AllOb es):v=jqa (fun o=>iA (xe (xZ v) o)) (fun o=>bA (xe (xZ v) o)) p:=by
 unfold jlh at h
 split at h
 ·rename_i p a
  have e:=jfl h he
  show _=LV.v (.one (jp9 (iA a) (bA a) p))
  rw [←e]
 ·rename_i l m
  have e:=ZS h he
  show _=LV.v (.agg (ZR (fun o=>iA (xe m o)) (fun o=>bA (xe m o)) 0 l))
  rw [←e]
 ·cases h
def jhZ (p:PB2) (b:Blk):Option (List Ob):=match p.raw with
 | some l=>some [.ob b ⟨p.ty,p.fr,p.es,l⟩]
 | none=>match Nat.beq b.ty p.ty with
  | true=>match fr2 b.fr p.fr with
   | true=>match Nat.beq b.es p.es with
    | true=>ZQ p.cells b.cells
    | false=>none
   | false=>none
  | false=>none
theorem jh0 {p:PB2} {b:Blk} {es:List Ob} (h:jhZ p b=some es) (he:AllOb es):b=jqb (fun o=>iA (xe b.cells o)) (fun o=>bA (xe b.cells o)) p:=by
 obtain ⟨ty',⟨x',y'⟩,es',ps,rw⟩:=p
 cases rw with
 | some l=>
  simp only [jhZ,Option.some.injEq] at h
  subst h
  exact he _ (List.mem_singleton.2 rfl)
 | none=>
  simp only [jhZ] at h
  split at h
  ·rename_i h1
   split at h
   ·rename_i h2
    split at h
    ·rename_i h3
     have e:=ZS h he
     obtain ⟨ty,⟨x,y⟩,es,cells⟩:=b
     simp only [fr2] at h2
     obtain ⟨rfl,rfl,_⟩:=zm h2
     have e1:ty=ty':=Nat.eq_of_beq_eq_true h1
     have e2:es=es':=Nat.eq_of_beq_eq_true h3
     subst e1
     subst e2
     show _=Blk.mk ty (x,y) es (ZR (fun o=>iA (xe cells o)) (fun o=>bA (xe cells o)) 0 ps)
     rw [←e]
    ·cases h
   ·cases h
  ·cases h
def ZT:List (Nat×PV2)→List LV→Option (List Ob)
 | [],[]=>some []
 | (_,p)::l,v::m=>match jlh p v with
  | some es=>match ZT l m with
   | some fs=>some (es++fs)
   | none=>none
  | none=>none
 | _,_=>none
def QN:List (Nat×PB2)→List (Option Blk)→Option (List Ob)
 | [],[]=>some []
 | (_,p)::l,some b::m=>match jhZ p b with
  | some es=>match QN l m with
   | some fs=>some (es++fs)
   | none=>none
  | none=>none
 | _,_=>none
theorem QO {s:Asg}:∀{l:List (Nat×PV2)} {m:List LV} {h:Nat→LV} {es:List Ob},ZT l m=some es→AllOb es→(l.map (·.1)).map h=m→(∀k,s.fs k=(fun o=>iA (xe (xZ (h k)) o))∧s.gs k=(fun o=>bA (xe (xZ (h k)) o)))→(l.map (·.1)).zip m=XS s l
 | [],_,_,_,_,_,_,_=>rfl
 | (i,p)::l,[],_,_,h,_,_,_=>by simp [ZT] at h
 | (i,p)::l,v::m,hh,es,h,hq,he,hs=>by
  unfold ZT at h
  split at h
  ·rename_i es1 h1
   split at h
   ·rename_i es2 h2
    cases h
    simp only [List.map_cons,List.cons.injEq] at he
    have e:=jhY h1 hq.left
    simp only [List.map_cons,List.zip_cons_cons,XS]
    rw [QO h2 hq.right he.2 hs,(hs i).1,(hs i).2,he.1,←e]
   ·cases h
  ·cases h
theorem QP {s:Asg}:∀{l:List (Nat×PB2)} {m:List (Option Blk)} {h:Nat→Option Blk} {es:List Ob},QN l m=some es→AllOb es→(l.map (·.1)).map h=m→
  (∀k b,h k=some b→s.F k=(fun o=>iA (xe b.cells o))∧s.G k=(fun o=>bA (xe b.cells o)))→∃bs,m=bs.map some∧(l.map (·.1)).zip bs=jhX s l
 | [],[],_,_,_,_,_,_=>⟨[],rfl,rfl⟩
 | [],_::_,_,_,h,_,_,_=>by simp [QN] at h
 | (i,p)::l,[],_,_,h,_,_,_=>by simp [QN] at h
 | (i,p)::l,none::m,_,_,h,_,_,_=>by simp [QN] at h
 | (i,p)::l,some b::m,hh,es,h,hq,he,hs=>by
  unfold QN at h
  split at h
  ·rename_i es1 h1
   split at h
   ·rename_i es2 h2
    cases h
    simp only [List.map_cons,List.cons.injEq] at he
    have e:=jh0 h1 hq.left
    obtain ⟨bs,g1,g2⟩:=QP h2 hq.right he.2 hs
    have h2:=hs i b he.1
    refine ⟨b::bs,by simp [g1], ?_⟩
    simp only [List.map_cons,List.zip_cons_cons,jhX]
    rw [g2,h2.1,h2.2,←e]
   ·cases h
  ·cases h
def yk:List Bool→List (Bool×Bool)→Option (List (Bool×Bool))
 | [],[]=>some []
 | true::m,c::l=>match yk m l with
  | some r=>some (c::r)
  | none=>none
 | false::m,(true,true)::l=>yk m l
 | false::m,(false,false)::l=>yk m l
 | _,_=>none
theorem zW:∀{m:List Bool} {l r:List (Bool×Bool)},yk m l=some r→(∀c∈r,c.1=c.2)→∀c∈l,c.1=c.2
 | [],[],_,_,_,c,hc=>by cases hc
 | [],_::_,_,h,_,_,_=>by simp [yk] at h
 | true::m,[],_,h,_,_,_=>by simp [yk] at h
 | true::m,c::l,r,h,hr,d,hd=>by
  simp only [yk] at h
  split at h
  ·rename_i r' h1
   cases h
   rcases List.mem_cons.1 hd with rfl | hd
   ·exact hr _ (List.mem_cons_self ..)
   ·exact zW h1 (fun c hc=>hr c (List.mem_cons_of_mem _ hc)) d hd
  ·cases h
 | false::m,[],_,h,_,_,_=>by simp [yk] at h
 | false::m,(true,true)::l,r,h,hr,d,hd=>by
  simp only [yk] at h
  rcases List.mem_cons.1 hd with rfl | hd
  ·rfl
  ·exact zW h hr d hd
 | false::m,(false,false)::l,r,h,hr,d,hd=>by
  simp only [yk] at h
  rcases List.mem_cons.1 hd with rfl | hd
  ·rfl
  ·exact zW h hr d hd
 | false::m,(true,false)::l,r,h,_,_,_=>by simp [yk] at h
 | false::m,(false,true)::l,r,h,_,_,_=>by simp [yk] at h
def XT (p:PS2) (e:Ex) (mask:List Bool) (r:Option (Ex×List LV×List (Option Blk)×List (Bool×Bool))):Option (List (Bool×Bool)×List Ob):=
 match r with
 | some (e0,vs,bs,cs)=>match exB e0 e with
  | true=>match ZT p.live vs with
   | some es=>match QN p.mem bs with
    | some fs=>match yk mask cs with
     | some os=>some (os,es++fs)
     | none=>none
    | none=>none
   | none=>none
  | false=>none
 | none=>none
def zX (p:PS2) (B:Kst):Prop:=∃s,B=j8 s p
section
variable {P:Program} {S:FuncId→Option SumK} {z:Md} {sz:Nat}
theorem ToP.run2 (hs:Sound P S) {c:Code} {A:Kst} {e:Ex} {p:PS2} {n:Nat} {dec:List (Option Bool)} {mask:List Bool} {os:List (Bool×Bool)} {es:List Ob}
  (hrun:∀dead,XT p e mask (jI (p.live.map (·.1)) (p.mem.map (·.1)) (Go.Lr.exec P S z n (.code c) (A.st sz dead dec)))=some (os,es))
  (hos:∀c∈os,c.1=c.2) (hes:AllOb es) (hB:∀s,KstOK (j8 s p)) (hnb:Nat.ble A.nb p.nb=true):ToP P sz c A e (zX p):=by
 intro E a w hk Q hQ
 have hr:=hk.toR dec
 have h:=hrun fun t=>a.tmps.getD t undef
 cases hp:jI (p.live.map (·.1)) (p.mem.map (·.1)) (Go.Lr.exec P S z n (.code c) (A.st sz (fun t=>a.tmps.getD t undef) dec)) with
 | none=>rw [hp] at h;cases h
 | some q=>
  obtain ⟨e0,vs,bs,cs⟩:=q
  rw [hp] at h
  simp only [XT] at h
  split at h
  ·rename_i he
   split at h
   ·rename_i es1 hv
    split at h
    ·rename_i es2 hb
     split at h
     ·rename_i os' ho
      simp only [Option.some.injEq,Prod.mk.injEq] at h
      obtain ⟨rfl,rfl⟩:=h
      have hcs:=zW ho hos
      have:=jfk he
      subst this
      unfold jI at hp
      split at hp
      ·rename_i e' s' hex
       simp only [Option.some.injEq,Prod.mk.injEq] at hp
       obtain ⟨rfl,gv,gb,rfl⟩:=hp
       obtain ⟨e2,q1,q2,q3,q4,q5,q6⟩:=(kD (QZ P) hs.sums hs.mix hs.ng n).1 c _ _ s' hex hk.le hr.st
       cases q1
       let s:Asg:=⟨fun k o=>iA (xe ((getM s'.mem k).elim [] (·.cells)) o),fun k o=>bA (xe ((getM s'.mem k).elim [] (·.cells)) o),fun k o=>iA (xe (xZ (getT s'.tm k)) o),fun k o=>bA (xe (xZ (getT s'.tm k)) o)⟩
       have e1:(p.live.map (·.1)).zip vs=XS s p.live:=QO (h:=getT s'.tm) hv hes.left gv fun k=>⟨rfl,rfl⟩
       obtain ⟨bs',rfl,e3⟩:=QP (s:=s) (h:=getM s'.mem) hb hes.right gb fun k b hb=>⟨by show (fun o=>iA (xe ((getM s'.mem k).elim [] (·.cells)) o))=_;rw [hb];rfl,by show (fun o=>bA (xe ((getM s'.mem k).elim [] (·.cells)) o))=_;rw [hb];rfl⟩
       have hB':KstOK ⟨(p.live.map (·.1)).zip vs,(p.mem.map (·.1)).zip bs',p.nb⟩:=by rw [e1,e3];exact hB s
       have hnb':=Nat.le_of_ble_eq_true hnb
       refine q6 hcs E a w hr Q fun E' a' w' hr' hx=> ?_
       have hsub:=Jb (p.mem.map (·.1)) bs' (getM s'.mem) gb
       refine hQ (j8 s p) ⟨s,rfl⟩ E' a' w' ?_ ?_
       ·have:j8 s p=⟨(p.live.map (·.1)).zip vs,(p.mem.map (·.1)).zip bs',p.nb⟩:=by rw [e1,e3];rfl
        rw [this]
        refine ⟨hB',hr'.size.trans q4,hk.le,hr'.defers,fun q hq=> ?_,⟨fun i b hib=>hr'.m.rel.blk i b (hsub i b hib),fun i j hi hj he=>hr'.m.rel.inj i j ?_ ?_ he⟩⟩
        ·rw [hr'.tm q.1,Jc (p.live.map (·.1)) vs (getT s'.tm) gv q hq]
        ·obtain ⟨b,hib⟩:=Option.isSome_iff_exists.1 hi;simp [hsub i b hib]
        ·obtain ⟨b,hjb⟩:=Option.isSome_iff_exists.1 hj;simp [hsub j b hjb]
       ·have:(j8 s p).ms=(Kst.mk ((p.live.map (·.1)).zip vs) ((p.mem.map (·.1)).zip bs') p.nb).ms:=by rw [e1,e3];rfl
        rw [this]
        refine ⟨hnb',hx.agree,hx.os,hx.tape,hx.output,hx.size,hx.frame,fun i hi=>hx.src i ?_⟩
        obtain ⟨b,hib⟩:=Option.isSome_iff_exists.1 hi
        simp [hsub i b hib]
      ·cases hp
     ·cases h
    ·cases h
   ·cases h
  ·cases h
end
abbrev qI (n:Int):P2:= .old (.lit (.int .i64 n))
abbrev qL (a:At):P2:= .old (.lit a)
abbrev qB (x:Bool):P2:= .old (.lit (.bool x))
abbrev qH:P2:= .old .hi
abbrev qO:P2:= .old .hb
abbrev qS (x:Int):P2:= .sym x
abbrev qR (a:At):P2:= .raw a
def rq:Nat→P2→List P2
 | 0,_=>[]
 | n+1,p=>p::rq n p
end Go.Lr

/- Summaries of the filter's parts, by formula, where nothing much happens: a good sample, an empty buffer, a sensor that was not heard of. -/
namespace Go.Proofs.YtnlhpaidmiogbaaGreat
open Go.Lr
set_option linter.unusedVariables false
def jpT (T D a0 a1 a2 d0 d1 d2:Int):Bool:= !decide (jO a0>34359738368) && !decide (jO a1>34359738368) && !decide (jO a2>34359738368) && !decide (jO d0>34359738368) && !decide (jO d1>34359738368) && !decide (jO d2>34359738368)&&decide (D≥1)&&decide (D≤100000)&&decide (T≥0)&&decide (T≤1125899906842624)
def jhS:List LV→Option (LV×List (Bool×Bool))
 | [.v (.agg [.int .i64 T,.int .i64 D,.int .i64 a0,.int .i64 a1,.int .i64 a2,.int .i64 d0,.int .i64 d1,.int .i64 d2])]=>some (.v (.one (.bool true)),[(jpT T D a0 a1 a2 d0 d1 d2,true)])
 | _=>none
theorem jxS (T D a0 a1 a2 d0 d1 d2:Int):(jR Tryz.prog jvm Zl 4000 95 [.v (.agg [.int .i64 T,.int .i64 D,.int .i64 a0,.int .i64 a1,.int .i64 a2,.int .i64 d0,.int .i64 d1,.int .i64 d2])] [] 0 (nn 1 (ff 8 (nn 1 (ff 8 (nn 1 (ff 8 (nn 1 (tt 12 []))))))))).map (fun r=>(r.1,r.2.2.2))=some (.v (.one (.bool (decide (T≤1125899906842624)))),(ra 4 (decide (T≥0),true) (ra 4 (decide (D≤100000),true) (ra 4 (decide (D≥1),true) ((decide (jO d2>34359738368),false)::ra 7 (decide (jO a2>34359738368),false) ((decide (jO d1>34359738368),false)::ra 7 (decide (jO a1>34359738368),false) ((decide (jO d0>34359738368),false)::ra 7 (decide (jO a0>34359738368),false) []))))))):=by kernel_rfl
theorem je6:SumOK Tryz.prog 95 (jp jhS):=by
 refine jM (z:=Zl) soundK16u (jg soundK16u Tryz.func95 (by kernel_rfl)) fun args v cs hF hc=> ?_
 unfold jhS at hF
 split at hF
 ·rename_i T D a0 a1 a2 d0 d1 d2
  cases hF
  have h:=jx hc
  simp only [jpT,Bool.and_eq_true,Bool.not_eq_true'] at h
  obtain ⟨⟨⟨⟨⟨⟨⟨⟨⟨ha0,ha1⟩,ha2⟩,hd0⟩,hd1⟩,hd2⟩,hD1⟩,hD2⟩,hT1⟩,hT2⟩:=h
  have r:=jxS T D a0 a1 a2 d0 d1 d2
  rw [hT2] at r
  exact ⟨4000,_,_,r,(jC hT1 (jC hD2 (jC hD1 (ja hd2 (jC ha2 (ja hd1 (jC ha1 (ja hd0 (jC ha0 jd _)) _)) _)) _) _) _)⟩
 ·cases hF
noncomputable def G1:FuncId→Option SumK:=more jvs 95 (jp jhS)
theorem soundG1:Sound Tryz.prog G1:=soundK37u.more je6
def jxT (k:Blk) (rest:List LV):Option (LV×Blk×List (Bool×Bool)):=
 match k,rest with
 | ⟨t,(0,0),0,[.int .i64 a,.int .i64 b,.int .i64 c,.int .i64 d,.int .i64 e,.int .i64 f,.nilsl,.int .i64 h]⟩,[.v (.one (.int .i64 u))]=>match Nat.beq t 171 with
  | true=>some (.v (.one .nilsl),⟨171,(0,0),0,[.int .i64 a,.int .i64 b,.int .i64 c,.int .i64 d,.int .i64 (wr .i64 (e+0)),.int .i64 f,.nilsl,.int .i64 (if u>h then u else h)]⟩,[])
  | false=>none
 | _,_=>none
theorem jDL (a b c d e f h u:Int):(jR Tryz.prog jpS Zl 4000 102 [A0,I u] [(0,⟨171,(0,0),0,[.int .i64 a,.int .i64 b,.int .i64 c,.int .i64 d,.int .i64 e,.int .i64 f,.nilsl,.int .i64 h]⟩)] 1 []).map (fun r=>(r.1,getM r.2.1 0,r.2.2.2))=some (.v (.one .nilsl),some ⟨171,(0,0),0,[.int .i64 a,.int .i64 b,.int .i64 c,.int .i64 d,.int .i64 (wr .i64 (e+0)),.int .i64 f,.nilsl,.int .i64 (if u>h then u else h)]⟩,[]):=by kernel_rfl
theorem jk7 {r:Option (LV×Mem×Nat×List (Bool×Bool))} {v:LV} {k:Option Blk} {cs:List (Bool×Bool)} (h:r.map (fun r=>(r.1,getM r.2.1 0,r.2.2.2))=some (v,k,cs)):∃m nb,r=some (v,m,nb,cs)∧getM m 0=k:=by
 cases r with
 | none=>cases h
 | some q=>
  obtain ⟨a,b,c,d⟩:=q
  simp only [Option.map_some,Option.some.injEq,Prod.mk.injEq] at h
  obtain ⟨rfl,rfl,rfl⟩:=h
  exact ⟨b,c,rfl,rfl⟩
theorem jpU:GenOK Tryz.prog 102 (jdj (fM jxT)):=by
 refine jcs (jp4 (z:=Zl) soundK29u (jg soundK29u Tryz.func102 (by kernel_rfl)) fun k rest v k' cs hF hc hp=> ?_)
 unfold jxT at hF
 split at hF
 ·split at hF
  ·rename_i ht
   cases hF
   have:=Nat.eq_of_beq_eq_true ht
   subst this
   obtain ⟨m,nb,h1,h2⟩:=jk7 (jDL _ _ _ _ _ _ _ _)
   exact ⟨rfl,rfl,rfl,rfl,4000,[],m,nb,[],h1,h2,by simp⟩
  ·cases hF
 ·cases hF
noncomputable def G2:FuncId→Option SumK:=moreG G1 102 (kA (jdj (fM jxT)) (jS Tryz.prog jpS Zl 4000 102))
theorem soundG2:Sound Tryz.prog G2:=soundG1.moreG (jK jpU (jl soundK29u (jg soundK29u Tryz.func102 (by kernel_rfl))))
def jdf (s0 s1 s2 s3 s4 s5:Bool) (x:Nat→Int):List At:= .int .i64 (x 0):: .int .i64 (x 1):: .bool s0:: .int .i64 (x 3):: .int .i64 (x 4):: .int .i64 (x 5):: .int .i64 (x 6):: .int .i64 (x 7):: .bool s1:: .int .i64 (x 9):: .int .i64 (x 10):: .int .i64 (x 11):: .int .i64 (x 12):: .int .i64 (x 13):: .bool s2:: .int .i64 (x 15):: .int .i64 (x 16):: .int .i64 (x 17):: .int .i64 (x 18):: .int .i64 (x 19):: .bool s3:: .int .i64 (x 21):: .int .i64 (x 22):: .int .i64 (x 23):: .int .i64 (x 24):: .int .i64 (x 25):: .bool s4:: .int .i64 (x 27):: .int .i64 (x 28):: .int .i64 (x 29):: .int .i64 (x 30):: .int .i64 (x 31):: .bool s5:: .int .i64 (x 33):: .int .i64 (x 34):: .int .i64 (x 35):: .int .i64 (x 36)::[]
def jxU (l:List At):Option (Bool×Bool×Bool×Bool×Bool×Bool):=match l with
 | .int .i64 _:: .int .i64 _:: .bool s0:: .int .i64 _:: .int .i64 _:: .int .i64 _:: .int .i64 _:: .int .i64 _:: .bool s1:: .int .i64 _:: .int .i64 _:: .int .i64 _:: .int .i64 _:: .int .i64 _:: .bool s2:: .int .i64 _:: .int .i64 _:: .int .i64 _:: .int .i64 _:: .int .i64 _:: .bool s3:: .int .i64 _:: .int .i64 _:: .int .i64 _:: .int .i64 _:: .int .i64 _:: .bool s4:: .int .i64 _:: .int .i64 _:: .int .i64 _:: .int .i64 _:: .int .i64 _:: .bool s5:: .int .i64 _:: .int .i64 _:: .int .i64 _:: .int .i64 _::[]=>some (s0,s1,s2,s3,s4,s5)
 | _=>none
theorem Ki {l:List At} {s0 s1 s2 s3 s4 s5:Bool} (h:jxU l=some (s0,s1,s2,s3,s4,s5)):l=jdf s0 s1 s2 s3 s4 s5 (jo l):=by
 unfold jxU at h
 split at h
 ·cases h;rfl
 ·cases h
theorem jDM (s1 s2 s3 s4 s5:Bool) (x:Nat→Int) (n:Int):(jR Tryz.prog jhb Zl 4000 104 [A0,I 0,I n] [(0,⟨184,(0,0),0,jdf false s1 s2 s3 s4 s5 x⟩)] 1 []).map (fun r=>(r.1,getM r.2.1 0,r.2.2.2))=some (.v (.one (.bool false)),some ⟨184,(0,0),0,jdf false s1 s2 s3 s4 s5 x⟩,[]):=by kernel_rfl
theorem jDN (s0 s2 s3 s4 s5:Bool) (x:Nat→Int) (n:Int):(jR Tryz.prog jhb Zl 4000 104 [A0,I 1,I n] [(0,⟨184,(0,0),0,jdf s0 false s2 s3 s4 s5 x⟩)] 1 []).map (fun r=>(r.1,getM r.2.1 0,r.2.2.2))=some (.v (.one (.bool false)),some ⟨184,(0,0),0,jdf s0 false s2 s3 s4 s5 x⟩,[]):=by kernel_rfl
theorem jDO (s0 s1 s3 s4 s5:Bool) (x:Nat→Int) (n:Int):(jR Tryz.prog jhb Zl 4000 104 [A0,I 2,I n] [(0,⟨184,(0,0),0,jdf s0 s1 false s3 s4 s5 x⟩)] 1 []).map (fun r=>(r.1,getM r.2.1 0,r.2.2.2))=some (.v (.one (.bool false)),some ⟨184,(0,0),0,jdf s0 s1 false s3 s4 s5 x⟩,[]):=by kernel_rfl
theorem jDP (s0 s1 s2 s4 s5:Bool) (x:Nat→Int) (n:Int):(jR Tryz.prog jhb Zl 4000 104 [A0,I 3,I n] [(0,⟨184,(0,0),0,jdf s0 s1 s2 false s4 s5 x⟩)] 1 []).map (fun r=>(r.1,getM r.2.1 0,r.2.2.2))=some (.v (.one (.bool false)),some ⟨184,(0,0),0,jdf s0 s1 s2 false s4 s5 x⟩,[]):=by kernel_rfl
theorem jDQ (s0 s1 s2 s3 s5:Bool) (x:Nat→Int) (n:Int):(jR Tryz.prog jhb Zl 4000 104 [A0,I 4,I n] [(0,⟨184,(0,0),0,jdf s0 s1 s2 s3 false s5 x⟩)] 1 []).map (fun r=>(r.1,getM r.2.1 0,r.2.2.2))=some (.v (.one (.bool false)),some ⟨184,(0,0),0,jdf s0 s1 s2 s3 false s5 x⟩,[]):=by kernel_rfl
theorem jDR (s0 s1 s2 s3 s4:Bool) (x:Nat→Int) (n:Int):(jR Tryz.prog jhb Zl 4000 104 [A0,I 5,I n] [(0,⟨184,(0,0),0,jdf s0 s1 s2 s3 s4 false x⟩)] 1 []).map (fun r=>(r.1,getM r.2.1 0,r.2.2.2))=some (.v (.one (.bool false)),some ⟨184,(0,0),0,jdf s0 s1 s2 s3 s4 false x⟩,[]):=by kernel_rfl
def usI (i:Int) (b:Bool×Bool×Bool×Bool×Bool×Bool):Bool:=match i,b with
 | .ofNat 0,(false,_,_,_,_,_)=>true
 | .ofNat 1,(_,false,_,_,_,_)=>true
 | .ofNat 2,(_,_,false,_,_,_)=>true
 | .ofNat 3,(_,_,_,false,_,_)=>true
 | .ofNat 4,(_,_,_,_,false,_)=>true
 | .ofNat 5,(_,_,_,_,_,false)=>true
 | _,_=>false
def usF (k:Blk) (rest:List LV):Option (LV×Blk×List (Bool×Bool)):=
 match rest,k with
 | [.v (.one (.int .i64 i)),.v (.one (.int .i64 n))],⟨ty,(0,0),0,l⟩=>match Nat.beq ty 184 with
  | true=>match jxU l with
   | some b=>match usI i b with
    | true=>some (.v (.one (.bool false)),⟨ty,(0,0),0,l⟩,[])
    | false=>none
   | none=>none
  | false=>none
 | _,_=>none
theorem jxV:GenOK Tryz.prog 104 (jdj (fM usF)):=by
 refine jcs (jp4 (z:=Zl) soundK31u (jg soundK31u Tryz.func104 (by kernel_rfl)) fun k rest v k' cs hF hc hp=> ?_)
 unfold usF at hF
 split at hF
 ·rename_i i n ty l
  split at hF
  ·rename_i ht
   have ht:=Nat.eq_of_beq_eq_true ht
   subst ht
   split at hF
   ·rename_i b hb
    split at hF
    ·rename_i hi
     cases hF
     unfold usI at hi
     split at hi
     ·have e:=Ki hb
      obtain ⟨m,nb,h2,h3⟩:=jk7 (jDM _ _ _ _ _ (jo l) n)
      rw [e]
      exact ⟨rfl,rfl,rfl,rfl,4000,[],m,nb,[],h2,h3,by simp⟩
     ·have e:=Ki hb
      obtain ⟨m,nb,h2,h3⟩:=jk7 (jDN _ _ _ _ _ (jo l) n)
      rw [e]
      exact ⟨rfl,rfl,rfl,rfl,4000,[],m,nb,[],h2,h3,by simp⟩
     ·have e:=Ki hb
      obtain ⟨m,nb,h2,h3⟩:=jk7 (jDO _ _ _ _ _ (jo l) n)
      rw [e]
      exact ⟨rfl,rfl,rfl,rfl,4000,[],m,nb,[],h2,h3,by simp⟩
     ·have e:=Ki hb
      obtain ⟨m,nb,h2,h3⟩:=jk7 (jDP _ _ _ _ _ (jo l) n)
      rw [e]
      exact ⟨rfl,rfl,rfl,rfl,4000,[],m,nb,[],h2,h3,by simp⟩
     ·have e:=Ki hb
      obtain ⟨m,nb,h2,h3⟩:=jk7 (jDQ _ _ _ _ _ (jo l) n)
      rw [e]
      exact ⟨rfl,rfl,rfl,rfl,4000,[],m,nb,[],h2,h3,by simp⟩
     ·have e:=Ki hb
      obtain ⟨m,nb,h2,h3⟩:=jk7 (jDR _ _ _ _ _ (jo l) n)
      rw [e]
      exact ⟨rfl,rfl,rfl,rfl,4000,[],m,nb,[],h2,h3,by simp⟩
     ·cases hi
    ·cases hF
   ·cases hF
  ·cases hF
 ·cases hF
noncomputable def G3:FuncId→Option SumK:=moreG G2 104 (kA (jdj (fM usF)) (jS Tryz.prog jhb Zl 4000 104))
theorem soundG3:Sound Tryz.prog G3:=soundG2.moreG (jK jxV (jl soundK31u (jg soundK31u Tryz.func104 (by kernel_rfl))))
noncomputable def KPg:FuncId→Option SumK:=more jpQ 95 (jp jhS)
theorem soundKPg:Sound Tryz.prog KPg:=soundK25u.more je6
end Go.Proofs.YtnlhpaidmiogbaaGreat

/- strap.Step by formula (its flag is chosen); what calls it, over that; jac.Step: opaque. -/
set_option linter.unusedVariables false
namespace Go.Lr
open Go.RowKit
def okY (ty:TypeId) (r:Option (LV×Option Blk×List (Bool×Bool))):Option LV:=
 match r with
 | some (v,some b,cs)=>match jp8 ⟨ty,(0,0),0,[.hb]⟩ b with
  | true=>match QL cs with
   | true=>some v
   | false=>none
  | false=>none
 | _=>none
theorem joD {ty:TypeId} {r:Option (LV×Option Blk×List (Bool×Bool))} {v:LV} (h:okY ty r=some v):∃h' cs,r=some (v,some (flag ty h'),cs)∧∀c∈cs,c.1=c.2:=by
 unfold okY at h
 split at h
 ·rename_i v b cs
  split at h
  ·rename_i h2
   split at h
   ·rename_i h1
    cases h
    refine ⟨bA (xe b.cells 0),cs, ?_,yj h1⟩
    have e:b=flag ty (bA (xe b.cells 0)):=jba h2
    rw [←e]
   ·cases h
  ·cases h
 ·cases h
section
variable {P:Program} {S:FuncId→Option SumK} {z:Md}
noncomputable def fxH (P:Program) (f:FuncId) (ty:TypeId) (args:List LV) (hb:Bool) (v:LV):Bool:=@Classical.epsilon Bool ⟨false⟩ fun h'=>ExA P f ty args hb v h'
noncomputable def fxF (P:Program) (f:FuncId) (ty:TypeId) (F:List LV→Option LV):List LV→Bool→Option (LV×Bool×List (Bool×Bool)):=fun args hb=>
 match F args with
 | some v=>some (v,fxH P f ty args hb v,[])
 | none=>none
theorem jeP (hs:Sound P S) {f:FuncId} {ty:TypeId} {F:List LV→Option LV} (ho:Own P f)
  (h:∀args v hb,F args=some v→v.ok noP=true∧∃(k:Nat) (dec:List (Option Bool)),okY ty ((jR P S z k f (A0::args) [(0,flag ty hb)] 1 dec).map (fun r=>(r.1,getM r.2.1 0,r.2.2.2)))=some v):SumOK P f (jv ty (fxF P f ty F)):=by
 refine JZ fun args hb v h' cs hF hc hp w L hL=> ?_
 unfold fxF at hF
 split at hF
 ·rename_i v0 hv0
  cases hF
  obtain ⟨hn,k,dec,hr⟩:=h args v hb hv0
  obtain ⟨h2,cs2,hrun,hc2⟩:=joD hr
  have hq:=@Classical.epsilon_spec_aux Bool ⟨false⟩ (fun h'=>ExA P f ty args hb v h') ⟨h2,fun w L hL=>jbp hs hrun hc2 hp hn w L hL⟩
  exact qb ho (hq w L hL)
 ·cases hF
end
end Go.Lr
namespace Go.Proofs.YtnlhpaidmiogbaaGreat
open Go.Lr
def fI2 (x y:Int):Int:=Xo (kQ [At.int IntKind.i64 x,At.int IntKind.i64 y])
def fI3 (x y z:Int):Int:=Xo (kQ [At.int IntKind.i64 x,At.int IntKind.i64 y,At.int IntKind.i64 z])
def stM (k0 k1 k2 k3 k4 k5 k6 k7 k8 k9 k10 k11 k12 k13 k14 k15 k16 k17 k18 k19 k20 k21 k22 k23 dt m0 m1 m2 m3 n0 n1 n2:Int):LV:=jdg (uV0 m0 m1 m2 m3) (uV1 m0 m1 m2 m3) (uV2 m0 m1 m2 m3) (uV3 m0 m1 m2 m3) n0 n1 n2 (fI2 k7 (ko (fI2 k4 n0) (ko dt 536870912 30) 30)) (fI2 k8 (ko (fI2 k5 n1) (ko dt 536870912 30) 30)) (fI2 k9 (ko (fI2 k6 n2) (ko dt 536870912 30) 30)) k10 k11 k12 k13 k14 k15 k16 k17 k18 k19 k20 k21 k22 k23
def stN (q0 q1 q2 q3 k4 k5 k6 d0 d1 d2 g:Int) (F:Int→Int→Int→LV):LV:=F (fI3 k4 (qP 30 [rm0 q0 q1 q2 q3,rm1 q0 q1 q2 q3,rm2 q0 q1 q2 q3] [d0,d1,d2]) 0) (fI3 k5 (qP 30 [rm3 q0 q1 q2 q3,rm4 q0 q1 q2 q3,rm5 q0 q1 q2 q3] [d0,d1,d2]) 0) (fI3 k6 (qP 30 [rm6 q0 q1 q2 q3,rm7 q0 q1 q2 q3,rm8 q0 q1 q2 q3] [d0,d1,d2]) g)
def stA (k0 k1 k2 k3 k4 k5 k6 k7 k8 k9 k10 k11 k12 k13 k14 k15 k16 k17 k18 k19 k20 k21 k22 k23 dt a0 a1 a2 d0 d1 d2:Int):LV:=stN (jc k0) (jc k1) (jc k2) (jc k3) k4 k5 k6 d0 d1 d2 (ko 10529810258 dt 30) (stM k0 k1 k2 k3 k4 k5 k6 k7 k8 k9 k10 k11 k12 k13 k14 k15 k16 k17 k18 k19 k20 k21 k22 k23 dt (mq0 k0 k1 k2 k3 (eV0 a0 a1 a2) (eV1 a0 a1 a2) (eV2 a0 a1 a2) (eV3 a0 a1 a2)) (mq1 k0 k1 k2 k3 (eV0 a0 a1 a2) (eV1 a0 a1 a2) (eV2 a0 a1 a2) (eV3 a0 a1 a2)) (mq2 k0 k1 k2 k3 (eV0 a0 a1 a2) (eV1 a0 a1 a2) (eV2 a0 a1 a2) (eV3 a0 a1 a2)) (mq3 k0 k1 k2 k3 (eV0 a0 a1 a2) (eV1 a0 a1 a2) (eV2 a0 a1 a2) (eV3 a0 a1 a2)))
def stD (k0 k1 k2 k3 k4 k5 k6 k7 k8 k9 k10 k11 k12 k13 k14 k15 k16 k17 k18 k19 k20 k21 k22 k23 dt i2 i3 i4 i5 i6 i7:Int):LV:=stA k0 k1 k2 k3 k4 k5 k6 k7 k8 k9 k10 k11 k12 k13 k14 k15 k16 k17 k18 k19 k20 k21 k22 k23 dt (xW i2 (ko k10 dt 30)) (xW i3 (ko k11 dt 30)) (xW i4 (ko k12 dt 30)) (xW i5 (ko k13 dt 30)) (xW i6 (ko k14 dt 30)) (xW i7 (ko k15 dt 30))
def joE (s0 s1 s2 s3 s4 s5 s6 s7 s8 s9 s10 s11 s12 s13 s14 s15 s16 s17 s18 s19 s20 s21 s22 s23 i0 i1 i2 i3 i4 i5 i6 i7:Int):LV:=match jdg s0 s1 s2 s3 s4 s5 s6 s7 s8 s9 s10 s11 s12 s13 s14 s15 s16 s17 s18 s19 s20 s21 s22 s23 with
 | .v (.agg [.int .i64 k0,.int .i64 k1,.int .i64 k2,.int .i64 k3,.int .i64 k4,.int .i64 k5,.int .i64 k6,.int .i64 k7,.int .i64 k8,.int .i64 k9,.int .i64 k10,.int .i64 k11,.int .i64 k12,.int .i64 k13,.int .i64 k14,.int .i64 k15,.int .i64 k16,.int .i64 k17,.int .i64 k18,.int .i64 k19,.int .i64 k20,.int .i64 k21,.int .i64 k22,.int .i64 k23])=>stD k0 k1 k2 k3 k4 k5 k6 k7 k8 k9 k10 k11 k12 k13 k14 k15 k16 k17 k18 k19 k20 k21 k22 k23 (QI i1 1073741824 1000000) i2 i3 i4 i5 i6 i7
 | v=>v
def jeQ:List LV→Option LV
 | [.v (.agg [.int .i64 s0,.int .i64 s1,.int .i64 s2,.int .i64 s3,.int .i64 s4,.int .i64 s5,.int .i64 s6,.int .i64 s7,.int .i64 s8,.int .i64 s9,.int .i64 s10,.int .i64 s11,.int .i64 s12,.int .i64 s13,.int .i64 s14,.int .i64 s15,.int .i64 s16,.int .i64 s17,.int .i64 s18,.int .i64 s19,.int .i64 s20,.int .i64 s21,.int .i64 s22,.int .i64 s23]),.v (.agg [.int .i64 i0,.int .i64 i1,.int .i64 i2,.int .i64 i3,.int .i64 i4,.int .i64 i5,.int .i64 i6,.int .i64 i7])]=>some (joE s0 s1 s2 s3 s4 s5 s6 s7 s8 s9 s10 s11 s12 s13 s14 s15 s16 s17 s18 s19 s20 s21 s22 s23 i0 i1 i2 i3 i4 i5 i6 i7)
 | _=>none
theorem jxm (s0 s1 s2 s3 s4 s5 s6 s7 s8 s9 s10 s11 s12 s13 s14 s15 s16 s17 s18 s19 s20 s21 s22 s23 i0 i1 i2 i3 i4 i5 i6 i7:Int) (hb:Bool):okY 61 ((jR Tryz.prog jvt Zl 4000 98 [A0,.v (.agg [.int .i64 s0,.int .i64 s1,.int .i64 s2,.int .i64 s3,.int .i64 s4,.int .i64 s5,.int .i64 s6,.int .i64 s7,.int .i64 s8,.int .i64 s9,.int .i64 s10,.int .i64 s11,.int .i64 s12,.int .i64 s13,.int .i64 s14,.int .i64 s15,.int .i64 s16,.int .i64 s17,.int .i64 s18,.int .i64 s19,.int .i64 s20,.int .i64 s21,.int .i64 s22,.int .i64 s23]),.v (.agg [.int .i64 i0,.int .i64 i1,.int .i64 i2,.int .i64 i3,.int .i64 i4,.int .i64 i5,.int .i64 i6,.int .i64 i7])] [(0,flag 61 hb)] 1 []).map (fun r=>(r.1,getM r.2.1 0,r.2.2.2)))=some (joE s0 s1 s2 s3 s4 s5 s6 s7 s8 s9 s10 s11 s12 s13 s14 s15 s16 s17 s18 s19 s20 s21 s22 s23 i0 i1 i2 i3 i4 i5 i6 i7):=by kernel_rfl
theorem jcd:SumOK Tryz.prog 98 (jv 61 (fxF Tryz.prog 98 61 jeQ)):=by
 refine jeP (z:=Zl) soundK12u (jg soundK12u Tryz.func98 (by kernel_rfl)) fun args v hb hF=> ?_
 unfold jeQ at hF
 split at hF
 ·cases hF
  exact ⟨by kernel_rfl,4000,[],jxm _ _ _ _ _ _ _ _ _ _ _ _ _ _ _ _ _ _ _ _ _ _ _ _ _ _ _ _ _ _ _ _ hb⟩
 ·cases hF
end Go.Proofs.YtnlhpaidmiogbaaGreat

/- Blocks by other numbers: a walk in pieces in which a call's own blocks may be told by other numbers. -/
set_option linter.unusedVariables false
namespace Go.Lr
open Go.RowKit
def sw (a b i:Nat):Nat:=match Nat.beq i a with
 | true=>b
 | false=>match Nat.beq i b with
  | true=>a
  | false=>i
theorem jqh (a b i:Nat):sw a b i=if i=a then b else if i=b then a else i:=by
 unfold sw
 by_cases h:i=a
 ·subst h
  simp
 ·have h1:Nat.beq i a=false:=by cases h1:Nat.beq i a with
   | true=>exact absurd (Nat.eq_of_beq_eq_true h1) h
   | false=>rfl
  rw [h1,if_neg h]
  by_cases h2:i=b
  ·subst h2
   simp
  ·have h3:Nat.beq i b=false:=by cases h3:Nat.beq i b with
    | true=>exact absurd (Nat.eq_of_beq_eq_true h3) h2
    | false=>rfl
   rw [h3,if_neg h2]
theorem jqi (a b i:Nat):sw a b (sw a b i)=i:=by
 simp only [jqh]
 by_cases h:i=a
 ·subst h
  rw [if_pos rfl]
  by_cases h2:b=i
  ·rw [if_pos h2,h2]
  ·rw [if_neg h2,if_pos rfl]
 ·rw [if_neg h]
  by_cases h2:i=b
  ·subst h2
   rw [if_pos rfl,if_pos rfl]
  ·rw [if_neg h2,if_neg h,if_neg h2]
def swp:List (Nat×Nat)→Nat→Nat
 | [],i=>i
 | (a,b)::l,i=>swp l (sw a b i)
def swq:List (Nat×Nat)→Nat→Nat
 | [],i=>i
 | (a,b)::l,i=>sw a b (swq l i)
theorem QR:∀(l:List (Nat×Nat)) (i:Nat),swq l (swp l i)=i
 | [],i=>rfl
 | (a,b)::l,i=>by simp only [swp,swq];rw [QR l,jqi]
theorem Kl:∀(l:List (Nat×Nat)) (i:Nat),swp l (swq l i)=i
 | [],i=>rfl
 | (a,b)::l,i=>by simp only [swp,swq];rw [jqi,Kl l]
def jvx (N:Nat):List (Nat×Nat)→Bool
 | []=>true
 | (a,b)::l=>match Nat.ble N a with
  | true=>match Nat.ble N b with
   | true=>jvx N l
   | false=>false
  | false=>false
theorem ZU {N:Nat}:∀{l:List (Nat×Nat)},jvx N l=true→∀i,i<N→swq l i=i
 | [],_,i,_=>rfl
 | (a,b)::l,h,i,hi=>by
  unfold jvx at h
  split at h
  ·rename_i h1
   split at h
   ·rename_i h2
    have h1':=Nat.le_of_ble_eq_true h1
    have h2':=Nat.le_of_ble_eq_true h2
    simp only [swq]
    rw [ZU h i hi,jqh,if_neg (by omega),if_neg (by omega)]
   ·cases h
  ·cases h
def jbf (ρ:Nat→Nat):List (Nat×Nat)→List (Nat×Nat)
 | []=>[]
 | (b,o)::l=>(ρ b,o)::jbf ρ l
def jqj (ρ:Nat→Nat):At→At
 | .int k n=> .int k n
 | .bool b=> .bool b
 | .ptr b o=> .ptr (ρ b) o
 | .nilp=> .nilp
 | .sl b o l c=> .sl (ρ b) o l c
 | .slu b l=> .slu (ρ b) l
 | .slx b o l c=> .slx (ρ b) o l c
 | .ptx b o=> .ptx (ρ b) o
 | .nilsl=> .nilsl
 | .slt b o n=> .slt (ρ b) o n
 | .fn f caps=> .fn f (jbf ρ caps)
 | .opq v=> .opq v
def jdk (ρ:Nat→Nat):List At→List At
 | []=>[]
 | a::l=>jqj ρ a::jdk ρ l
def jh3 (ρ:Nat→Nat):V1→V1
 | .one a=> .one (jqj ρ a)
 | .agg l=> .agg (jdk ρ l)
def jjC (ρ:Nat→Nat):LV→LV
 | .v x=> .v (jh3 ρ x)
 | .tup l=> .tup (l.map (jh3 ρ))
def jdl (ρ:Nat→Nat) (b:Blk):Blk:=⟨b.ty,b.fr,b.es,jdk ρ b.cells⟩
def ZV (ρ:Nat→Nat):List (Nat×LV)→List (Nat×LV)
 | []=>[]
 | (i,v)::l=>(i,jjC ρ v)::ZV ρ l
def jfp (ρ:Nat→Nat):Mem→Mem
 | []=>[]
 | (i,b)::l=>(ρ i,jdl ρ b)::jfp ρ l
theorem jcC {ρ:Nat→Nat} {E E':Env} (h:∀b,E' (ρ b)=E b) (a:At):(jqj ρ a).den E'=a.den E:=by
 cases a with
 | fn f caps=>
  simp only [jqj,At.den]
  congr 1
  congr 1
  induction caps with
  | nil=>rfl
  | cons c l ih=>simp only [jbf,List.map_cons,h,ih]
 | _=>simp only [jqj,At.den,h]
theorem JS {ρ:Nat→Nat} {E E':Env} (h:∀b,E' (ρ b)=E b):∀l:List At,(jdk ρ l).map (At.den E')=l.map (At.den E)
 | []=>rfl
 | a::l=>by simp only [jdk,List.map_cons,jcC h,JS h l]
theorem Ql (ρ:Nat→Nat):∀l:List At,(jdk ρ l).length=l.length
 | []=>rfl
 | a::l=>by simp [jdk,Ql ρ l]
theorem ZW {ρ:Nat→Nat} {E E':Env} (h:∀b,E' (ρ b)=E b) (x:V1):(jh3 ρ x).den E'=x.den E:=by
 cases x with
 | one a=>exact jcC h a
 | agg l=>simp only [jh3,V1.den,JS h]
theorem jcD {ρ:Nat→Nat} {E E':Env} (h:∀b,E' (ρ b)=E b) (v:LV):(jjC ρ v).den E'=v.den E:=by
 cases v with
 | v x=>exact ZW h x
 | tup l=>simp only [jjC,LV.den,List.map_map];congr 1;congr 1;exact List.map_congr_left fun x _=>ZW h x
theorem ZX {ρ:Nat→Nat}:∀{l:List (Nat×LV)} {q:Nat×LV},q∈ZV ρ l→∃v,(q.1,v)∈l∧q.2=jjC ρ v
 | [],q,h=>by simp [ZV] at h
 | (i,v)::l,q,h=>by
  simp only [ZV,List.mem_cons] at h
  rcases h with rfl | h
  ·exact ⟨v,List.mem_cons_self ..,rfl⟩
  ·obtain ⟨u,h1,h2⟩:=ZX h
   exact ⟨u,List.mem_cons_of_mem _ h1,h2⟩
theorem Qm {ρ σ:Nat→Nat} (h1:∀i,σ (ρ i)=i) (h2:∀i,ρ (σ i)=i):∀(m:Mem) (j:Nat),getM (jfp ρ m) j=(getM m (σ j)).map (jdl ρ)
 | [],j=>rfl
 | (i,b)::m,j=>by
  simp only [jfp]
  rw [jz,jz]
  by_cases h:j=ρ i
  ·rw [if_pos h,if_pos (by rw [h,h1])];rfl
  ·rw [if_neg h,if_neg (fun e=>h (by rw [←e,h2])),Qm h1 h2 m j]
section
variable {P:Program} {sz:Nat}
theorem KR.ren {E:Env} {A:Kst} {a:Act} {w:World} (h:KR E sz A a w) (l:List (Nat×Nat)) {nb:Nat} (hB:KstOK ⟨ZV (swp l) A.live,jfp (swp l) A.mem,nb⟩):
  KR (fun j=>E (swq l j)) sz ⟨ZV (swp l) A.live,jfp (swp l) A.mem,nb⟩ a w:=by
 have hE:∀b,(fun j=>E (swq l j)) ((swp l) b)=E b:=fun b=>by show E (swq l (swp l b))=E b;rw [QR]
 refine ⟨hB,h.size,h.le,h.defers,fun q hq=> ?_,⟨fun j b' hj=> ?_,fun i j hi hj he=> ?_⟩⟩
 ·obtain ⟨v,h1,h2⟩:=ZX hq
  rw [h2,jcD (ρ:=swp l) (E:=E) (E':=fun j=>E (swq l j)) hE]
  exact h.tm _ h1
 ·have hj':getM (jfp (swp l) A.mem) j=some b':=hj
  rw [Qm (QR l) (Kl l)] at hj'
  cases hg:getM A.mem (swq l j) with
  | none=>rw [hg] at hj';cases hj'
  | some b=>
   rw [hg] at hj'
   cases hj'
   obtain ⟨r,g1,g2,g3⟩:=h.rel.blk _ b hg
   refine ⟨r, ?_,g2,fun hne=> ?_⟩
   ·show w.heap[(E (swq l j)).1]? = _
    rw [g1]
    show some (Obj.cells _ _ _)=some (Obj.cells ((E (swq l j)).pre++(jdk (swp l) b.cells).map (At.den fun j=>E (swq l j))++r++(E (swq l j)).suf).toArray ((E (swq l j)).ty.getD b.ty) b.fr)
    rw [JS (ρ:=swp l) (E:=E) (E':=fun j=>E (swq l j)) hE]
   ·show (jdk (swp l) b.cells).length+r.length=_
    rw [Ql]
    exact g3 hne
 ·have hi':(getM (jfp (swp l) A.mem) i).isSome:=hi
  have hj':(getM (jfp (swp l) A.mem) j).isSome:=hj
  rw [Qm (QR l) (Kl l),Option.isSome_map] at hi' hj'
  have:=h.rel.inj _ _ hi' hj' he
  rw [←Kl l i,this,Kl]
def ToR (P:Program) (sz N:Nat) (c:Code) (A:Kst) (e:Ex) (B:Kst→Prop):Prop:=
 ∀E a w,KR E sz A a w→∀Q:Exit→Act→World→Prop,(∀B0,B B0→∀E' a' w',KR E' sz B0 a' w'→ExtG N w E (getM A.mem) w' E' (getM B0.mem)→Q e.to a' w')→c.wp P Q a w
theorem Ext.toG {N:Nat} {w w':World} {E E':Env} {s s':St} (h:Ext w E s w' E' s') (hN:N≤s.nb):ExtG N w E (getM s.mem) w' E' (getM s'.mem):=
 ⟨fun i hi=>h.agree i (Nat.lt_of_lt_of_le hi hN),h.os,h.tape,h.output,h.size,h.frame,h.src⟩
theorem ToR.of_ToP {N:Nat} {c:Code} {A:Kst} {e:Ex} {B:Kst→Prop} (h:ToP P sz c A e B) (hN:Nat.ble N A.nb=true):ToR P sz N c A e B:=
 fun E a w hr Q hQ=>h E a w hr Q fun B0 hB E' a' w' hr' hx=>hQ B0 hB E' a' w' hr' (hx.toG (Nat.le_of_ble_eq_true hN))
theorem ToR.mono {N:Nat} {c:Code} {A:Kst} {e:Ex} {B C:Kst→Prop} (h:ToR P sz N c A e B) (k:∀x,B x→C x):ToR P sz N c A e C:=
 fun E a w hr Q hQ=>h E a w hr Q fun B0 hB0=>hQ B0 (k B0 hB0)
theorem ToR.ren {N:Nat} {c:Code} {A:Kst} {e:Ex} {B C:Kst→Prop} (h:ToR P sz N c A e B) (l:List (Nat×Nat)) (hl:jvx N l=true)
  (k:∀x,B x→∃nb,KstOK ⟨ZV (swp l) x.live,jfp (swp l) x.mem,nb⟩∧C ⟨ZV (swp l) x.live,jfp (swp l) x.mem,nb⟩):ToR P sz N c A e C:=by
 intro E a w hr Q hQ
 refine h E a w hr Q fun B0 hB E' a' w' hr' hx=> ?_
 obtain ⟨nb,h1,h2⟩:=k B0 hB
 refine hQ _ h2 (fun j=>E' (swq l j)) a' w' (hr'.ren l h1) ⟨fun i hi=> ?_,hx.os,hx.tape,hx.output,hx.size,hx.frame,fun i hi=> ?_⟩
 ·show E' (swq l i)=E i
  rw [ZU hl i hi]
  exact hx.agree i hi
 ·have hi':(getM (jfp (swp l) B0.mem) i).isSome:=hi
  rw [Qm (QR l) (Kl l),Option.isSome_map] at hi'
  exact hx.src _ hi'
theorem ToR.seq {N:Nat} {c:Code} {A:Kst} {e:Ex} {B C:Kst→Prop} (hc:Ji c=true) (h:ToR P sz N (c1 c) A .normal B) (k:∀x,B x→ToR P sz N (c2 c) x e C):ToR P sz N c A e C:=by
 cases c <;> simp only [Ji,Bool.false_eq_true] at hc
 intro E a w hr Q hQ
 refine wp_seq (h E a w hr _ fun B0 hB E' a' w' hr' hx'=> ?_)
 exact k B0 hB E' a' w' hr' Q fun C0 hC E'' a'' w'' hr'' hx''=>hQ C0 hC E'' a'' w'' hr'' (hx'.trans hx'')
theorem ToR.seq_out {N:Nat} {c:Code} {A:Kst} {e:Ex} {B:Kst→Prop} (hc:Ji c=true) (he:e≠ .normal) (h:ToR P sz N (c1 c) A e B):ToR P sz N c A e B:=by
 cases c <;> simp only [Ji,Bool.false_eq_true] at hc
 intro E a w hr Q hQ
 refine wp_seq (h E a w hr _ fun B0 hB E' a' w' hr' hx'=> ?_)
 have:=hQ B0 hB E' a' w' hr' hx'
 cases e <;> first | exact absurd rfl he | exact this
theorem ToR.block {N:Nat} {c:Code} {id:Nat} {A:Kst} {e:Ex} {B:Kst→Prop} (hc:Zd c=some id) (h:ToR P sz N (c1 c) A e B) (he:e = .exit id∨e = .normal):ToR P sz N c A .normal B:=by
 cases c <;> simp only [Zd,reduceCtorEq] at hc
 cases hc
 intro E a w hr Q hQ
 refine wp_block (h E a w hr _ fun B0 hB E' a' w' hr' hx'=> ?_)
 have:=hQ B0 hB E' a' w' hr' hx'
 rcases he with rfl | rfl
 ·simpa only [Ex.to,Exit.inBlock,if_true] using this
 ·exact this
def RdR (P:Program) (sz N:Nat) (c:Code) (m:Nat) (A:Kst) (e:Ex) (B:Kst→Prop):Prop:=
 ∀E a w,KR E sz A a w→∀Q:Exit→Act→World→Prop,(∀B0,B B0→∀E' a' w',KR E' sz B0 a' w'→ExtG N w E (getM A.mem) w' E' (getM B0.mem)→Q e.to a' w')→Code.rounds P c Q m a w
theorem RdR.last {N:Nat} {c:Code} {A:Kst} {e:Ex} {B:Kst→Prop} (he:e≠ .normal) (h:ToR P sz N c A e B):RdR P sz N c 1 A e B:=by
 intro E a w hr Q hQ
 rw [rounds_succ]
 refine h E a w hr _ fun B0 hB E' a' w' hr' hx'=> ?_
 have:=hQ B0 hB E' a' w' hr' hx'
 cases e <;> first | exact absurd rfl he | exact this
theorem RdR.next {N:Nat} {c:Code} {A:Kst} {e:Ex} {B C:Kst→Prop} {m:Nat} (h:ToR P sz N c A .normal B) (k:∀x,B x→RdR P sz N c m x e C):RdR P sz N c (m+1) A e C:=by
 intro E a w hr Q hQ
 rw [rounds_succ]
 refine h E a w hr _ fun B0 hB E' a' w' hr' hx'=> ?_
 exact k B0 hB E' a' w' hr' Q fun C0 hC E'' a'' w'' hr'' hx''=>hQ C0 hC E'' a'' w'' hr'' (hx'.trans hx'')
theorem ToR.loop {N:Nat} {c:Code} {A:Kst} {e:Ex} {B:Kst→Prop} {m:Nat} (hc:Kb c=true) (h:RdR P sz N (c1 c) m A e B):ToR P sz N c A e B:=by
 cases c <;> simp only [Kb,Bool.false_eq_true] at hc
 exact fun E a w hr Q hQ=>wp_loop_rounds m (h E a w hr Q hQ)
end
end Go.Lr

/- A summary that is told for blocks by their places in the row of those that can be got at, lifted to whatever numbers the blocks have; its own new blocks are let go. -/
set_option linter.unusedVariables false
set_option linter.unusedSimpArgs false
namespace Go.Lr
open Go.RowKit
def Je:List Nat→Nat→Nat
 | [],_=>0
 | a::_,0=>a
 | _::l,n+1=>Je l n
def jnS (b:Nat):List Nat→Nat→Option Nat
 | [],_=>none
 | a::l,k=>match Nat.beq a b with
  | true=>some k
  | false=>jnS b l (k+1)
def plcR (l:List Nat) (b:Nat):Nat:=match jnS b l 0 with
 | some k=>k
 | none=>l.length+b
def jm7:Nat→Nat→List Nat
 | _,0=>[]
 | o,n+1=>o::jm7 (o+1) n
def jg8 (seen:List Nat):List (Nat×Option Blk)→Option (List (Nat×Option Blk))
 | []=>some []
 | (i,some b)::l=>match Nat.blt i seen.length,okL noP b.cells,jg8 seen l with
  | true,true,some r=>some ((Je seen i,some b)::r)
  | _,_,_=>none
 | (_,none)::_=>none
def ltB (k:Nat):Nat→Bool:=fun i=>Nat.blt i k
def jek (s:List LV→List Nat→List Blk→Nat→Option Dl):List LV→List Nat→List Blk→Nat→Option Dl:=fun args seen ks nb=>
 match xV seen,JM (ltB seen.length) (args.map (jjC (plcR seen))),okBs (ltB seen.length) (ks.map (jdl (plcR seen))) with
 | true,true,true=>match s (args.map (jjC (plcR seen))) (jm7 0 seen.length) (ks.map (jdl (plcR seen))) seen.length with
  | some d=>match d.val.ok noP,jg8 seen d.wr with
   | true,some wr=>some ⟨d.val,wr,[],[],d.cs⟩
   | _,_=>none
  | none=>none
 | _,_,_=>none
theorem Zq {b:Nat}:∀{l:List Nat} {k j:Nat},jnS b l k=some j→k≤j∧j<k+l.length∧Je l (j - k)=b
 | [],k,j,h=>by cases h
 | a::l,k,j,h=>by
  unfold jnS at h
  split at h
  ·rename_i q
   cases h
   have:=Nat.eq_of_beq_eq_true q
   simp [Je,this]
  ·obtain ⟨h1,h2,h3⟩:=Zq h
   refine ⟨by omega,by simp only [List.length_cons];omega, ?_⟩
   rw [show j - k=(j - (k+1))+1 by omega]
   exact h3
theorem Yi:∀{l:List Nat} {j:Nat},j<l.length→l[j]? = some (Je l j)
 | [],j,h=>by simp at h
 | a::l,0,h=>rfl
 | a::l,j+1,h=>by simp only [List.length_cons] at h;simpa [Je] using Yi (l:=l) (j:=j) (by omega)
theorem jb3 {l:List Nat} {j:Nat} (h:j<l.length):Je l j∈l:=List.mem_of_getElem? (Yi h)
theorem Yj:∀{l:List Nat},l.Nodup→∀{i j:Nat},i<l.length→j<l.length→Je l i=Je l j→i=j
 | [],_,i,j,h,_,_=>by simp at h
 | a::l,hn,0,0,_,_,_=>rfl
 | a::l,hn,0,j+1,h1,h2,h=>by
  simp only [List.length_cons] at h2
  simp only [List.nodup_cons] at hn
  have h:a=Je l j:=h
  exact absurd (h ▸ jb3 (l:=l) (j:=j) (by omega)) hn.1
 | a::l,hn,i+1,0,h1,h2,h=>by
  simp only [List.length_cons] at h1
  simp only [List.nodup_cons] at hn
  have h:Je l i=a:=h
  exact absurd (h ▸ jb3 (l:=l) (j:=i) (by omega)) hn.1
 | a::l,hn,i+1,j+1,h1,h2,h=>by
  simp only [List.length_cons] at h1 h2
  simp only [List.nodup_cons] at hn
  rw [Yj hn.2 (by omega) (by omega) (show Je l i=Je l j from h)]
theorem Qx:∀{l:List Blk} {o:Nat} {g:Nat→Option Blk},(∀i,i<l.length→g (o+i)=l[i]?)→jE g (jm7 o l.length)=some l
 | [],o,g,h=>rfl
 | b::l,o,g,h=>by
  have h0:=h 0 (by simp)
  have ih:=Qx (l:=l) (o:=o+1) (g:=g) fun i hi=>by
   have:=h (i+1) (by simp only [List.length_cons];omega)
   rw [show o+1+i=o+(i+1) by omega,this]
   simp
  show jE g (o::jm7 (o+1) l.length)=_
  simp only [jE]
  rw [show g o=some b from h0,ih]
theorem jb4 {seen:List Nat} (hn:seen.Nodup) {j:Nat} (hj:j<seen.length):∀{l r:List (Nat×Option Blk)} {g g0:Nat→Option Blk},jg8 seen l=some r→
  (∃b,wrG g0 l j=some b∧wrG g r (Je seen j)=some b∧okL noP b.cells=true)∨(wrG g0 l j=g0 j∧wrG g r (Je seen j)=g (Je seen j))
 | [],r,g,g0,h=>by simp only [jg8] at h;cases h;exact .inr ⟨rfl,rfl⟩
 | (i,none)::l,r,g,g0,h=>by simp only [jg8] at h;cases h
 | (i,some b)::l,r,g,g0,h=>by
  simp only [jg8] at h
  split at h
  ·rename_i r' q1 q2 q3
   cases h
   have hi:i<seen.length:=by simpa [Nat.blt_eq] using q1
   simp only [wrG]
   rcases jb4 hn hj (g:=fun k=>if k=Je seen i then some b else g k) (g0:=fun k=>if k=i then some b else g0 k) q3 with ⟨b',h1,h2,h3⟩ | ⟨h1,h2⟩
   ·exact .inl ⟨b',h1,h2,h3⟩
   ·by_cases e:j=i
    ·subst e
     exact .inl ⟨b,by rw [h1];simp,by rw [h2];simp,q2⟩
    ·refine .inr ⟨by rw [h1];simp [e], ?_⟩
     rw [h2]
     have:Je seen j≠Je seen i:=fun h=>e (Yj hn hj hi h)
     simp [this]
  ·cases h
theorem Zr {seen:List Nat}:∀{l r:List (Nat×Option Blk)},jg8 seen l=some r→Jh r=(Jh l).map (Je seen)∧∀x∈r,∃j,j<seen.length∧x.1=Je seen j
 | [],r,h=>by simp only [jg8] at h;cases h;exact ⟨rfl,by simp⟩
 | (i,none)::l,r,h=>by simp only [jg8] at h;cases h
 | (i,some b)::l,r,h=>by
  simp only [jg8] at h
  split at h
  ·rename_i r' q1 q2 q3
   cases h
   have hi:i<seen.length:=by simpa [Nat.blt_eq] using q1
   obtain ⟨h1,h2⟩:=Zr q3
   refine ⟨by simp only [Jh,List.map_cons,h1],fun x hx=> ?_⟩
   rcases List.mem_cons.1 hx with rfl | hx
   ·exact ⟨i,hi,rfl⟩
   ·exact h2 x hx
  ·cases h
theorem yC {P:Program} {f:FuncId} {s:List LV→List Nat→List Blk→Nat→Option Dl} (hs:GenOK P f s):GenOK P f (jek s):=by
 intro args seen ks g nb p d E w hl hd hnd hc hrel hg hargs hn
 unfold jek at hd
 split at hd
 ·rename_i q1 q2 q3
  split at hd
  ·rename_i d0 hd0
   split at hd
   ·rename_i wr q4 hwr
    cases hd
    have hnod:seen.Nodup:=nodupB_iff.1 q1
    obtain ⟨hlen,hget⟩:=yA hl
    let E0:Env:=fun j=>if j<seen.length then E (Je seen j) else E (j - seen.length)
    have hE0:∀j,j<seen.length→E0 j=E (Je seen j):=fun j hj=>by simp only [E0,hj,if_true]
    have hρ:∀b,E0 (plcR seen b)=E b:=by
     intro b
     unfold plcR
     cases h:jnS b seen 0 with
     | none=>simp only [E0];rw [if_neg (by omega)];congr 1;omega
     | some j=>
      obtain ⟨-,h2,h3⟩:=Zq h
      simp only [Nat.zero_add,Nat.sub_zero] at h2 h3
      rw [hE0 j h2,h3]
    have hks:∀j,j<seen.length→∃b,ks[j]? = some b∧g (Je seen j)=some b:=fun j hj=>hget j _ (Yi hj)
    let g0:Nat→Option Blk:=fun j=>(ks.map (jdl (plcR seen)))[j]?
    have hg0:∀j b0,g0 j=some b0→j<seen.length∧∃b,b0=jdl (plcR seen) b∧g (Je seen j)=some b:=by
     intro j b0 h
     simp only [g0,List.getElem?_map] at h
     have hj:j<seen.length:=by
      rw [←hlen]
      cases h':ks[j]? with
      | none=>rw [h'] at h;cases h
      | some b=>exact (List.getElem?_eq_some_iff.1 h').1
     obtain ⟨b,h1,h2⟩:=hks j hj
     rw [h1] at h
     cases h
     exact ⟨hj,b,rfl,h2⟩
    have hgs:∀j,j<seen.length→∃b,g0 j=some (jdl (plcR seen) b)∧g (Je seen j)=some b:=by
     intro j hj
     obtain ⟨b,h1,h2⟩:=hks j hj
     exact ⟨b,by simp only [g0,List.getElem?_map,h1];rfl,h2⟩
    have hl0:jE g0 (jm7 0 seen.length)=some (ks.map (jdl (plcR seen))):=by
     have:=Qx (l:=ks.map (jdl (plcR seen))) (o:=0) (g:=g0) fun i hi=>by simp only [g0,Nat.zero_add]
     rwa [List.length_map,hlen] at this
    have hrel0:Rel E0 g0 w:=by
     refine ⟨fun j b0 h=> ?_,fun i j hi hj he=> ?_⟩
     ·obtain ⟨hj,b,rfl,hb⟩:=hg0 j b0 h
      obtain ⟨r,h1,h2,h3⟩:=hrel.blk _ b hb
      refine ⟨r, ?_,h2,fun hne=> ?_⟩
      ·rw [hE0 j hj]
       show w.heap[(E (Je seen j)).1]? = some (Obj.cells ((E (Je seen j)).pre++(jdk (plcR seen) b.cells).map (At.den E0)++r++(E (Je seen j)).suf).toArray ((E (Je seen j)).ty.getD b.ty) b.fr)
       rw [JS (ρ:=plcR seen) (E:=E) (E':=E0) hρ]
       exact h1
      ·rw [hE0 j hj]
       show (jdk (plcR seen) b.cells).length+r.length=_
       rw [Ql]
       exact h3 hne
     ·obtain ⟨bi,hbi⟩:=Option.isSome_iff_exists.1 hi
      obtain ⟨bj,hbj⟩:=Option.isSome_iff_exists.1 hj
      obtain ⟨hi',ci,-,hci⟩:=hg0 i bi hbi
      obtain ⟨hj',cj,-,hcj⟩:=hg0 j bj hbj
      rw [hE0 i hi',hE0 j hj'] at he
      exact Yj hnod hi' hj' (hrel.inj _ _ (by rw [hci];rfl) (by rw [hcj];rfl) he)
    obtain ⟨hk1,hk2⟩:=Zr hwr
    have hnd0:(Jh d0.wr).Nodup:=by
     have:((Jh d0.wr).map (Je seen)).Nodup:=by rw [←hk1];exact hnd
     exact (List.pairwise_map.1 this).imp fun h e=>h (congrArg _ e)
    have ep:(args.map (jjC (plcR seen))).map (LV.den E0)=args.map (LV.den E):=by
     rw [List.map_map]
     exact List.map_congr_left fun u _=>jcD (ρ:=plcR seen) (E:=E) (E':=E0) hρ u
    have key:=hs (args.map (jjC (plcR seen))) (jm7 0 seen.length) (ks.map (jdl (plcR seen))) g0 seen.length (ltB seen.length) d0 E0 w hl0 hd0 hnd0 hc hrel0 (fun i c h=>by
     obtain ⟨hi,b,rfl,-⟩:=hg0 i c h
     exact ⟨by simpa [ltB,Nat.blt_eq] using hi,okBs_iff.1 q3 _ (List.mem_of_getElem? h)⟩) (yg q2) (fun i h _=>by
     cases h':ltB seen.length i with
     | false=>rfl
     | true=>simp [ltB,Nat.blt_eq] at h';omega)
    rw [ep] at key
    have fin:∀v w',(∃E',v=d0.val.den E'∧Post w E0 g0 seen.length ⟨d0.val,d0.wr,d0.nw,[],[]⟩ E' w')→∃E',v=d0.val.den E'∧Post w E g nb ⟨d0.val,wr,[],[],[]⟩ E' w':=by
     rintro v w' ⟨E',rfl,hp⟩
     refine ⟨E,(km q4).trans (km q4).symm, ?_⟩
     have hE':∀j,j<seen.length→E' j=E (Je seen j):=fun j hj=>(hp.agree j (.inl hj)).trans (hE0 j hj)
     have hgk:∀i,(wrG g wr i).isSome→(g i).isSome:=by
      intro i hi
      obtain ⟨b,hb⟩:=Option.isSome_iff_exists.1 hi
      rcases Ky wr i b hb with h | ⟨x,hx,rfl,-⟩
      ·rw [h];rfl
      ·obtain ⟨j,hj,e⟩:=hk2 x hx
       obtain ⟨b',-,hb'⟩:=hgs j hj
       rw [e,hb'];rfl
     refine ⟨fun _ _=>rfl,⟨fun i b hib=> ?_,fun i j hi hj he=>hrel.inj i j (hgk i hi) (hgk j hj) he⟩,hp.os,hp.tape,hp.output,hp.size,fun b hb hne=>hp.frame b hb fun j hj=> ?_,fun i h1 h2=> ?_⟩
     ·have hib:wrG g wr i=some b:=hib
      by_cases hin:∃j,j<seen.length∧Je seen j=i
      ·obtain ⟨j,hj,rfl⟩:=hin
       rcases jb4 hnod hj (g:=g) (g0:=g0) hwr with ⟨b1,h1,h2,h3⟩ | ⟨h1,h2⟩
       ·rw [h2] at hib
        cases hib
        obtain ⟨r,u1,u2,u3⟩:=hp.rel.blk j b (by
         show nwG (wrG g0 d0.wr) seen.length d0.nw j=some b
         rw [qk _ _ _ (.inl hj)];exact h1)
        rw [hE' j hj] at u1 u3
        refine ⟨r, ?_,u2,u3⟩
        rw [qx (E:=E) h3,←qx (E:=E') h3]
        exact u1
       ·rw [h2] at hib
        obtain ⟨b0,v1,v2⟩:=hgs j hj
        rw [v2] at hib
        cases hib
        obtain ⟨r,u1,u2,u3⟩:=hp.rel.blk j (jdl (plcR seen) b) (by
         show nwG (wrG g0 d0.wr) seen.length d0.nw j=some _
         rw [qk _ _ _ (.inl hj),h1];exact v1)
        rw [hE' j hj] at u1 u3
        have hok:okL (ltB seen.length) (jdk (plcR seen) b.cells)=true:=okBs_iff.1 q3 (jdl (plcR seen) b) (List.mem_of_getElem? v1)
        have e1:(jdk (plcR seen) b.cells).map (At.den E')=b.cells.map (At.den E):=by
         rw [kk (p:=ltB seen.length) (E:=E0) (E':=E') (fun i hi=>hp.agree i (.inl (by simpa [ltB,Nat.blt_eq] using hi))) hok]
         exact JS (ρ:=plcR seen) (E:=E) (E':=E0) hρ b.cells
        refine ⟨r, ?_,u2,fun hne=> ?_⟩
        ·rw [←e1];exact u1
        ·have:=u3 hne
         rw [show (jdl (plcR seen) b).cells.length=b.cells.length from Ql _ _] at this
         exact this
      ·have hne:∀x∈wr,x.1≠i:=fun x hx e=>by
        obtain ⟨j,hj,e'⟩:=hk2 x hx
        exact hin ⟨j,hj,by rw [←e',e]⟩
       rw [qy wr i hne] at hib
       obtain ⟨r,u1,u2,u3⟩:=hrel.blk i b hib
       refine ⟨r, ?_,u2,u3⟩
       rw [hp.frame (E i).1 (Array.getElem?_eq_some_iff.1 u1).1 fun j hj he=> ?_]
       ·exact u1
       ·obtain ⟨bj,hbj⟩:=Option.isSome_iff_exists.1 hj
        obtain ⟨hj',cj,-,hcj⟩:=hg0 j bj hbj
        rw [hE0 j hj'] at he
        exact hin ⟨j,hj',hrel.inj _ _ (by rw [hcj];rfl) (by rw [hib];rfl) he⟩
     ·obtain ⟨bj,hbj⟩:=Option.isSome_iff_exists.1 hj
      obtain ⟨hj',cj,-,hcj⟩:=hg0 j bj hbj
      rw [hE0 j hj']
      exact hne _ (by rw [hcj];rfl)
     ·simp at h2;omega
    rcases key with ⟨fn,h1,h2,h3,h4⟩ | ⟨v,w',h1,h2⟩
    ·exact .inl ⟨fn,h1,h2,h3,h4.mono fun e w' he=>by
      obtain ⟨v,rfl,hv⟩:=he
      exact ⟨v,rfl,fin v w' hv⟩⟩
    ·exact .inr ⟨v,w',h1,fin v w' h2⟩
   ·cases hd
  ·cases hd
 ·cases hd
end Go.Lr

/- Summaries whose numbers are chosen (whatever they are), of functions that write blocks: their shape is told, off runs. -/
set_option linter.unusedVariables false
namespace Go.Lr
open Go.RowKit
def GenAt (P:Program) (f:FuncId) (args:List LV) (seen:List Nat) (ks:List Blk) (nb:Nat) (d:Dl):Prop:=
 ∀(g:Nat→Option Blk) (p:Nat→Bool) (E:Env) (w:World),jE g seen=some ks→(Jh d.wr).Nodup→Rel E g w→(∀i c,g i=some c→p i=true∧okL p c.cells=true)→(∀v∈args,v.ok p=true)→(∀i,nb≤i→i<nb+d.nw.length→p i=false)→
  CallOK P f (args.map (LV.den E)).toArray w fun v w'=>∃E',v=d.val.den E'∧Post w E g nb ⟨d.val,d.wr,d.nw,[],[]⟩ E' w'
theorem GenOK.at {P:Program} {f:FuncId} {s:List LV→List Nat→List Blk→Nat→Option Dl} (hs:GenOK P f s) {args:List LV} {seen:List Nat} {ks:List Blk} {nb:Nat} {d:Dl} (h:s args seen ks nb=some d) (hc:∀c∈d.cs,c.1=c.2):GenAt P f args seen ks nb d:=
 fun g p E w hl hnd hrel hg hargs hn=>hs args seen ks g nb p d E w hl h hnd hc hrel hg hargs hn
abbrev ShX:=(Nat→Int)→(Nat→Bool)→LV×List (Nat×Option Blk)
noncomputable def gxQ (P:Program) (f:FuncId) (args:List LV) (seen:List Nat) (ks:List Blk) (nb:Nat) (Sh:ShX):(Nat→Int)×(Nat→Bool)×List Blk:=
 @Classical.epsilon ((Nat→Int)×(Nat→Bool)×List Blk) ⟨(fun _=>0,fun _=>false,[])⟩ fun q=>GenAt P f args seen ks nb ⟨(Sh q.1 q.2.1).1,(Sh q.1 q.2.1).2,q.2.2,[],[]⟩
noncomputable def Xq (P:Program) (f:FuncId) (F:List LV→List Nat→List Blk→Nat→Option (List (Bool×Bool)×ShX)):List LV→List Nat→List Blk→Nat→Option Dl:=fun args seen ks nb=>
 match F args seen ks nb with
 | some (cs,Sh)=>some ⟨(Sh (gxQ P f args seen ks nb Sh).1 (gxQ P f args seen ks nb Sh).2.1).1,(Sh (gxQ P f args seen ks nb Sh).1 (gxQ P f args seen ks nb Sh).2.1).2,(gxQ P f args seen ks nb Sh).2.2,[],cs⟩
 | none=>none
theorem YG {P:Program} {f:FuncId} {F:List LV→List Nat→List Blk→Nat→Option (List (Bool×Bool)×ShX)}
  (h:∀args seen ks nb cs Sh,F args seen ks nb=some (cs,Sh)→(∀c∈cs,c.1=c.2)→∃v b nw,GenAt P f args seen ks nb ⟨(Sh v b).1,(Sh v b).2,nw,[],[]⟩):GenOK P f (Xq P f F):=by
 intro args seen ks g nb p d E w hl hd hnd hc hrel hg hargs hn
 unfold Xq at hd
 split at hd
 ·rename_i cs Sh hF
  cases hd
  obtain ⟨v,b,nw,hq⟩:=h args seen ks nb cs Sh hF hc
  have hq:=@Classical.epsilon_spec_aux ((Nat→Int)×(Nat→Bool)×List Blk) ⟨(fun _=>0,fun _=>false,[])⟩ (fun q=>GenAt P f args seen ks nb ⟨(Sh q.1 q.2.1).1,(Sh q.1 q.2.1).2,q.2.2,[],[]⟩) ⟨(v,b,nw),hq⟩
  exact hq g p E w hl hnd hrel hg hargs hn
 ·cases hd
theorem GenAt.of_run {P:Program} {S:FuncId→Option SumK} (hs:Sound P S) {f:FuncId} (ho:Own P f) {z:Md} {n:Nat} {dec:List (Option Bool)} {args:List LV} {seen:List Nat} {ks:List Blk} {nb:Nat} {mask:List Bool} {os:List (Bool×Bool)} {Sh:ShX}
  {vw:List (Nat×Option Blk)→Nat→Int} {bw:List (Nat×Option Blk)→Nat→Bool}
  (h:((kN P S z n f dec args seen ks nb).bind (fun d=>(yk mask d.cs).map (fun os=>(d.val,d.wr,os))),(kN P S z n f dec args seen ks nb).isSome)=((kN P S z n f dec args seen ks nb).map (fun d=>((Sh (vw d.wr) (bw d.wr)).1,(Sh (vw d.wr) (bw d.wr)).2,os)),true))
  (hos:∀c∈os,c.1=c.2):∃v b nw,GenAt P f args seen ks nb ⟨(Sh v b).1,(Sh v b).2,nw,[],[]⟩:=by
 cases hR:kN P S z n f dec args seen ks nb with
 | none=>rw [hR] at h;simp at h
 | some d=>
  rw [hR] at h
  simp only [Option.bind_some,Option.map_some,Option.isSome_some,Prod.mk.injEq,and_true] at h
  cases hm:yk mask d.cs with
  | none=>rw [hm] at h;simp at h
  | some os'=>
   rw [hm] at h
   simp only [Option.map_some,Option.some.injEq,Prod.mk.injEq] at h
   obtain ⟨h1,h2,h3⟩:=h
   subst h3
   have k:=(kR hs ho).at hR (zW hm hos)
   refine ⟨vw d.wr,bw d.wr,d.nw, ?_⟩
   rw [←h1,←h2]
   exact k
end Go.Lr

/- Laws that are handed slices: the blocks behind them, as the evaluator's memory. -/
namespace Go.Lr
set_option linter.unusedVariables false
open Go.ChangeShapes Go.WideShapes Go.ChangeAt Go.RowKit
def jh6:Value→At
 | .int k n=> .int k n
 | .bool b=> .bool b
 | v=> .opq v
def jlq (arr:Array Value):List At:=arr.toList.map jh6
structure RowL (arr:Array Value) (o cap:Nat) (zs:List Int):Prop where
 len:zs.length=cap
 le:o+cap≤arr.size
 at':∀i (h:i<cap),arr[o+i]? = some (.int .i64 (zs.getD i 0))
theorem RowL.atL {arr:Array Value} {o cap:Nat} {zs:List Int} (h:RowL arr o cap zs) {i:Nat} (hi:i<cap):(jlq arr)[o+i]? = some (.int .i64 (zs.getD i 0)):=by
 unfold jlq
 rw [List.getElem?_map,Array.getElem?_toList,h.at' i hi]
 rfl
theorem RowL.cut {arr:Array Value} {o cap:Nat} {zs:List Int} (h:RowL arr o cap zs) {p n:Nat} (hn:p+n≤cap):((jlq arr).drop (o+p)).take n=((zs.drop p).take n).map (At.int .i64):=by
 refine List.ext_getElem? fun i=> ?_
 by_cases hi:i<n
 ·rw [List.getElem?_take,if_pos hi,List.getElem?_drop,Nat.add_assoc,h.atL (i:=p+i) (by omega),List.getElem?_map,List.getElem?_take,if_pos hi,List.getElem?_drop,List.getD_eq_getElem?_getD]
  have:p+i<zs.length:=by have:=h.len;omega
  rw [List.getElem?_eq_getElem this]
  rfl
 ·rw [List.getElem?_take,if_neg hi,List.getElem?_map,List.getElem?_take,if_neg hi];rfl
section
variable {P:Program} {S:FuncId→Option SumK} {z:Md}
end
end Go.Lr

/- A law off a walk in pieces in which blocks change their numbers; lists of cells that name no block. -/
set_option linter.unusedVariables false
namespace Go.Lr
open Go.RowKit
section
variable {P:Program}
theorem jln {f:FuncId} {fn:Func} {c:Code} {args:List LV} {m:Mem} {nb N:Nat} {B:Kst→Prop} {v:LV} (hf:P.funcs[f]? = some fn) (hb:fn.body=some c)
  (hle:fn.ntmps≤60000) (hargs:args.length≤fn.ntmps) (hA:∀u∈args,u.ok (below nb)=true) (hm:ku nb m=true) (hz:∀i b,getM m i=some b→b.es=0) (hn:∀i b,getM m i=some b→i<N)
  (ho:∀i b,getM m i=some b→okL noP b.cells=true)
  (h:ToR P fn.ntmps N c ⟨kC 0 args,m,nb⟩ .ret B) (hres:∀x,B x→(∀dead,kx P fn.results.toList (getT (x.tm dead)) x.mem=some v)∧∀i b,getM m i=some b→getM x.mem i=some b) (hv:v.ok noP=true)
  (E:Env) (w:World) (hrel:Rel E (getM m) w):Calls P f (args.map (LV.den E)).toArray w fun e w'=>e = .returned (v.den E0)∧Below w.heap.size w w':=by
 obtain ⟨k1,k2⟩:=xS hm
 refine calls_of_wp hf hb (h E _ w ⟨⟨fun q hq=> ?_,(zL args 0).1,fun q hq=> ?_,k1,k2⟩,by simp;omega,hle,rfl,fun q hq=> ?_,hrel⟩ _ fun B0 hB E' a' w' hr' hx'=> ?_)
 ·have:=(kK args 0 q).1 hq
  have:=(List.getElem?_eq_some_iff.1 this.2).1
  omega
 ·exact hA q.2 (List.mem_of_getElem? ((kK args 0 q).1 hq).2)
 ·have:=((kK args 0 q).1 hq).2
  simp only [Nat.sub_zero] at this
  have hlt:=(List.getElem?_eq_some_iff.1 this).1
  simp only [Array.getD_eq_getD_getElem?,Array.getElem?_append,List.size_toArray,List.length_map]
  rw [if_pos hlt]
  simp [this]
 ·have hR:=hr'.toR []
  obtain ⟨hr1,hr2⟩:=hres B0 hB
  refine ⟨hr'.defers,v.den E',qV hR.m.rel hR.tm (hr1 _),by rw [km hv],hx'.os,hx'.tape,hx'.output,hx'.size,fun k hk=> ?_⟩
  by_cases hex:∃i b,getM m i=some b∧(E i).1=k
  ·obtain ⟨i,b,hi,rfl⟩:=hex
   obtain ⟨r,u1,u2,-⟩:=hrel.blk i b hi
   obtain ⟨r',v1,v2,-⟩:=hr'.rel.blk i b (hr2 i b hi)
   rw [hx'.agree i (hn i b hi),v2 (hz i b hi),qx (E:=E') (ho i b hi),←qx (E:=E) (ho i b hi)] at v1
   rw [u2 (hz i b hi)] at u1
   rw [u1,v1]
  ·refine hx'.frame k hk fun i hi e=>hex ?_
   obtain ⟨b,hb⟩:=Option.isSome_iff_exists.1 hi
   exact ⟨i,b,hb,e⟩
end
def xL:Nat→List Bool→List Bool
 | 0,l=>l
 | n+1,l=>false::xL n l
def zY:Nat→List Bool→List Bool
 | 0,l=>l
 | n+1,l=>true::zY n l
theorem w1 {x:Int} (h: -9223372036854775808≤x∧x<9223372036854775808):wr .i64 x=x:=by
 show w64 x=x
 unfold w64
 omega
end Go.Lr

/- Small helpers: lists of numbers held against one another; sums by formula. -/
namespace Go.Lr
set_option linter.unusedVariables false
def Yk:List Nat→List Nat→Bool
 | [],[]=>true
 | a::l,b::m=>match Nat.beq a b with
  | true=>Yk l m
  | false=>false
 | _,_=>false
theorem qA:∀{l m:List Nat},Yk l m=true→l=m
 | [],[],_=>rfl
 | [],_::_,h=>by simp [Yk] at h
 | _::_,[],h=>by simp [Yk] at h
 | a::l,b::m,h=>by
  unfold Yk at h
  split at h
  ·rename_i q
   rw [Nat.eq_of_beq_eq_true q,qA h]
  ·cases h
def jm8 (l:List (Nat×Option Blk)):Nat→Bool:=match l with
 | [(_,some k)]=>fun _=>bA (xe k.cells 0)
 | _=>fun _=>false
end Go.Lr

/- vec.Add of two or three vectors, by formula (its flag is chosen). -/
namespace Go.Proofs.YtnlhpaidmiogbaaGreat
open Go.Lr
set_option linter.unusedVariables false
def jCb (a:Nat→Int):LV:= .v (.agg [.int .i64 (fI2 (a 0) (a 3)),.int .i64 (fI2 (a 1) (a 4)),.int .i64 (fI2 (a 2) (a 5))])
def jCc (a:Nat→Int):Bool:=(xp (kQ [At.int IntKind.i64 (a 0),At.int IntKind.i64 (a 3)]))||(xp (kQ [At.int IntKind.i64 (a 1),At.int IntKind.i64 (a 4)]))||(xp (kQ [At.int IntKind.i64 (a 2),At.int IntKind.i64 (a 5)]))
def jzg (a:Nat→Int) (h:Bool):ShX:=fun v b=>(jCb a,[(1,some (flag 61 (bif jCc a then true else h)))])
def jqx (a:Nat→Int) (h:Bool):ShX:=fun v b=>(jCb a,[(1,some (flag 61 (h||(xp (kQ [At.int IntKind.i64 (a 0),At.int IntKind.i64 (a 3)]))||(xp (kQ [At.int IntKind.i64 (a 1),At.int IntKind.i64 (a 4)]))||(xp (kQ [At.int IntKind.i64 (a 2),At.int IntKind.i64 (a 5)])))))])
theorem jEz (a:Nat→Int) (h:Bool) (v:Nat→Int) (b:Nat→Bool):jqx a h v b=jzg a h v b:=by
 unfold jqx jzg jCc
 generalize (xp (kQ [At.int IntKind.i64 (a 0),At.int IntKind.i64 (a 3)]))=x
 generalize (xp (kQ [At.int IntKind.i64 (a 1),At.int IntKind.i64 (a 4)]))=y
 generalize (xp (kQ [At.int IntKind.i64 (a 2),At.int IntKind.i64 (a 5)]))=z
 cases h <;> cases x <;> cases y <;> cases z <;> rfl
theorem jEA (a:Nat→Int) (h:Bool):((kN Tryz.prog K4 Zl 4000 147 [] [.v (.one (.ptr 1 0)),.v (.one (.sl 0 0 2 2))] [0,1] [⟨37,(0,0),0,mkI a 0 6⟩,flag 61 h] 2).bind (fun d=>(yk (xL 9 []) d.cs).map (fun os=>(d.val,d.wr,os))),(kN Tryz.prog K4 Zl 4000 147 [] [.v (.one (.ptr 1 0)),.v (.one (.sl 0 0 2 2))] [0,1] [⟨37,(0,0),0,mkI a 0 6⟩,flag 61 h] 2).isSome)=((kN Tryz.prog K4 Zl 4000 147 [] [.v (.one (.ptr 1 0)),.v (.one (.sl 0 0 2 2))] [0,1] [⟨37,(0,0),0,mkI a 0 6⟩,flag 61 h] 2).map (fun d=>((jqx a h (fun _=>0) (jm8 d.wr)).1,(jqx a h (fun _=>0) (jm8 d.wr)).2,[])),true):=by kernel_rfl
def jCd (a:Nat→Int):LV:= .v (.agg [.int .i64 (fI3 (a 0) (a 3) (a 6)),.int .i64 (fI3 (a 1) (a 4) (a 7)),.int .i64 (fI3 (a 2) (a 5) (a 8))])
def jCe (a:Nat→Int):Bool:=(xp (kQ [At.int IntKind.i64 (a 0),At.int IntKind.i64 (a 3),At.int IntKind.i64 (a 6)]))||(xp (kQ [At.int IntKind.i64 (a 1),At.int IntKind.i64 (a 4),At.int IntKind.i64 (a 7)]))||(xp (kQ [At.int IntKind.i64 (a 2),At.int IntKind.i64 (a 5),At.int IntKind.i64 (a 8)]))
def jzh (a:Nat→Int) (h:Bool):ShX:=fun v b=>(jCd a,[(1,some (flag 61 (bif jCe a then true else h)))])
def jqy (a:Nat→Int) (h:Bool):ShX:=fun v b=>(jCd a,[(1,some (flag 61 (h||(xp (kQ [At.int IntKind.i64 (a 0),At.int IntKind.i64 (a 3),At.int IntKind.i64 (a 6)]))||(xp (kQ [At.int IntKind.i64 (a 1),At.int IntKind.i64 (a 4),At.int IntKind.i64 (a 7)]))||(xp (kQ [At.int IntKind.i64 (a 2),At.int IntKind.i64 (a 5),At.int IntKind.i64 (a 8)])))))])
theorem jEB (a:Nat→Int) (h:Bool) (v:Nat→Int) (b:Nat→Bool):jqy a h v b=jzh a h v b:=by
 unfold jqy jzh jCe
 generalize (xp (kQ [At.int IntKind.i64 (a 0),At.int IntKind.i64 (a 3),At.int IntKind.i64 (a 6)]))=x
 generalize (xp (kQ [At.int IntKind.i64 (a 1),At.int IntKind.i64 (a 4),At.int IntKind.i64 (a 7)]))=y
 generalize (xp (kQ [At.int IntKind.i64 (a 2),At.int IntKind.i64 (a 5),At.int IntKind.i64 (a 8)]))=z
 cases h <;> cases x <;> cases y <;> cases z <;> rfl
theorem jEC (a:Nat→Int) (h:Bool):((kN Tryz.prog K4 Zl 4000 147 [] [.v (.one (.ptr 1 0)),.v (.one (.sl 0 0 3 3))] [0,1] [⟨37,(0,0),0,mkI a 0 9⟩,flag 61 h] 2).bind (fun d=>(yk (xL 12 []) d.cs).map (fun os=>(d.val,d.wr,os))),(kN Tryz.prog K4 Zl 4000 147 [] [.v (.one (.ptr 1 0)),.v (.one (.sl 0 0 3 3))] [0,1] [⟨37,(0,0),0,mkI a 0 9⟩,flag 61 h] 2).isSome)=((kN Tryz.prog K4 Zl 4000 147 [] [.v (.one (.ptr 1 0)),.v (.one (.sl 0 0 3 3))] [0,1] [⟨37,(0,0),0,mkI a 0 9⟩,flag 61 h] 2).map (fun d=>((jqy a h (fun _=>0) (jm8 d.wr)).1,(jqy a h (fun _=>0) (jm8 d.wr)).2,[])),true):=by kernel_rfl
def vaF:List LV→List Nat→List Blk→Nat→Option (List (Bool×Bool)×ShX):=fun args seen ks nb=>
 match args,ks with
 | [.v (.one (.ptr c co)),.v (.one (.sl b o l k))],[⟨tt,(o1,o2),es,cells⟩,⟨tf,(f1,f2),ef,[.bool h]⟩]=>
  match Yk [c,co,b,o,tt,o1,o2,es,tf,f1,f2,ef,nb] [1,0,0,0,37,0,0,0,61,0,0,0,2],Yk seen [0,1] with
  | true,true=>match Yk [l,k] [2,2],qM cells 6 with
   | true,true=>some ([],jzg (jo cells) h)
   | _,_=>match Yk [l,k] [3,3],qM cells 9 with
    | true,true=>some ([],jzh (jo cells) h)
    | _,_=>none
  | _,_=>none
 | _,_=>none
theorem jED:GenOK Tryz.prog 147 (Xq Tryz.prog 147 vaF):=by
 refine YG fun args seen ks nb cs Sh hF hc=> ?_
 unfold vaF at hF
 split at hF
 ·rename_i c co b o l k tt o1 o2 es cells tf f1 f2 ef h
  split at hF
  ·rename_i g1 g2
   have e1:=qA g1
   have e2:=qA g2
   simp only [List.cons.injEq,and_true] at e1
   obtain ⟨rfl,rfl,rfl,rfl,rfl,rfl,rfl,rfl,rfl,rfl,rfl,rfl,rfl⟩:=e1
   subst e2
   split at hF
   ·rename_i q1 q2
    cases hF
    have e3:=qA q1
    simp only [List.cons.injEq,and_true] at e3
    obtain ⟨rfl,rfl⟩:=e3
    have ec:=(j6 q2).eq
    rw [←kl] at ec
    generalize jo cells=a at *
    rw [ec]
    obtain ⟨v,b,nw,k⟩:=GenAt.of_run (Sh:=jqx a h) (vw:=fun _ _=>0) (bw:=jm8) soundK4 (jg soundK4 Tryz.func147 (by kernel_rfl)) (jEA a h) (by simp)
    rw [jEz] at k
    exact ⟨v,b,nw,k⟩
   ·split at hF
    ·rename_i q1 q2
     cases hF
     have e3:=qA q1
     simp only [List.cons.injEq,and_true] at e3
     obtain ⟨rfl,rfl⟩:=e3
     have ec:=(j6 q2).eq
     rw [←kl] at ec
     generalize jo cells=a at *
     rw [ec]
     obtain ⟨v,b,nw,k⟩:=GenAt.of_run (Sh:=jqy a h) (vw:=fun _ _=>0) (bw:=jm8) soundK4 (jg soundK4 Tryz.func147 (by kernel_rfl)) (jEC a h) (by simp)
     rw [jEB] at k
     exact ⟨v,b,nw,k⟩
    ·cases hF
  ·cases hF
 ·cases hF
def vsG:List LV→Option LV
 | [.v (.agg [.int .i64 a,.int .i64 b,.int .i64 c]),.v (.one (.int .i64 k))]=>some (.v (.agg [.int .i64 (ko a k 30),.int .i64 (ko b k 30),.int .i64 (ko c k 30)]))
 | _=>none
theorem vsR (a b c k:Int) (hb:Bool):okY 61 ((jR Tryz.prog K2 Zl 4000 151 [A0,.v (.agg [.int .i64 a,.int .i64 b,.int .i64 c]),.v (.one (.int .i64 k))] [(0,flag 61 hb)] 1 []).map (fun r=>(r.1,getM r.2.1 0,r.2.2.2)))=some (.v (.agg [.int .i64 (ko a k 30),.int .i64 (ko b k 30),.int .i64 (ko c k 30)])):=by kernel_rfl
theorem jav:SumOK Tryz.prog 151 (jv 61 (fxF Tryz.prog 151 61 vsG)):=by
 refine jeP (z:=Zl) soundK2 (jg soundK2 Tryz.func151 (by kernel_rfl)) fun args v hb hF=> ?_
 unfold vsG at hF
 split at hF
 ·cases hF
  exact ⟨by kernel_rfl,4000,[],vsR _ _ _ _ hb⟩
 ·cases hF
noncomputable def vaD:List LV→List Nat→List Blk→Nat→Option Dl:=kA (xY 0 61 (jek (Xq Tryz.prog 147 vaF))) (jS Tryz.prog K4 Zl 4000 147)
theorem jgl:GenOK Tryz.prog 147 vaD:=jK (jY (yC jED)) (jl soundK4 (jg soundK4 Tryz.func147 (by kernel_rfl)))
noncomputable def KC1:FuncId→Option SumK:=moreG (more jvq 151 (jv 61 (fxF Tryz.prog 151 61 vsG))) 147 vaD
theorem soundKC1:Sound Tryz.prog KC1:=(soundK32u.more jav).moreG jgl
noncomputable def KC2:FuncId→Option SumK:=moreG KC1 179 (jS Tryz.prog KC1 Zl 4000 179)
theorem j5:Sound Tryz.prog KC2:=soundKC1.moreG (jl soundKC1 (jg soundKC1 Tryz.func179 (by kernel_rfl)))
end Go.Proofs.YtnlhpaidmiogbaaGreat

/- output.Correct: what it writes, whatever the numbers are (all outputs lie at or ahead of the time): the times stay. -/
namespace Go.Proofs.YtnlhpaidmiogbaaGreat
open Go.Lr
set_option linter.unusedVariables false
def coC (v:Nat→Int):Nat→Nat→List At→List At
 | _,_,[]=>[]
 | o,0,a::l=>a::coC v (o+1) 10 l
 | o,n+1,_::l=> .int .i64 (v o)::coC v (o+1) n l
def coA (t:Int):Nat→List (Bool×Bool)→List At→List (Bool×Bool)
 | _,acc,[]=>acc
 | 0,acc,.int .i64 T::l=>coA t 10 ((decide (T≤t),true)::acc) l
 | 0,acc,_::l=>coA t 10 acc l
 | n+1,acc,_::l=>coA t n acc l
def coB (t:Int) (o:Nat→Int):Nat→List (Bool×Bool)
 | 0=>[]
 | m+1=>(decide (o (11*m)≤t),true)::coB t o m
def coR (q0 q1 q2 q3 o0 o1 o2 o3:Int):Bool:=decide (mq0 (bif Kj q0 q1 q2 q3 then q0 else uV0 q0 q1 q2 q3) (bif Kj q0 q1 q2 q3 then q1 else uV1 q0 q1 q2 q3) (bif Kj q0 q1 q2 q3 then q2 else uV2 q0 q1 q2 q3) (bif Kj q0 q1 q2 q3 then q3 else uV3 q0 q1 q2 q3) (jc o0) (wr .i64 (0 - jc o1)) (wr .i64 (0 - jc o2)) (wr .i64 (0 - jc o3))<0)
def jnU (es:Nat) (cells:List At):ShX:=fun v b=>(I 0,[(0,some (flag 61 (b 0))),(1,some ⟨79,(0,0),es,coC v 0 0 cells⟩)])
def coV (l:List (Nat×Option Blk)):Nat→Int:=match l with
 | [_,(_,some k)]=>jo k.cells
 | _=>fun _=>0
def coG (l:List (Nat×Option Blk)):Nat→Bool:=match l with
 | [(_,some k),_]=>fun _=>bA (xe k.cells 0)
 | _=>fun _=>false
def coK (es:Nat) (sl:At) (cells:List At):Option Nat:=match sl with
 | .sl b o l c=>match Yk [b,o,l,c,es] [1,0,1,1,0],qM cells 11 with
  | true,true=>some 1
  | _,_=>none
 | .slu b m=>match Yk [b,es] [1,11],Nat.ble 2 m,Nat.ble m 15,qM cells (11*m) with
  | true,true,true,true=>some m
  | _,_,_,_=>none
 | _=>none
def coF:List LV→List Nat→List Blk→Nat→Option (List (Bool×Bool)×ShX):=fun args seen ks nb=>
 match args,ks with
 | [.v (.one (.ptr p po)),.v (.one (.ptr c co)),.v (.agg s),.v (.one (.int .i64 t))],[⟨tf,(f1,f2),ef,[.bool h]⟩,⟨tt,(o1,o2),es,cells⟩,⟨tp,(p1,p2),ep,[.int .i64 z,.int .i64 gn,sl]⟩]=>
  match Yk [p,po,c,co,tf,f1,f2,ef,tt,o1,o2,tp,p1,p2,ep,nb] [2,0,0,0,61,0,0,0,79,0,0,210,0,0,0,3],Yk seen [0,1,2],qM s 24,coK es sl cells with
  | true,true,true,some _=>some (coA t 0 [] cells,jnU es cells)
  | _,_,_,_=>none
 | _,_=>none
def coE (m:Nat):Nat:=match m with
 | 1=>0
 | _=>11
def coS (m:Nat):At:=match m with
 | 1=> .sl 1 0 1 1
 | _=> .slu 1 m
def jwp:Nat→List (Option Bool)→List (Option Bool)
 | 0,l=>l
 | m+1,l=>none::some true::jwp m l
def ju9 (s:Nat→Int) (t:Int):List LV:=[.v (.one (.ptr 2 0)),.v (.one (.ptr 0 0)),.v (.agg (mkI s 0 24)),.v (.one (.int .i64 t))]
def jva (m:Nat) (o:Nat→Int) (z gn:Int) (h:Bool):List Blk:=[flag 61 h,⟨79,(0,0),coE m,mkI o 0 (11*m)⟩,⟨210,(0,0),0,[.int .i64 z,.int .i64 gn,coS m]⟩]
noncomputable abbrev qw (b:Bool) (m:Nat) (o s:Nat→Int) (z gn t:Int) (h:Bool):Option Dl:=kN Tryz.prog KC2 Zl 4000 108 (jwp m (nn 3 (some b::none::some b::none::some b::[]))) (ju9 s t) [0,1,2] (jva m o z gn h) 3
def coL (m:Nat) (R:Option Dl):Option (LV×List (Nat×Option Blk)×List (Bool×Bool))×Bool:=(R.bind (fun d=>(yk (zY (3+m) []) d.cs).map (fun os=>(d.val,d.wr,os))),R.isSome)
def coQ (m:Nat) (o:Nat→Int) (os:List (Bool×Bool)) (R:Option Dl):Option (LV×List (Nat×Option Blk)×List (Bool×Bool))×Bool:=(R.map (fun d=>((jnU (coE m) (mkI o 0 (11*m)) (coV d.wr) (coG d.wr)).1,(jnU (coE m) (mkI o 0 (11*m)) (coV d.wr) (coG d.wr)).2,os)),true)
def coX (m:Nat) (o s:Nat→Int):Bool:=coR (s 0) (s 1) (s 2) (s 3) (o (11*m - 10)) (o (11*m - 9)) (o (11*m - 8)) (o (11*m - 7))
def jC3 (m:Nat) (o s:Nat→Int) (z gn t:Int) (h:Bool):Prop:=∃v b nw,GenAt Tryz.prog 108 (ju9 s t) [0,1,2] (jva m o z gn h) 3 ⟨(jnU (coE m) (mkI o 0 (11*m)) v b).1,(jnU (coE m) (mkI o 0 (11*m)) v b).2,nw,[],[]⟩
theorem qz {m:Nat} {o s:Nat→Int} {z gn t:Int} {h:Bool} (ht:coL m (qw true m o s z gn t h)=coQ m o (ra 3 (coX m o s,true) (coB t o m)) (qw true m o s z gn t h)) (hf:coL m (qw false m o s z gn t h)=coQ m o (ra 3 (coX m o s,false) (coB t o m)) (qw false m o s z gn t h))
  (hc:∀c∈coB t o m,c.1=c.2):jC3 m o s z gn t h:=by
 rcases ji (coX m o s) with hr | hr
 ·exact GenAt.of_run j5 (jg j5 Tryz.func108 (by kernel_rfl)) ht (jC hr hc _)
 ·exact GenAt.of_run j5 (jg j5 Tryz.func108 (by kernel_rfl)) hf (jC hr hc _)
theorem jC4 (o s:Nat→Int) (z gn t:Int) (h:Bool):coL 1 (qw false 1 o s z gn t h)=coQ 1 o (ra 3 (coX 1 o s,false) (coB t o 1)) (qw false 1 o s z gn t h):=by kernel_rfl
theorem jC5 (o s:Nat→Int) (z gn t:Int) (h:Bool):coL 1 (qw true 1 o s z gn t h)=coQ 1 o (ra 3 (coX 1 o s,true) (coB t o 1)) (qw true 1 o s z gn t h):=by kernel_rfl
theorem jC6 (o s:Nat→Int) (z gn t:Int) (h:Bool):coL 2 (qw false 2 o s z gn t h)=coQ 2 o (ra 3 (coX 2 o s,false) (coB t o 2)) (qw false 2 o s z gn t h):=by kernel_rfl
theorem jC7 (o s:Nat→Int) (z gn t:Int) (h:Bool):coL 2 (qw true 2 o s z gn t h)=coQ 2 o (ra 3 (coX 2 o s,true) (coB t o 2)) (qw true 2 o s z gn t h):=by kernel_rfl
theorem jC8 (o s:Nat→Int) (z gn t:Int) (h:Bool):coL 3 (qw false 3 o s z gn t h)=coQ 3 o (ra 3 (coX 3 o s,false) (coB t o 3)) (qw false 3 o s z gn t h):=by kernel_rfl
theorem jC9 (o s:Nat→Int) (z gn t:Int) (h:Bool):coL 3 (qw true 3 o s z gn t h)=coQ 3 o (ra 3 (coX 3 o s,true) (coB t o 3)) (qw true 3 o s z gn t h):=by kernel_rfl
theorem jDa (o s:Nat→Int) (z gn t:Int) (h:Bool):coL 4 (qw false 4 o s z gn t h)=coQ 4 o (ra 3 (coX 4 o s,false) (coB t o 4)) (qw false 4 o s z gn t h):=by kernel_rfl
theorem jDb (o s:Nat→Int) (z gn t:Int) (h:Bool):coL 4 (qw true 4 o s z gn t h)=coQ 4 o (ra 3 (coX 4 o s,true) (coB t o 4)) (qw true 4 o s z gn t h):=by kernel_rfl
theorem jDc (o s:Nat→Int) (z gn t:Int) (h:Bool):coL 5 (qw false 5 o s z gn t h)=coQ 5 o (ra 3 (coX 5 o s,false) (coB t o 5)) (qw false 5 o s z gn t h):=by kernel_rfl
theorem jDd (o s:Nat→Int) (z gn t:Int) (h:Bool):coL 5 (qw true 5 o s z gn t h)=coQ 5 o (ra 3 (coX 5 o s,true) (coB t o 5)) (qw true 5 o s z gn t h):=by kernel_rfl
theorem jDe (o s:Nat→Int) (z gn t:Int) (h:Bool):coL 6 (qw false 6 o s z gn t h)=coQ 6 o (ra 3 (coX 6 o s,false) (coB t o 6)) (qw false 6 o s z gn t h):=by kernel_rfl
theorem jDf (o s:Nat→Int) (z gn t:Int) (h:Bool):coL 6 (qw true 6 o s z gn t h)=coQ 6 o (ra 3 (coX 6 o s,true) (coB t o 6)) (qw true 6 o s z gn t h):=by kernel_rfl
theorem jDg (o s:Nat→Int) (z gn t:Int) (h:Bool):coL 7 (qw false 7 o s z gn t h)=coQ 7 o (ra 3 (coX 7 o s,false) (coB t o 7)) (qw false 7 o s z gn t h):=by kernel_rfl
theorem jDh (o s:Nat→Int) (z gn t:Int) (h:Bool):coL 7 (qw true 7 o s z gn t h)=coQ 7 o (ra 3 (coX 7 o s,true) (coB t o 7)) (qw true 7 o s z gn t h):=by kernel_rfl
theorem jDi (o s:Nat→Int) (z gn t:Int) (h:Bool):coL 8 (qw false 8 o s z gn t h)=coQ 8 o (ra 3 (coX 8 o s,false) (coB t o 8)) (qw false 8 o s z gn t h):=by kernel_rfl
theorem jDj (o s:Nat→Int) (z gn t:Int) (h:Bool):coL 8 (qw true 8 o s z gn t h)=coQ 8 o (ra 3 (coX 8 o s,true) (coB t o 8)) (qw true 8 o s z gn t h):=by kernel_rfl
theorem jDk (o s:Nat→Int) (z gn t:Int) (h:Bool):coL 9 (qw false 9 o s z gn t h)=coQ 9 o (ra 3 (coX 9 o s,false) (coB t o 9)) (qw false 9 o s z gn t h):=by kernel_rfl
theorem jDl (o s:Nat→Int) (z gn t:Int) (h:Bool):coL 9 (qw true 9 o s z gn t h)=coQ 9 o (ra 3 (coX 9 o s,true) (coB t o 9)) (qw true 9 o s z gn t h):=by kernel_rfl
theorem jwq (o s:Nat→Int) (z gn t:Int) (h:Bool):coL 10 (qw false 10 o s z gn t h)=coQ 10 o (ra 3 (coX 10 o s,false) (coB t o 10)) (qw false 10 o s z gn t h):=by kernel_rfl
theorem jwr (o s:Nat→Int) (z gn t:Int) (h:Bool):coL 10 (qw true 10 o s z gn t h)=coQ 10 o (ra 3 (coX 10 o s,true) (coB t o 10)) (qw true 10 o s z gn t h):=by kernel_rfl
theorem jws (o s:Nat→Int) (z gn t:Int) (h:Bool):coL 11 (qw false 11 o s z gn t h)=coQ 11 o (ra 3 (coX 11 o s,false) (coB t o 11)) (qw false 11 o s z gn t h):=by kernel_rfl
theorem jwt (o s:Nat→Int) (z gn t:Int) (h:Bool):coL 11 (qw true 11 o s z gn t h)=coQ 11 o (ra 3 (coX 11 o s,true) (coB t o 11)) (qw true 11 o s z gn t h):=by kernel_rfl
theorem jwu (o s:Nat→Int) (z gn t:Int) (h:Bool):coL 12 (qw false 12 o s z gn t h)=coQ 12 o (ra 3 (coX 12 o s,false) (coB t o 12)) (qw false 12 o s z gn t h):=by kernel_rfl
theorem jwv (o s:Nat→Int) (z gn t:Int) (h:Bool):coL 12 (qw true 12 o s z gn t h)=coQ 12 o (ra 3 (coX 12 o s,true) (coB t o 12)) (qw true 12 o s z gn t h):=by kernel_rfl
theorem jww (o s:Nat→Int) (z gn t:Int) (h:Bool):coL 13 (qw false 13 o s z gn t h)=coQ 13 o (ra 3 (coX 13 o s,false) (coB t o 13)) (qw false 13 o s z gn t h):=by kernel_rfl
theorem jwx (o s:Nat→Int) (z gn t:Int) (h:Bool):coL 13 (qw true 13 o s z gn t h)=coQ 13 o (ra 3 (coX 13 o s,true) (coB t o 13)) (qw true 13 o s z gn t h):=by kernel_rfl
theorem jwy (o s:Nat→Int) (z gn t:Int) (h:Bool):coL 14 (qw false 14 o s z gn t h)=coQ 14 o (ra 3 (coX 14 o s,false) (coB t o 14)) (qw false 14 o s z gn t h):=by kernel_rfl
theorem jwz (o s:Nat→Int) (z gn t:Int) (h:Bool):coL 14 (qw true 14 o s z gn t h)=coQ 14 o (ra 3 (coX 14 o s,true) (coB t o 14)) (qw true 14 o s z gn t h):=by kernel_rfl
theorem jwA (o s:Nat→Int) (z gn t:Int) (h:Bool):coL 15 (qw false 15 o s z gn t h)=coQ 15 o (ra 3 (coX 15 o s,false) (coB t o 15)) (qw false 15 o s z gn t h):=by kernel_rfl
theorem jwB (o s:Nat→Int) (z gn t:Int) (h:Bool):coL 15 (qw true 15 o s z gn t h)=coQ 15 o (ra 3 (coX 15 o s,true) (coB t o 15)) (qw true 15 o s z gn t h):=by kernel_rfl
theorem jDm:GenOK Tryz.prog 108 (Xq Tryz.prog 108 coF):=by
 refine YG fun args seen ks nb cs Sh hF hc=> ?_
 unfold coF at hF
 split at hF
 ·rename_i p po c co s t tf f1 f2 ef h tt o1 o2 es cells tp p1 p2 ep z gn sl
  split at hF
  ·rename_i m g1 g2 g3 g4
   cases hF
   have e1:=qA g1
   have e2:=qA g2
   simp only [List.cons.injEq,and_true] at e1
   obtain ⟨rfl,rfl,rfl,rfl,rfl,rfl,rfl,rfl,rfl,rfl,rfl,rfl,rfl,rfl,rfl,rfl⟩:=e1
   subst e2
   have es':=(j6 g3).eq
   rw [←kl] at es'
   rw [es']
   unfold coK at g4
   split at g4
   ·rename_i b o l c
    split at g4
    ·rename_i q1 q2
     have e3:=qA q1
     simp only [List.cons.injEq,and_true] at e3
     obtain ⟨rfl,rfl,rfl,rfl,rfl⟩:=e3
     have ec:=(j6 q2).eq
     rw [←kl] at ec
     rw [ec] at hc ⊢
     exact qz (m:=1) (jC5 _ _ _ _ _ _) (jC4 _ _ _ _ _ _) hc
    ·cases g4
   ·rename_i b m'
    split at g4
    ·rename_i q1 q2 q3 q4
     have e3:=qA q1
     simp only [List.cons.injEq,and_true] at e3
     obtain ⟨rfl,rfl⟩:=e3
     have q2:=Nat.le_of_ble_eq_true q2
     have q3:=Nat.le_of_ble_eq_true q3
     have ec:=(j6 q4).eq
     rw [←kl] at ec
     rw [ec] at hc ⊢
     obtain rfl | rfl | rfl | rfl | rfl | rfl | rfl | rfl | rfl | rfl | rfl | rfl | rfl | rfl:m'=2∨m'=3∨m'=4∨m'=5∨m'=6∨m'=7∨m'=8∨m'=9∨m'=10∨m'=11∨m'=12∨m'=13∨m'=14∨m'=15:=by omega
     ·exact qz (m:=2) (jC7 _ _ _ _ _ _) (jC6 _ _ _ _ _ _) hc
     ·exact qz (m:=3) (jC9 _ _ _ _ _ _) (jC8 _ _ _ _ _ _) hc
     ·exact qz (m:=4) (jDb _ _ _ _ _ _) (jDa _ _ _ _ _ _) hc
     ·exact qz (m:=5) (jDd _ _ _ _ _ _) (jDc _ _ _ _ _ _) hc
     ·exact qz (m:=6) (jDf _ _ _ _ _ _) (jDe _ _ _ _ _ _) hc
     ·exact qz (m:=7) (jDh _ _ _ _ _ _) (jDg _ _ _ _ _ _) hc
     ·exact qz (m:=8) (jDj _ _ _ _ _ _) (jDi _ _ _ _ _ _) hc
     ·exact qz (m:=9) (jDl _ _ _ _ _ _) (jDk _ _ _ _ _ _) hc
     ·exact qz (m:=10) (jwr _ _ _ _ _ _) (jwq _ _ _ _ _ _) hc
     ·exact qz (m:=11) (jwt _ _ _ _ _ _) (jws _ _ _ _ _ _) hc
     ·exact qz (m:=12) (jwv _ _ _ _ _ _) (jwu _ _ _ _ _ _) hc
     ·exact qz (m:=13) (jwx _ _ _ _ _ _) (jww _ _ _ _ _ _) hc
     ·exact qz (m:=14) (jwz _ _ _ _ _ _) (jwy _ _ _ _ _ _) hc
     ·exact qz (m:=15) (jwB _ _ _ _ _ _) (jwA _ _ _ _ _ _) hc
    ·cases g4
   ·cases g4
  ·cases hF
 ·cases hF
end Go.Proofs.YtnlhpaidmiogbaaGreat

/- jac.Step: opaque; what calls strap.Step, over its formula. -/
namespace Go.Proofs.YtnlhpaidmiogbaaGreat
open Go.Lr
set_option linter.unusedVariables false
def jxk:List LV→Bool
 | [.v (.agg la),.v (.agg lb)]=>qM la 24&&qM lb 8
 | _=>false
theorem jDy (a b:Nat→Int) (hb:Bool):okX 61 576 ((jR Tryz.prog jvs Zl 20000 159 [A0,.v (.agg (mkI a 0 24)),.v (.agg (mkI b 0 8))] [(0,flag 61 hb)] 1 []).map (fun r=>(r.1,getM r.2.1 0,r.2.2.2)))=true:=by kernel_rfl
theorem jDz:SumOK Tryz.prog 159 (jv 61 (exF Tryz.prog 159 61 jxk 576)):=by
 refine jaW (z:=Zl) soundK37u (jg soundK37u Tryz.func159 (by kernel_rfl)) fun args hb hok=> ?_
 unfold jxk at hok
 split at hok
 ·simp only [Bool.and_eq_true] at hok
  have ea:=(j6 hok.1).eq
  rw [←kl] at ea
  have eb:=(j6 hok.2).eq
  rw [←kl] at eb
  rw [ea,eb]
  exact ⟨20000,[],jDy _ _ hb⟩
 ·cases hok
noncomputable def J1:FuncId→Option SumK:=more jvs 159 (jv 61 (exF Tryz.prog 159 61 jxk 576))
theorem soundJ1:Sound Tryz.prog J1:=soundK37u.more jDz
noncomputable def J2:FuncId→Option SumK:=more J1 160 (jv 61 (Jd Tryz.prog J1 Zl 4000 160 61))
theorem jeO:Sound Tryz.prog J2:=soundJ1.more (kU soundJ1 (jg soundJ1 Tryz.func160 (by kernel_rfl)))
def jxl:List LV→Bool
 | [.v (.agg la),.v (.agg lb),.v (.agg lc),.v (.agg ld)]=>qM la 300&&qM lb 24&&qM lc 8&&qM ld 24
 | _=>false
theorem jDA (a b c d:Nat→Int) (hb:Bool):okX 61 300 ((jR Tryz.prog J2 Zl 20000 101 [A0,.v (.agg (mkI a 0 300)),.v (.agg (mkI b 0 24)),.v (.agg (mkI c 0 8)),.v (.agg (mkI d 0 24))] [(0,flag 61 hb)] 1 []).map (fun r=>(r.1,getM r.2.1 0,r.2.2.2)))=true:=by kernel_rfl
theorem jDB:SumOK Tryz.prog 101 (jv 61 (exF Tryz.prog 101 61 jxl 300)):=by
 refine jaW (z:=Zl) jeO (jg jeO Tryz.func101 (by kernel_rfl)) fun args hb hok=> ?_
 unfold jxl at hok
 split at hok
 ·simp only [Bool.and_eq_true] at hok
  have ea:=(j6 hok.1.1.1).eq
  rw [←kl] at ea
  have eb:=(j6 hok.1.1.2).eq
  rw [←kl] at eb
  have ec:=(j6 hok.1.2).eq
  rw [←kl] at ec
  have ed:=(j6 hok.2).eq
  rw [←kl] at ed
  rw [ea,eb,ec,ed]
  exact ⟨20000,[],jDA _ _ _ _ hb⟩
 ·cases hok
noncomputable def GF1:FuncId→Option SumK:=more (more G3 98 (jv 61 (fxF Tryz.prog 98 61 jeQ))) 101 (jv 61 (exF Tryz.prog 101 61 jxl 300))
theorem soundGF1:Sound Tryz.prog GF1:=(soundG3.more jcd).more jDB
noncomputable def KPf:FuncId→Option SumK:=more jpR 98 (jv 61 (fxF Tryz.prog 98 61 jeQ))
theorem Qh:Sound Tryz.prog KPf:=soundK27u.more jcd
noncomputable def GF2:FuncId→Option SumK:=moreG GF1 47 (kA (xY 1 61 (jS Tryz.prog KPf Zl 4000 47)) (jS Tryz.prog KPf Zl 4000 47))
theorem soundGF2:Sound Tryz.prog GF2:=soundGF1.moreG (jK (jY (jl Qh (jg Qh Tryz.func47 (by kernel_rfl)))) (jl Qh (jg Qh Tryz.func47 (by kernel_rfl))))
end Go.Proofs.YtnlhpaidmiogbaaGreat

/- The filter over all that: Correct opaque. -/
namespace Go.Proofs.YtnlhpaidmiogbaaGreat
open Go.Lr
set_option linter.unusedVariables false
noncomputable def coD:List LV→List Nat→List Blk→Nat→Option Dl:=kA (xY 1 61 (jek (Xq Tryz.prog 108 coF))) (jS Tryz.prog KC2 Zl 4000 108)
theorem jpO:GenOK Tryz.prog 108 coD:=jK (jY (yC jDm)) (jl j5 (jg j5 Tryz.func108 (by kernel_rfl)))
noncomputable def GX1:FuncId→Option SumK:=moreG (moreG (more GF2 151 (jv 61 (fxF Tryz.prog 151 61 vsG))) 147 vaD) 108 coD
theorem soundGX1:Sound Tryz.prog GX1:=((soundGF2.more jav).moreG jgl).moreG jpO
noncomputable def KP1:FuncId→Option SumK:=moreG KPg 147 vaD
theorem soundKP1:Sound Tryz.prog KP1:=soundKPg.moreG jgl
noncomputable def KP2:FuncId→Option SumK:=more KP1 96 (jv 61 (Jd Tryz.prog KP1 Zl 2000 96 61))
theorem jco:Sound Tryz.prog KP2:=soundKP1.more (kU soundKP1 (jg soundKP1 Tryz.func96 (by kernel_rfl)))
noncomputable def GX2:FuncId→Option SumK:=moreG GX1 46 (xY 1 61 (jS Tryz.prog KP2 Zl 4000 46))
theorem soundGX2:Sound Tryz.prog GX2:=soundGX1.moreG (jY (jl jco (jg jco Tryz.func46 (by kernel_rfl))))
end Go.Proofs.YtnlhpaidmiogbaaGreat

/- Summaries of what the laws of an aided filter JO: samples, the heading, jumps. -/
namespace Go.Proofs.YtnlhpaidmiogbaaGreat
open Go.Lr
set_option linter.unusedVariables false
noncomputable def AS0:FuncId→Option SumK:=more GX2 122 (yq Tryz.prog GX2 Zl 9000 122)
theorem soundAS0:Sound Tryz.prog AS0:=soundGX2.more (kv soundGX2 (jg soundGX2 Tryz.func122 (by kernel_rfl)))
noncomputable def AS1:FuncId→Option SumK:=more AS0 123 (yq Tryz.prog AS0 Zl 9000 123)
theorem soundAS1:Sound Tryz.prog AS1:=soundAS0.more (kv soundAS0 (jg soundAS0 Tryz.func123 (by kernel_rfl)))
noncomputable def AS2:FuncId→Option SumK:=more AS1 186 (yq Tryz.prog AS1 Zl 9000 186)
theorem soundAS2:Sound Tryz.prog AS2:=soundAS1.more (kv soundAS1 (jg soundAS1 Tryz.func186 (by kernel_rfl)))
noncomputable def AS3:FuncId→Option SumK:=more AS2 125 (yq Tryz.prog AS2 Zl 9000 125)
theorem soundAS3:Sound Tryz.prog AS3:=soundAS2.more (kv soundAS2 (jg soundAS2 Tryz.func125 (by kernel_rfl)))
noncomputable def AS4:FuncId→Option SumK:=moreG AS3 79 (jS Tryz.prog AS3 ⟨false,false,false⟩ 20000 79)
theorem soundAS4:Sound Tryz.prog AS4:=soundAS3.moreG (jl soundAS3 (jg soundAS3 Tryz.func79 (by kernel_rfl)))
noncomputable def AS5:FuncId→Option SumK:=moreG AS4 80 (jS Tryz.prog AS4 ⟨false,false,false⟩ 20000 80)
theorem soundAS5:Sound Tryz.prog AS5:=soundAS4.moreG (jl soundAS4 (jg soundAS4 Tryz.func80 (by kernel_rfl)))
noncomputable def AS6:FuncId→Option SumK:=moreG AS5 36 (kA (xY 0 61 (jS Tryz.prog AS5 Zl 20000 36)) (jS Tryz.prog AS5 Zl 20000 36))
theorem soundAS6:Sound Tryz.prog AS6:=soundAS5.moreG (jK (jY (jl soundAS5 (jg soundAS5 Tryz.func36 (by kernel_rfl)))) (jl soundAS5 (jg soundAS5 Tryz.func36 (by kernel_rfl))))
noncomputable def AS7:FuncId→Option SumK:=moreG AS6 206 (jS Tryz.prog AS6 ⟨false,false,false⟩ 20000 206)
theorem soundAS7:Sound Tryz.prog AS7:=soundAS6.moreG (jl soundAS6 (jg soundAS6 Tryz.func206 (by kernel_rfl)))
noncomputable def AS8:FuncId→Option SumK:=moreG AS7 236 (kA (xY 0 61 (jS Tryz.prog AS7 Zl 20000 236)) (jS Tryz.prog AS7 Zl 20000 236))
theorem soundAS8:Sound Tryz.prog AS8:=soundAS7.moreG (jK (jY (jl soundAS7 (jg soundAS7 Tryz.func236 (by kernel_rfl)))) (jl soundAS7 (jg soundAS7 Tryz.func236 (by kernel_rfl))))
noncomputable def AS9:FuncId→Option SumK:=moreG AS8 205 (kA (xY 0 61 (jS Tryz.prog AS8 Zl 20000 205)) (jS Tryz.prog AS8 Zl 20000 205))
theorem soundAS9:Sound Tryz.prog AS9:=soundAS8.moreG (jK (jY (jl soundAS8 (jg soundAS8 Tryz.func205 (by kernel_rfl)))) (jl soundAS8 (jg soundAS8 Tryz.func205 (by kernel_rfl))))
noncomputable def juV:FuncId→Option SumK:=moreG AS9 70 (kA (xY 0 61 (jS Tryz.prog AS9 Zl 20000 70)) (jS Tryz.prog AS9 Zl 20000 70))
theorem soundAS10:Sound Tryz.prog juV:=soundAS9.moreG (jK (jY (jl soundAS9 (jg soundAS9 Tryz.func70 (by kernel_rfl)))) (jl soundAS9 (jg soundAS9 Tryz.func70 (by kernel_rfl))))
noncomputable def juW:FuncId→Option SumK:=moreG juV 207 (kA (xY 0 61 (jS Tryz.prog juV Zl 20000 207)) (jS Tryz.prog juV Zl 20000 207))
theorem soundAS11:Sound Tryz.prog juW:=soundAS10.moreG (jK (jY (jl soundAS10 (jg soundAS10 Tryz.func207 (by kernel_rfl)))) (jl soundAS10 (jg soundAS10 Tryz.func207 (by kernel_rfl))))
noncomputable def juX:FuncId→Option SumK:=moreG juW 249 (kA (xY 0 61 (jS Tryz.prog juW Zl 20000 249)) (jS Tryz.prog juW Zl 20000 249))
theorem soundAS12:Sound Tryz.prog juX:=soundAS11.moreG (jK (jY (jl soundAS11 (jg soundAS11 Tryz.func249 (by kernel_rfl)))) (jl soundAS11 (jg soundAS11 Tryz.func249 (by kernel_rfl))))
noncomputable def juY:FuncId→Option SumK:=moreG juX 237 (kA (xY 0 61 (jS Tryz.prog juX Zl 20000 237)) (jS Tryz.prog juX Zl 20000 237))
theorem soundAS13:Sound Tryz.prog juY:=soundAS12.moreG (jK (jY (jl soundAS12 (jg soundAS12 Tryz.func237 (by kernel_rfl)))) (jl soundAS12 (jg soundAS12 Tryz.func237 (by kernel_rfl))))
noncomputable def juZ:FuncId→Option SumK:=moreG juY 238 (kA (xY 0 61 (jS Tryz.prog juY Zl 20000 238)) (jS Tryz.prog juY Zl 20000 238))
theorem soundAS14:Sound Tryz.prog juZ:=soundAS13.moreG (jK (jY (jl soundAS13 (jg soundAS13 Tryz.func238 (by kernel_rfl)))) (jl soundAS13 (jg soundAS13 Tryz.func238 (by kernel_rfl))))
noncomputable def ju0:FuncId→Option SumK:=moreG juZ 239 (kA (xY 0 61 (jS Tryz.prog juZ Zl 20000 239)) (jS Tryz.prog juZ Zl 20000 239))
theorem soundAS15:Sound Tryz.prog ju0:=soundAS14.moreG (jK (jY (jl soundAS14 (jg soundAS14 Tryz.func239 (by kernel_rfl)))) (jl soundAS14 (jg soundAS14 Tryz.func239 (by kernel_rfl))))
noncomputable def jvO:FuncId→Option SumK:=moreG ju0 23 (kA (xY 1 61 (kN Tryz.prog ju0 ⟨false,false,false⟩ 20000 23 (tt 16 (nn 5 (ff 2 []))))) (kN Tryz.prog ju0 ⟨false,false,false⟩ 20000 23 (tt 16 (nn 5 (ff 2 [])))))
theorem soundAS16:Sound Tryz.prog jvO:=soundAS15.moreG (jK (jY (kR soundAS15 (jg soundAS15 Tryz.func23 (by kernel_rfl)))) (kR soundAS15 (jg soundAS15 Tryz.func23 (by kernel_rfl))))
noncomputable def jvP:FuncId→Option SumK:=moreG jvO 243 (jS Tryz.prog jvO ⟨false,false,false⟩ 20000 243)
theorem soundAS17:Sound Tryz.prog jvP:=soundAS16.moreG (jl soundAS16 (jg soundAS16 Tryz.func243 (by kernel_rfl)))
noncomputable def ju1:FuncId→Option SumK:=more jvP 217 (yq Tryz.prog jvP Zl 9000 217)
theorem soundAS18:Sound Tryz.prog ju1:=soundAS17.more (kv soundAS17 (jg soundAS17 Tryz.func217 (by kernel_rfl)))
noncomputable def ju2:FuncId→Option SumK:=moreG ju1 68 (kA (xY 0 61 (jS Tryz.prog ju1 Zl 20000 68)) (jS Tryz.prog ju1 Zl 20000 68))
theorem soundAS19:Sound Tryz.prog ju2:=soundAS18.moreG (jK (jY (jl soundAS18 (jg soundAS18 Tryz.func68 (by kernel_rfl)))) (jl soundAS18 (jg soundAS18 Tryz.func68 (by kernel_rfl))))
noncomputable def ju3:FuncId→Option SumK:=moreG ju2 69 (kA (xY 0 61 (jS Tryz.prog ju2 Zl 20000 69)) (jS Tryz.prog ju2 Zl 20000 69))
theorem soundAS20:Sound Tryz.prog ju3:=soundAS19.moreG (jK (jY (jl soundAS19 (jg soundAS19 Tryz.func69 (by kernel_rfl)))) (jl soundAS19 (jg soundAS19 Tryz.func69 (by kernel_rfl))))
noncomputable def ju4:FuncId→Option SumK:=moreG ju3 67 (kA (xY 0 61 (kN Tryz.prog ju3 Zl 20000 67 (nn 1 (ff 4 (nn 1 (ff 4 (nn 17 (tt 16 (nn 9 []))))))))) (kN Tryz.prog ju3 Zl 20000 67 (nn 1 (ff 4 (nn 1 (ff 4 (nn 17 (tt 16 (nn 9 [])))))))))
theorem soundAS21:Sound Tryz.prog ju4:=soundAS20.moreG (jK (jY (kR soundAS20 (jg soundAS20 Tryz.func67 (by kernel_rfl)))) (kR soundAS20 (jg soundAS20 Tryz.func67 (by kernel_rfl))))
noncomputable def ju5:FuncId→Option SumK:=moreG ju4 165 (kA (xY 0 61 (jS Tryz.prog ju4 Zl 20000 165)) (jS Tryz.prog ju4 Zl 20000 165))
theorem soundAS22:Sound Tryz.prog ju5:=soundAS21.moreG (jK (jY (jl soundAS21 (jg soundAS21 Tryz.func165 (by kernel_rfl)))) (jl soundAS21 (jg soundAS21 Tryz.func165 (by kernel_rfl))))
noncomputable def jvQ:FuncId→Option SumK:=moreG ju5 166 (kA (xY 0 61 (jS Tryz.prog ju5 Zl 20000 166)) (jS Tryz.prog ju5 Zl 20000 166))
theorem soundAS23:Sound Tryz.prog jvQ:=soundAS22.moreG (jK (jY (jl soundAS22 (jg soundAS22 Tryz.func166 (by kernel_rfl)))) (jl soundAS22 (jg soundAS22 Tryz.func166 (by kernel_rfl))))
noncomputable def jvR:FuncId→Option SumK:=moreG jvQ 164 (jS Tryz.prog jvQ ⟨false,false,false⟩ 20000 164)
theorem soundAS24:Sound Tryz.prog jvR:=soundAS23.moreG (jl soundAS23 (jg soundAS23 Tryz.func164 (by kernel_rfl)))
noncomputable def ju6:FuncId→Option SumK:=moreG jvR 176 (jS Tryz.prog jvR ⟨false,false,false⟩ 20000 176)
theorem soundAS25:Sound Tryz.prog ju6:=soundAS24.moreG (jl soundAS24 (jg soundAS24 Tryz.func176 (by kernel_rfl)))
noncomputable def ju7:FuncId→Option SumK:=moreG ju6 106 (kA (xY 1 61 (jS Tryz.prog ju6 ⟨false,false,false⟩ 20000 106)) (jS Tryz.prog ju6 ⟨false,false,false⟩ 20000 106))
theorem soundAS26:Sound Tryz.prog ju7:=soundAS25.moreG (jK (jY (jl soundAS25 (jg soundAS25 Tryz.func106 (by kernel_rfl)))) (jl soundAS25 (jg soundAS25 Tryz.func106 (by kernel_rfl))))
noncomputable def jvS:FuncId→Option SumK:=moreG ju7 107 (kA (xY 0 61 (jS Tryz.prog ju7 Zl 20000 107)) (jS Tryz.prog ju7 Zl 20000 107))
theorem soundAS27:Sound Tryz.prog jvS:=soundAS26.moreG (jK (jY (jl soundAS26 (jg soundAS26 Tryz.func107 (by kernel_rfl)))) (jl soundAS26 (jg soundAS26 Tryz.func107 (by kernel_rfl))))
noncomputable def jvT:FuncId→Option SumK:=moreG jvS 73 (jS Tryz.prog jvS ⟨false,false,false⟩ 20000 73)
theorem soundAS28:Sound Tryz.prog jvT:=soundAS27.moreG (jl soundAS27 (jg soundAS27 Tryz.func73 (by kernel_rfl)))
noncomputable def jvU:FuncId→Option SumK:=moreG jvT 75 (jS Tryz.prog jvT ⟨false,false,false⟩ 20000 75)
theorem soundAS29:Sound Tryz.prog jvU:=soundAS28.moreG (jl soundAS28 (jg soundAS28 Tryz.func75 (by kernel_rfl)))
noncomputable def jvV:FuncId→Option SumK:=moreG jvU 33 (jS Tryz.prog jvU ⟨false,false,false⟩ 20000 33)
theorem soundAS30:Sound Tryz.prog jvV:=soundAS29.moreG (jl soundAS29 (jg soundAS29 Tryz.func33 (by kernel_rfl)))
noncomputable def jja:FuncId→Option SumK:=moreG jvV 11 (jS Tryz.prog jvV ⟨false,false,false⟩ 20000 11)
theorem soundAS31:Sound Tryz.prog jja:=soundAS30.moreG (jl soundAS30 (jg soundAS30 Tryz.func11 (by kernel_rfl)))
end Go.Proofs.YtnlhpaidmiogbaaGreat
