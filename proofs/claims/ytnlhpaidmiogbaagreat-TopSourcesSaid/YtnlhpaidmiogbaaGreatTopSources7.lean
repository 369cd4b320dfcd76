/- Joined texts. What each part proves stands ahead of it; no condition. -/
import Derived.Test.YtnlhpaidmiogbaaGreatLrM6

/- Summaries of what the laws of an aided filter reach: samples, the heading, jumps. -/
namespace Go.Proofs.YtnlhpaidmiogbaaGreat
open Go.Lr
set_option linter.unusedVariables false
noncomputable def AD0:FuncId→Option SumK:=more GX2 122 (autoP Tryz.prog GX2 Zl 9000 122)
theorem soundAD0:Sound Tryz.prog AD0:=soundGX2.more (autoP_ok soundGX2 (own_of soundGX2 Tryz.func122 (by kernel_rfl)))
noncomputable def AD1:FuncId→Option SumK:=more AD0 123 (autoP Tryz.prog AD0 Zl 9000 123)
theorem soundAD1:Sound Tryz.prog AD1:=soundAD0.more (autoP_ok soundAD0 (own_of soundAD0 Tryz.func123 (by kernel_rfl)))
noncomputable def AD2:FuncId→Option SumK:=more AD1 186 (autoP Tryz.prog AD1 Zl 9000 186)
theorem soundAD2:Sound Tryz.prog AD2:=soundAD1.more (autoP_ok soundAD1 (own_of soundAD1 Tryz.func186 (by kernel_rfl)))
noncomputable def AD3:FuncId→Option SumK:=more AD2 125 (autoP Tryz.prog AD2 Zl 9000 125)
theorem soundAD3:Sound Tryz.prog AD3:=soundAD2.more (autoP_ok soundAD2 (own_of soundAD2 Tryz.func125 (by kernel_rfl)))
noncomputable def AD4:FuncId→Option SumK:=moreG AD3 79 (autoA Tryz.prog AD3 ⟨false,false,false⟩ 20000 79)
theorem soundAD4:Sound Tryz.prog AD4:=soundAD3.moreG (autoA_ok soundAD3 (own_of soundAD3 Tryz.func79 (by kernel_rfl)))
noncomputable def AD5:FuncId→Option SumK:=moreG AD4 80 (autoA Tryz.prog AD4 ⟨false,false,false⟩ 20000 80)
theorem soundAD5:Sound Tryz.prog AD5:=soundAD4.moreG (autoA_ok soundAD4 (own_of soundAD4 Tryz.func80 (by kernel_rfl)))
noncomputable def AD6:FuncId→Option SumK:=moreG AD5 36 (orGen (narG 0 61 (autoA Tryz.prog AD5 Zl 20000 36)) (autoA Tryz.prog AD5 Zl 20000 36))
theorem soundAD6:Sound Tryz.prog AD6:=soundAD5.moreG (orGen_ok (narG_ok (autoA_ok soundAD5 (own_of soundAD5 Tryz.func36 (by kernel_rfl)))) (autoA_ok soundAD5 (own_of soundAD5 Tryz.func36 (by kernel_rfl))))
noncomputable def AD7:FuncId→Option SumK:=moreG AD6 206 (autoA Tryz.prog AD6 ⟨false,false,false⟩ 20000 206)
theorem soundAD7:Sound Tryz.prog AD7:=soundAD6.moreG (autoA_ok soundAD6 (own_of soundAD6 Tryz.func206 (by kernel_rfl)))
noncomputable def AD8:FuncId→Option SumK:=moreG AD7 236 (orGen (narG 0 61 (autoA Tryz.prog AD7 Zl 20000 236)) (autoA Tryz.prog AD7 Zl 20000 236))
theorem soundAD8:Sound Tryz.prog AD8:=soundAD7.moreG (orGen_ok (narG_ok (autoA_ok soundAD7 (own_of soundAD7 Tryz.func236 (by kernel_rfl)))) (autoA_ok soundAD7 (own_of soundAD7 Tryz.func236 (by kernel_rfl))))
noncomputable def AD9:FuncId→Option SumK:=moreG AD8 205 (orGen (narG 0 61 (autoA Tryz.prog AD8 Zl 20000 205)) (autoA Tryz.prog AD8 Zl 20000 205))
theorem soundAD9:Sound Tryz.prog AD9:=soundAD8.moreG (orGen_ok (narG_ok (autoA_ok soundAD8 (own_of soundAD8 Tryz.func205 (by kernel_rfl)))) (autoA_ok soundAD8 (own_of soundAD8 Tryz.func205 (by kernel_rfl))))
noncomputable def AD10:FuncId→Option SumK:=moreG AD9 70 (orGen (narG 0 61 (autoA Tryz.prog AD9 Zl 20000 70)) (autoA Tryz.prog AD9 Zl 20000 70))
theorem soundAD10:Sound Tryz.prog AD10:=soundAD9.moreG (orGen_ok (narG_ok (autoA_ok soundAD9 (own_of soundAD9 Tryz.func70 (by kernel_rfl)))) (autoA_ok soundAD9 (own_of soundAD9 Tryz.func70 (by kernel_rfl))))
noncomputable def AD11:FuncId→Option SumK:=moreG AD10 207 (orGen (narG 0 61 (autoA Tryz.prog AD10 Zl 20000 207)) (autoA Tryz.prog AD10 Zl 20000 207))
theorem soundAD11:Sound Tryz.prog AD11:=soundAD10.moreG (orGen_ok (narG_ok (autoA_ok soundAD10 (own_of soundAD10 Tryz.func207 (by kernel_rfl)))) (autoA_ok soundAD10 (own_of soundAD10 Tryz.func207 (by kernel_rfl))))
noncomputable def AD12:FuncId→Option SumK:=moreG AD11 249 (orGen (narG 0 61 (autoA Tryz.prog AD11 Zl 20000 249)) (autoA Tryz.prog AD11 Zl 20000 249))
theorem soundAD12:Sound Tryz.prog AD12:=soundAD11.moreG (orGen_ok (narG_ok (autoA_ok soundAD11 (own_of soundAD11 Tryz.func249 (by kernel_rfl)))) (autoA_ok soundAD11 (own_of soundAD11 Tryz.func249 (by kernel_rfl))))
noncomputable def AD13:FuncId→Option SumK:=moreG AD12 237 (orGen (narG 0 61 (autoA Tryz.prog AD12 Zl 20000 237)) (autoA Tryz.prog AD12 Zl 20000 237))
theorem soundAD13:Sound Tryz.prog AD13:=soundAD12.moreG (orGen_ok (narG_ok (autoA_ok soundAD12 (own_of soundAD12 Tryz.func237 (by kernel_rfl)))) (autoA_ok soundAD12 (own_of soundAD12 Tryz.func237 (by kernel_rfl))))
noncomputable def AD14:FuncId→Option SumK:=moreG AD13 238 (orGen (narG 0 61 (autoA Tryz.prog AD13 Zl 20000 238)) (autoA Tryz.prog AD13 Zl 20000 238))
theorem soundAD14:Sound Tryz.prog AD14:=soundAD13.moreG (orGen_ok (narG_ok (autoA_ok soundAD13 (own_of soundAD13 Tryz.func238 (by kernel_rfl)))) (autoA_ok soundAD13 (own_of soundAD13 Tryz.func238 (by kernel_rfl))))
noncomputable def AD15:FuncId→Option SumK:=moreG AD14 239 (orGen (narG 0 61 (autoA Tryz.prog AD14 Zl 20000 239)) (autoA Tryz.prog AD14 Zl 20000 239))
theorem soundAD15:Sound Tryz.prog AD15:=soundAD14.moreG (orGen_ok (narG_ok (autoA_ok soundAD14 (own_of soundAD14 Tryz.func239 (by kernel_rfl)))) (autoA_ok soundAD14 (own_of soundAD14 Tryz.func239 (by kernel_rfl))))
noncomputable def AD16:FuncId→Option SumK:=moreG AD15 23 (orGen (narG 1 61 (autoA Tryz.prog AD15 ⟨false,false,false⟩ 20000 23)) (autoA Tryz.prog AD15 ⟨false,false,false⟩ 20000 23))
theorem soundAD16:Sound Tryz.prog AD16:=soundAD15.moreG (orGen_ok (narG_ok (autoA_ok soundAD15 (own_of soundAD15 Tryz.func23 (by kernel_rfl)))) (autoA_ok soundAD15 (own_of soundAD15 Tryz.func23 (by kernel_rfl))))
noncomputable def AD17:FuncId→Option SumK:=moreG AD16 243 (autoA Tryz.prog AD16 ⟨false,false,false⟩ 20000 243)
theorem soundAD17:Sound Tryz.prog AD17:=soundAD16.moreG (autoA_ok soundAD16 (own_of soundAD16 Tryz.func243 (by kernel_rfl)))
noncomputable def AD18:FuncId→Option SumK:=moreG AD17 217 (autoA Tryz.prog AD17 ⟨false,false,false⟩ 20000 217)
theorem soundAD18:Sound Tryz.prog AD18:=soundAD17.moreG (autoA_ok soundAD17 (own_of soundAD17 Tryz.func217 (by kernel_rfl)))
noncomputable def AD19:FuncId→Option SumK:=moreG AD18 68 (orGen (narG 0 61 (autoA Tryz.prog AD18 Zl 20000 68)) (autoA Tryz.prog AD18 Zl 20000 68))
theorem soundAD19:Sound Tryz.prog AD19:=soundAD18.moreG (orGen_ok (narG_ok (autoA_ok soundAD18 (own_of soundAD18 Tryz.func68 (by kernel_rfl)))) (autoA_ok soundAD18 (own_of soundAD18 Tryz.func68 (by kernel_rfl))))
noncomputable def AD20:FuncId→Option SumK:=moreG AD19 69 (orGen (narG 0 61 (autoA Tryz.prog AD19 Zl 20000 69)) (autoA Tryz.prog AD19 Zl 20000 69))
theorem soundAD20:Sound Tryz.prog AD20:=soundAD19.moreG (orGen_ok (narG_ok (autoA_ok soundAD19 (own_of soundAD19 Tryz.func69 (by kernel_rfl)))) (autoA_ok soundAD19 (own_of soundAD19 Tryz.func69 (by kernel_rfl))))
noncomputable def AD21:FuncId→Option SumK:=moreG AD20 67 (orGen (narG 0 61 (autoA Tryz.prog AD20 Zl 20000 67)) (autoA Tryz.prog AD20 Zl 20000 67))
theorem soundAD21:Sound Tryz.prog AD21:=soundAD20.moreG (orGen_ok (narG_ok (autoA_ok soundAD20 (own_of soundAD20 Tryz.func67 (by kernel_rfl)))) (autoA_ok soundAD20 (own_of soundAD20 Tryz.func67 (by kernel_rfl))))
noncomputable def AD22:FuncId→Option SumK:=moreG AD21 165 (orGen (narG 0 61 (autoA Tryz.prog AD21 Zl 20000 165)) (autoA Tryz.prog AD21 Zl 20000 165))
theorem soundAD22:Sound Tryz.prog AD22:=soundAD21.moreG (orGen_ok (narG_ok (autoA_ok soundAD21 (own_of soundAD21 Tryz.func165 (by kernel_rfl)))) (autoA_ok soundAD21 (own_of soundAD21 Tryz.func165 (by kernel_rfl))))
noncomputable def AD23:FuncId→Option SumK:=moreG AD22 166 (orGen (narG 0 61 (autoA Tryz.prog AD22 Zl 20000 166)) (autoA Tryz.prog AD22 Zl 20000 166))
theorem soundAD23:Sound Tryz.prog AD23:=soundAD22.moreG (orGen_ok (narG_ok (autoA_ok soundAD22 (own_of soundAD22 Tryz.func166 (by kernel_rfl)))) (autoA_ok soundAD22 (own_of soundAD22 Tryz.func166 (by kernel_rfl))))
noncomputable def AD24:FuncId→Option SumK:=moreG AD23 164 (autoA Tryz.prog AD23 ⟨false,false,false⟩ 20000 164)
theorem soundAD24:Sound Tryz.prog AD24:=soundAD23.moreG (autoA_ok soundAD23 (own_of soundAD23 Tryz.func164 (by kernel_rfl)))
noncomputable def AD25:FuncId→Option SumK:=moreG AD24 176 (autoA Tryz.prog AD24 ⟨false,false,false⟩ 20000 176)
theorem soundAD25:Sound Tryz.prog AD25:=soundAD24.moreG (autoA_ok soundAD24 (own_of soundAD24 Tryz.func176 (by kernel_rfl)))
noncomputable def AD26:FuncId→Option SumK:=moreG AD25 106 (orGen (narG 1 61 (autoA Tryz.prog AD25 ⟨false,false,false⟩ 20000 106)) (autoA Tryz.prog AD25 ⟨false,false,false⟩ 20000 106))
theorem soundAD26:Sound Tryz.prog AD26:=soundAD25.moreG (orGen_ok (narG_ok (autoA_ok soundAD25 (own_of soundAD25 Tryz.func106 (by kernel_rfl)))) (autoA_ok soundAD25 (own_of soundAD25 Tryz.func106 (by kernel_rfl))))
noncomputable def AD27:FuncId→Option SumK:=moreG AD26 107 (orGen (narG 0 61 (autoA Tryz.prog AD26 Zl 20000 107)) (autoA Tryz.prog AD26 Zl 20000 107))
theorem soundAD27:Sound Tryz.prog AD27:=soundAD26.moreG (orGen_ok (narG_ok (autoA_ok soundAD26 (own_of soundAD26 Tryz.func107 (by kernel_rfl)))) (autoA_ok soundAD26 (own_of soundAD26 Tryz.func107 (by kernel_rfl))))
noncomputable def AD28:FuncId→Option SumK:=moreG AD27 73 (autoA Tryz.prog AD27 ⟨false,false,false⟩ 20000 73)
theorem soundAD28:Sound Tryz.prog AD28:=soundAD27.moreG (autoA_ok soundAD27 (own_of soundAD27 Tryz.func73 (by kernel_rfl)))
noncomputable def AD29:FuncId→Option SumK:=moreG AD28 75 (autoA Tryz.prog AD28 ⟨false,false,false⟩ 20000 75)
theorem soundAD29:Sound Tryz.prog AD29:=soundAD28.moreG (autoA_ok soundAD28 (own_of soundAD28 Tryz.func75 (by kernel_rfl)))
noncomputable def AD30:FuncId→Option SumK:=moreG AD29 33 (autoA Tryz.prog AD29 ⟨false,false,false⟩ 20000 33)
theorem soundAD30:Sound Tryz.prog AD30:=soundAD29.moreG (autoA_ok soundAD29 (own_of soundAD29 Tryz.func33 (by kernel_rfl)))
noncomputable def AD31:FuncId→Option SumK:=moreG AD30 11 (autoA Tryz.prog AD30 ⟨false,false,false⟩ 20000 11)
theorem soundAD31:Sound Tryz.prog AD31:=soundAD30.moreG (autoA_ok soundAD30 (own_of soundAD30 Tryz.func11 (by kernel_rfl)))
noncomputable def AE:FuncId→Option SumK:=moreG AD31 20 (autoAD Tryz.prog AD31 ⟨false,false,false⟩ 20000 20 [])
theorem soundAE:Sound Tryz.prog AE:=soundAD31.moreG (autoAD_ok soundAD31 (own_of soundAD31 Tryz.func20 (by kernel_rfl)))
end Go.Proofs.YtnlhpaidmiogbaaGreat

/- TopSources: what is used throughout. -/
namespace Go.Proofs.YtnlhpaidmiogbaaGreat
open Go.Lr
theorem aob_nil:AllOb []:=fun q h=>by cases h
theorem aob_cons {q:Ob} {l:List Ob} (h:q.ok) (k:AllOb l):AllOb (q::l):=fun x hx=>by
 rcases List.mem_cons.1 hx with rfl | hx
 ·exact h
 ·exact k x hx
def obR (n:Nat) (x:Int):List Ob:=match n with
 | 0=>[]
 | n+1=> .oi x x::obR n x
theorem obR_ok (x:Int):∀n,AllOb (obR n x)
 | 0=>aob_nil
 | n+1=>aob_cons rfl (obR_ok x n)
theorem zCl (m k:Nat) (x:Int) {sz:Nat} {c:Code} {A:Kst} {e:Ex} {p:PS2} (hrun:∀dead,stageO p e (mskC m []) (projS (p.live.map (·.1)) (p.mem.map (·.1)) (Go.Lr.exec Tryz.prog AE ⟨false,false,false⟩ 20000 (.code c) (A.st sz dead [])))=some ([],obR k x)) (hB:∀s,canB (filS2 s p)=true) (hnb:Nat.ble A.nb p.nb=true):ToP Tryz.prog sz c A e (Fil2 p):=
 ToP.run2 soundAE hrun ae_nil (obR_ok x k) (fun s=>canB_ok (hB s)) hnb
end Go.Proofs.YtnlhpaidmiogbaaGreat

/- TopSources: the states; aided, stage by stage. -/
namespace Go.Proofs.YtnlhpaidmiogbaaGreat
open Go.Lr
set_option linter.unusedVariables false
def zsPar (pf:Int):List Go.Lr.P2:=[qI 8000,qI 0,qI 16]++rq 7 (qI 5)++[qI 1000000,qI 1000000,qI 1000000,qI 1000000,qI 1000000,qI 1000000,qI 1048576,qI 1048576,qI 1048576,qI 1048576,qI 17179869184,qI 17179869184,qI 17179869184,qI 16384,qI 16384,qI 16384,qI 1024,qI 1024,qI 1024,qI 65536,qI 65536,qI 65536,qI 16384,qI 16384,qI 16384,qI 16384,qI 16384,qI 16384,qI 17179869184,qI 17179869184,qI 68719476736,qI 68719476736,qI 68719476736,qI 68719476736,qI 17592186044416,qI 17592186044416,qI 17592186044416,qI 17592186044416,qI 17592186044416,qI 17592186044416,qI 67108864,qI 67108864,qI 67108864,qI 4294967296,qI 4294967296,qI 4294967296,qI 17179869184,qI 17179869184,qI 17179869184,qI 17179869184,qI 17179869184,qI 17179869184,qI 17592186044416,qI 17592186044416,qI 5000000,qI 68719476736,qS pf,qI 268435456,qI 32,qI 0,qI 0,qI 0]
def zsVar:List Go.Lr.P2:=[qI 68719476736,qI 68719476736,qI 68719476736,qI 68719476736,qI 17592186044416,qI 17592186044416,qI 17592186044416,qI 17592186044416,qI 17592186044416,qI 17592186044416,qI 67108864,qI 67108864,qI 67108864,qI 4294967296,qI 4294967296,qI 4294967296,qI 17179869184,qI 17179869184,qI 17179869184,qI 17179869184,qI 17179869184,qI 17179869184,qI 17592186044416,qI 17592186044416]
def zsMon:List Go.Lr.P2:=[qI 0,qI 0,qB false,qI 0,qI 1000000,qI 5,qI 0,qI 0,qB false,qI 1,qI 1000000,qI 5,qI 0,qI 0,qB false,qI 2,qI 1000000,qI 5,qI 0,qI 0,qB false,qI 3,qI 1000000,qI 5,qI 0,qI 0,qB false,qI 4,qI 1000000,qI 5,qI 0,qI 0,qB false,qI 5,qI 1000000,qI 5,qI 0]
def zsR (b:Nat) (t:Int):Nat×PB2:=(b,⟨171,(0,0),0,[qI 0,qI 0,qI 0,qI 0,qI 0,qI 16,qL .nilsl,qI t],none⟩)
def zsO:List Int→List Go.Lr.P2
 | []=>[]
 | t::l=>qI t::(rq 10 qH++zsO l)
def zsB0:Nat×PB2:=(4,⟨29,(0,0),0,[qI 0,qI 0,qI 0,qI 0,qI 0,qI 0,qI 1000,qI 100],none⟩)
def zsB1 (pf:Int):Nat×PB2:=(13,⟨97,(0,0),0,zsPar pf++[qB false,qI 1073741824]++rq 299 (qI 0)++zsVar++[qL (.ptr 20 0),qL (.ptr 21 0),qL .nilsl,qL (.ptr 24 0),qL (.ptr 25 0),qL (.ptr 26 0),qL (.ptr 27 0),qL (.ptr 28 0),qL (.ptr 29 0),qL (.ptr 22 0),qI 0,qI 0,qB false,qB false,qL (.ptr 23 0),qB false,qI 0,qI 0,qI 0,qI 0,qB false,qB false,qB false,qI 0,qI 0,qI 0,qI 1073741824]++rq 9 (qI 0)++[qL .nilsl],none⟩)
def zsB2:Nat×PB2:=(20,⟨129,(0,0),0,[qI 0,qI 0,qI 0,qI 12157770197,qI 12239707452],none⟩)
def zsB3:Nat×PB2:=(21,⟨207,(0,0),0,[qI 8000]++rq 8 (qI 0)++[qB false],none⟩)
def zsB4:Nat×PB2:=(22,⟨184,(0,0),0,zsMon,none⟩)
def zsB5:Nat×PB2:=(23,⟨210,(0,0),0,[qI 32,qI 268435456,qL .nilsl],none⟩)
def zsB6:Nat×PB2:=(24,⟨171,(0,0),0,[qI 0,qI 0,qI 0,qI 0,qI 0,qI 16,qL .nilsl,qI (-9223372036854775808)],none⟩)
def zsB7:Nat×PB2:=(25,⟨171,(0,0),0,[qI 0,qI 0,qI 0,qI 0,qI 0,qI 16,qL .nilsl,qI (-9223372036854775808)],none⟩)
def zsB8:Nat×PB2:=(26,⟨171,(0,0),0,[qI 0,qI 0,qI 0,qI 0,qI 0,qI 16,qL .nilsl,qI (-9223372036854775808)],none⟩)
def zsB9:Nat×PB2:=(27,⟨171,(0,0),0,[qI 0,qI 0,qI 0,qI 0,qI 0,qI 16,qL .nilsl,qI (-9223372036854775808)],none⟩)
def zsB10:Nat×PB2:=(28,⟨171,(0,0),0,[qI 0,qI 0,qI 0,qI 0,qI 0,qI 16,qL .nilsl,qI (-9223372036854775808)],none⟩)
def zsB11:Nat×PB2:=(29,⟨171,(0,0),0,[qI 0,qI 0,qI 0,qI 0,qI 0,qI 16,qL .nilsl,qI (-9223372036854775808)],none⟩)
def zsB12:Nat×PB2:=(30,⟨27,(0,0),0,[qL (.ptr 13 0),qI 0,qI 0,qB false],none⟩)
def zsB13 (pf:Int):Nat×PB2:=(13,⟨97,(0,0),0,zsPar pf++[qO,qI 1073741824]++rq 23 (qI 0)++rq 300 (qH)++[qL (.ptr 20 0),qL (.ptr 21 0),qL (.slu 162 0),qL (.ptr 24 0),qL (.ptr 25 0),qL (.ptr 26 0),qL (.ptr 27 0),qL (.ptr 28 0),qL (.ptr 29 0),qL (.ptr 22 0),qI 1,qI 0,qB false,qB false,qL (.ptr 23 0),qB true,qI 10,qI 0,qI 0,qI (-842384860),qB true,qB false,qB false,qI 0,qI 88000,qI 0,qI 1073741824]++rq 9 (qI 0)++[qL .nilsl],none⟩)
def zsB14:Nat×PB2:=(21,⟨207,(0,0),0,[qI 8000,qI 88000]++rq 7 (qI 0)++[qB true],none⟩)
def zsB15:Nat×PB2:=(23,⟨210,(0,0),0,[qI 32,qI 268435456,qL (.slu 169 2)],none⟩)
def zsB16:Nat×PB2:=(30,⟨27,(0,0),0,[qL (.ptr 13 0),qI 88000,qI 11,qB false],none⟩)
def zsB17:Nat×PB2:=(169,⟨79,(0,0),11,zsO [80000,88000],none⟩)
def zsB18:Nat×PB2:=(27,⟨171,(0,0),0,[qI 1,qI 0,qI 0,qI 0,qI 0,qI 16,qL (.slu 189 1),qI 88000],none⟩)
def zsB19:Nat×PB2:=(189,⟨31,(0,0),9,[qI 88001,qI 249049,qI (-21789),qI 300000,qI 1000,qI 0,qI 0,qI 0,qI 0],none⟩)
def zsB20:Nat×PB2:=(22,⟨184,(0,0),0,[qI 0,qI 0,qB false,qI 0,qI 1000000,qI 5,qI 0,qI 0,qB false,qI 1,qI 1000000,qI 5,qI 0,qI 0,qB false,qI 2,qI 1000000,qI 5,qI 96000,qI 0,qB true,qI 3,qI 1000000,qI 5,qI 0,qI 0,qB false,qI 4,qI 1000000,qI 5,qI 0,qI 0,qB false,qI 5,qI 1000000,qI 5,qI 0],none⟩)
def zsB21:Nat×PB2:=(189,⟨31,(0,0),9,rq 9 (qI 0),none⟩)
def zsB22 (pf:Int):Nat×PB2:=(13,⟨97,(0,0),0,zsPar pf++[qO,qI 1073741824,qI 0,qI 0,qI 77]++rq 12 (qI 0)++[qI 267414331,qI (-23395723),qI 322122547,qI 0,qI 0,qI 0,qI 0,qI 0]++rq 300 (qH)++[qL (.ptr 20 0),qL (.ptr 21 0),qL (.slu 320 0),qL (.ptr 24 0),qL (.ptr 25 0),qL (.ptr 26 0),qL (.ptr 27 0),qL (.ptr 28 0),qL (.ptr 29 0),qL (.ptr 22 0),qI 2,qI 1,qB false,qB true,qL (.ptr 23 0),qB true,qI 10,qI 0,qI 0,qI (-842384860),qB true,qB true,qB false,qI 0,qI 104000,qI 1,qI 1073741824,qI 0,qI 0,qI 77,qI 0,qI 0,qI 0,qI 0,qI 0,qI 0,qL .nilsl],none⟩)
def zsB23:Nat×PB2:=(21,⟨207,(0,0),0,[qI 8000,qI 104000]++rq 7 (qI 0)++[qB true],none⟩)
def zsB24:Nat×PB2:=(23,⟨210,(0,0),0,[qI 32,qI 268435456,qL (.slu 327 4)],none⟩)
def zsB25:Nat×PB2:=(27,⟨171,(0,0),0,[qI 1,qI 0,qI 0,qI 0,qI 1,qI 16,qL (.slu 189 0),qI 104000],none⟩)
def zsB26:Nat×PB2:=(30,⟨27,(0,0),0,[qL (.ptr 13 0),qI 104000,qI 13,qB false],none⟩)
def zsB27:Nat×PB2:=(327,⟨79,(0,0),11,zsO [80000,88000,96000,104000],none⟩)
def zsB28:Nat×PB2:=(24,⟨171,(0,0),0,[qI 1,qI 0,qI 0,qI 0,qI 0,qI 16,qL (.slu 336 1),qI 104000],none⟩)
def zsB29:Nat×PB2:=(336,⟨31,(0,0),9,[qI 104001,qI 0,qI 0,qI 0,qI 0,qI 0,qI 0,qI 1000,qI 100],none⟩)
def zsB30:Nat×PB2:=(22,⟨184,(0,0),0,[qI 112000,qI 0,qB true,qI 0,qI 1000000,qI 5,qI 0,qI 0,qB false,qI 1,qI 1000000,qI 5,qI 0,qI 0,qB false,qI 2,qI 1000000,qI 5,qI 96000,qI 0,qB true,qI 3,qI 1000000,qI 5,qI 0,qI 0,qB false,qI 4,qI 1000000,qI 5,qI 0,qI 0,qB false,qI 5,qI 1000000,qI 5,qI 0],none⟩)
def zsB31:Nat×PB2:=(336,⟨31,(0,0),9,rq 9 (qI 0),none⟩)
def zsB32 (pf:Int):Nat×PB2:=(13,⟨97,(0,0),0,zsPar pf++[qO,qI 1073741824,qI 0,qI 0,qI 77]++rq 12 (qI 0)++[qI 267414331,qI (-23395723),qI 322122547,qI 0,qI 0,qI 0,qI 0,qI 0]++rq 300 (qH)++[qL (.ptr 20 0),qL (.ptr 21 0),qL (.slu 535 0),qL (.ptr 24 0),qL (.ptr 25 0),qL (.ptr 26 0),qL (.ptr 27 0),qL (.ptr 28 0),qL (.ptr 29 0),qL (.ptr 22 0),qI 3,qI 2,qB true,qB false,qL (.ptr 23 0),qB true,qI 10,qI 0,qI 0,qI (-842384860),qB true,qB true,qB true,qI 112000,qI 120000,qI 3,qI 1073741824,qI 0,qI 0,qI 77,qI 0,qI 0,qI 0,qI 0,qI 0,qI 0,qL .nilsl],none⟩)
def zsB33:Nat×PB2:=(21,⟨207,(0,0),0,[qI 8000,qI 120000]++rq 7 (qI 0)++[qB true],none⟩)
def zsB34:Nat×PB2:=(23,⟨210,(0,0),0,[qI 32,qI 268435456,qL (.slu 542 6)],none⟩)
def zsB35:Nat×PB2:=(24,⟨171,(0,0),0,[qI 1,qI 0,qI 0,qI 0,qI 1,qI 16,qL (.slu 336 0),qI 120000],none⟩)
def zsB36:Nat×PB2:=(27,⟨171,(0,0),0,[qI 1,qI 0,qI 0,qI 0,qI 1,qI 16,qL (.slu 189 0),qI 120000],none⟩)
def zsB37:Nat×PB2:=(30,⟨27,(0,0),0,[qL (.ptr 13 0),qI 120000,qI 15,qB false],none⟩)
def zsB38:Nat×PB2:=(542,⟨79,(0,0),11,zsO [80000,88000,96000,104000,112000,120000],none⟩)
def zsB39 (pf:Int):Nat×PB2:=(13,⟨97,(0,0),0,zsPar pf++[qO,qI 1073741824,qI 0,qI 0,qI 77]++rq 12 (qI 0)++[qI 267414331,qI (-23395723),qI 322122547,qI 0,qI 0,qI 0,qI 0,qI 0]++rq 300 (qH)++[qL (.ptr 20 0),qL (.ptr 21 0),qL (.slu 552 0),qL (.ptr 24 0),qL (.ptr 25 0),qL (.ptr 26 0),qL (.ptr 27 0),qL (.ptr 28 0),qL (.ptr 29 0),qL (.ptr 22 0),qI 3,qI 2,qB true,qB false,qL (.ptr 23 0),qB true,qI 10,qI 0,qI 0,qI (-842384860),qB true,qB true,qB true,qI 112000,qI 128000,qI 3,qI 1073741824,qI 0,qI 0,qI 77,qI 0,qI 0,qI 0,qI 0,qI 0,qI 0,qL .nilsl],none⟩)
def zsB40:Nat×PB2:=(21,⟨207,(0,0),0,[qI 8000,qI 128000]++rq 7 (qI 0)++[qB true],none⟩)
def zsB41:Nat×PB2:=(23,⟨210,(0,0),0,[qI 32,qI 268435456,qL (.slu 559 7)],none⟩)
def zsB42:Nat×PB2:=(24,⟨171,(0,0),0,[qI 1,qI 0,qI 0,qI 0,qI 1,qI 16,qL (.slu 336 0),qI 128000],none⟩)
def zsB43:Nat×PB2:=(27,⟨171,(0,0),0,[qI 1,qI 0,qI 0,qI 0,qI 1,qI 16,qL (.slu 189 0),qI 128000],none⟩)
def zsB44:Nat×PB2:=(30,⟨27,(0,0),0,[qL (.ptr 13 0),qI 128000,qI 16,qB false],none⟩)
def zsB45:Nat×PB2:=(559,⟨79,(0,0),11,zsO [80000,88000,96000,104000,112000,120000,128000],none⟩)
def zsB46 (pf:Int):Nat×PB2:=(13,⟨97,(0,0),0,zsPar pf++[qO,qI 1073741824,qI 0,qI 0,qI 77]++rq 12 (qI 0)++[qI 267414331,qI (-23395723),qI 322122547,qI 0,qI 0,qI 0,qI 0,qI 0]++rq 300 (qH)++[qL (.ptr 20 0),qL (.ptr 21 0),qL (.slu 569 0),qL (.ptr 24 0),qL (.ptr 25 0),qL (.ptr 26 0),qL (.ptr 27 0),qL (.ptr 28 0),qL (.ptr 29 0),qL (.ptr 22 0),qI 3,qI 2,qB true,qB false,qL (.ptr 23 0),qB true,qI 10,qI 0,qI 0,qI (-842384860),qB true,qB true,qB true,qI 112000,qI 136000,qI 3,qI 1073741824,qI 0,qI 0,qI 77,qI 0,qI 0,qI 0,qI 0,qI 0,qI 0,qL .nilsl],none⟩)
def zsB47:Nat×PB2:=(21,⟨207,(0,0),0,[qI 8000,qI 136000]++rq 7 (qI 0)++[qB true],none⟩)
def zsB48:Nat×PB2:=(23,⟨210,(0,0),0,[qI 32,qI 268435456,qL (.slu 576 8)],none⟩)
def zsB49:Nat×PB2:=(24,⟨171,(0,0),0,[qI 1,qI 0,qI 0,qI 0,qI 1,qI 16,qL (.slu 336 0),qI 136000],none⟩)
def zsB50:Nat×PB2:=(27,⟨171,(0,0),0,[qI 1,qI 0,qI 0,qI 0,qI 1,qI 16,qL (.slu 189 0),qI 136000],none⟩)
def zsB51:Nat×PB2:=(30,⟨27,(0,0),0,[qL (.ptr 13 0),qI 136000,qI 17,qB false],none⟩)
def zsB52:Nat×PB2:=(576,⟨79,(0,0),11,zsO [80000,88000,96000,104000,112000,120000,128000,136000],none⟩)
def zsB53 (pf:Int):Nat×PB2:=(13,⟨97,(0,0),0,zsPar pf++[qO,qI 1073741824,qI 0,qI 0,qI 77]++rq 12 (qI 0)++[qI 267414331,qI (-23395723),qI 322122547,qI 0,qI 0,qI 0,qI 0,qI 0]++rq 300 (qH)++[qL (.ptr 20 0),qL (.ptr 21 0),qL (.slu 583 0),qL (.ptr 24 0),qL (.ptr 25 0),qL (.ptr 26 0),qL (.ptr 27 0),qL (.ptr 28 0),qL (.ptr 29 0),qL (.ptr 22 0),qI 3,qI 2,qB true,qB false,qL (.ptr 23 0),qB true,qI 10,qI 0,qI 0,qI (-842384860),qB true,qB true,qB true,qI 112000,qI 128000,qI 3,qI 1073741824,qI 0,qI 0,qI 77,qI 0,qI 0,qI 0,qI 0,qI 0,qI 0,qL .nilsl],none⟩)
def zsB54:Nat×PB2:=(22,⟨184,(0,0),0,[qI 112000,qI 0,qB true,qI 0,qI 1000000,qI 5,qI 0,qI 0,qB false,qI 1,qI 1000000,qI 5,qI 128000,qI 0,qB true,qI 2,qI 1000000,qI 5,qI 96000,qI 0,qB true,qI 3,qI 1000000,qI 5,qI 0,qI 0,qB false,qI 4,qI 1000000,qI 5,qI 0,qI 0,qB false,qI 5,qI 1000000,qI 5,qI 0],none⟩)
def zsB55:Nat×PB2:=(23,⟨210,(0,0),0,[qI 32,qI 268435456,qL (.slu 590 7)],none⟩)
def zsB56:Nat×PB2:=(26,⟨171,(0,0),0,[qI 1,qI 0,qI 0,qI 0,qI 1,qI 16,qL (.slu 551 0),qI 128000],none⟩)
def zsB57:Nat×PB2:=(551,⟨31,(0,0),9,rq 9 (qI 0),none⟩)
def zsB58:Nat×PB2:=(590,⟨79,(0,0),11,zsO [80000,88000,96000,104000,112000,120000,128000],none⟩)
def zsB59 (pf:Int):Nat×PB2:=(13,⟨97,(0,0),0,zsPar pf++[qO,qI 1073741824,qI 0,qI 0,qI 77]++rq 12 (qI 0)++[qI 267414331,qI (-23395723),qI 322122547,qI 0,qI 0,qI 0,qI 0,qI 0]++rq 300 (qH)++[qL (.ptr 20 0),qL (.ptr 21 0),qL (.slu 601 0),qL (.ptr 24 0),qL (.ptr 25 0),qL (.ptr 26 0),qL (.ptr 27 0),qL (.ptr 28 0),qL (.ptr 29 0),qL (.ptr 22 0),qI 3,qI 2,qB true,qB false,qL (.ptr 23 0),qB true,qI 10,qI 0,qI 0,qI (-842384860),qB true,qB true,qB true,qI 112000,qI 136000,qI 3,qI 1073741824,qI 0,qI 0,qI 77,qI 0,qI 0,qI 0,qI 0,qI 0,qI 0,qL .nilsl],none⟩)
def zsB60:Nat×PB2:=(23,⟨210,(0,0),0,[qI 32,qI 268435456,qL (.slu 608 8)],none⟩)
def zsB61:Nat×PB2:=(26,⟨171,(0,0),0,[qI 1,qI 0,qI 0,qI 0,qI 1,qI 16,qL (.slu 551 0),qI 136000],none⟩)
def zsB62:Nat×PB2:=(608,⟨79,(0,0),11,zsO [80000,88000,96000,104000,112000,120000,128000,136000],none⟩)
def zsB63:Nat×PB2:=(25,⟨171,(0,0),0,[qI 1,qI 0,qI 0,qI 0,qI 0,qI 16,qL (.slu 551 1),qI 120000],none⟩)
def zsB64:Nat×PB2:=(551,⟨31,(0,0),9,[qI 120001,qI 0,qI 1000,qI 0,qI 0,qI 0,qI 0,qI 0,qI 0],none⟩)
def zsB65 (pf:Int):Nat×PB2:=(13,⟨97,(0,0),0,zsPar pf++[qO,qI 1073741824,qI 0,qI 0,qI 77]++rq 12 (qI 0)++[qI 267414331,qI (-23395723),qI 322122547,qI 0,qI 0,qI 0,qI 0,qI 0]++rq 300 (qH)++[qL (.ptr 20 0),qL (.ptr 21 0),qL (.slu 577 0),qL (.ptr 24 0),qL (.ptr 25 0),qL (.ptr 26 0),qL (.ptr 27 0),qL (.ptr 28 0),qL (.ptr 29 0),qL (.ptr 22 0),qI 3,qI 1,qB true,qB false,qL (.ptr 23 0),qB true,qI 10,qI 0,qI 0,qI (-842384860),qB true,qB true,qB true,qI 112000,qI 128000,qI 3,qI 1073741824,qI 0,qI 0,qI 77,qI 0,qI 0,qI 0,qI 0,qI 0,qI 0,qL .nilsl],none⟩)
def zsB66:Nat×PB2:=(22,⟨184,(0,0),0,[qI 112000,qI 0,qB true,qI 0,qI 1000000,qI 5,qI 128000,qI 0,qB true,qI 1,qI 1000000,qI 5,qI 0,qI 0,qB false,qI 2,qI 1000000,qI 5,qI 96000,qI 0,qB true,qI 3,qI 1000000,qI 5,qI 0,qI 0,qB false,qI 4,qI 1000000,qI 5,qI 0,qI 0,qB false,qI 5,qI 1000000,qI 5,qI 0],none⟩)
def zsB67:Nat×PB2:=(23,⟨210,(0,0),0,[qI 32,qI 268435456,qL (.slu 584 7)],none⟩)
def zsB68:Nat×PB2:=(25,⟨171,(0,0),0,[qI 1,qI 0,qI 0,qI 0,qI 1,qI 16,qL (.slu 551 0),qI 128000],none⟩)
def zsB69:Nat×PB2:=(584,⟨79,(0,0),11,zsO [80000,88000,96000,104000,112000,120000,128000],none⟩)
def zsB70 (pf:Int):Nat×PB2:=(13,⟨97,(0,0),0,zsPar pf++[qO,qI 1073741824,qI 0,qI 0,qI 77]++rq 12 (qI 0)++[qI 267414331,qI (-23395723),qI 322122547,qI 0,qI 0,qI 0,qI 0,qI 0]++rq 300 (qH)++[qL (.ptr 20 0),qL (.ptr 21 0),qL (.slu 595 0),qL (.ptr 24 0),qL (.ptr 25 0),qL (.ptr 26 0),qL (.ptr 27 0),qL (.ptr 28 0),qL (.ptr 29 0),qL (.ptr 22 0),qI 3,qI 1,qB true,qB false,qL (.ptr 23 0),qB true,qI 10,qI 0,qI 0,qI (-842384860),qB true,qB true,qB true,qI 112000,qI 136000,qI 3,qI 1073741824,qI 0,qI 0,qI 77,qI 0,qI 0,qI 0,qI 0,qI 0,qI 0,qL .nilsl],none⟩)
def zsB71:Nat×PB2:=(23,⟨210,(0,0),0,[qI 32,qI 268435456,qL (.slu 602 8)],none⟩)
def zsB72:Nat×PB2:=(25,⟨171,(0,0),0,[qI 1,qI 0,qI 0,qI 0,qI 1,qI 16,qL (.slu 551 0),qI 136000],none⟩)
def zsB73:Nat×PB2:=(602,⟨79,(0,0),11,zsO [80000,88000,96000,104000,112000,120000,128000,136000],none⟩)
def zsB74 (pf:Int):Nat×PB2:=(13,⟨97,(0,0),0,zsPar pf++[qO,qI 1073741824,qI 0,qI 0,qI 77]++rq 12 (qI 0)++[qI 267414331,qI (-23395723),qI 322122547,qI 0,qI 0,qI 0,qI 0,qI 0]++rq 300 (qH)++[qL (.ptr 20 0),qL (.ptr 21 0),qL (.slu 608 0),qL (.ptr 24 0),qL (.ptr 25 0),qL (.ptr 26 0),qL (.ptr 27 0),qL (.ptr 28 0),qL (.ptr 29 0),qL (.ptr 22 0),qI 3,qI 1,qB true,qB false,qL (.ptr 23 0),qB true,qI 10,qI 0,qI 0,qI (-842384860),qB true,qB true,qB true,qI 112000,qI 128000,qI 3,qI 1073741824,qI 0,qI 0,qI 77,qI 0,qI 0,qI 0,qI 0,qI 0,qI 0,qL .nilsl],none⟩)
def zsB75:Nat×PB2:=(22,⟨184,(0,0),0,[qI 112000,qI 0,qB true,qI 0,qI 1000000,qI 5,qI 128000,qI 0,qB true,qI 1,qI 1000000,qI 5,qI 128000,qI 0,qB true,qI 2,qI 1000000,qI 5,qI 96000,qI 0,qB true,qI 3,qI 1000000,qI 5,qI 0,qI 0,qB false,qI 4,qI 1000000,qI 5,qI 0,qI 0,qB false,qI 5,qI 1000000,qI 5,qI 0],none⟩)
def zsB76:Nat×PB2:=(23,⟨210,(0,0),0,[qI 32,qI 268435456,qL (.slu 615 7)],none⟩)
def zsB77:Nat×PB2:=(26,⟨171,(0,0),0,[qI 1,qI 0,qI 0,qI 0,qI 1,qI 16,qL (.slu 560 0),qI 128000],none⟩)
def zsB78:Nat×PB2:=(560,⟨31,(0,0),9,rq 9 (qI 0),none⟩)
def zsB79:Nat×PB2:=(615,⟨79,(0,0),11,zsO [80000,88000,96000,104000,112000,120000,128000],none⟩)
def zsB80 (pf:Int):Nat×PB2:=(13,⟨97,(0,0),0,zsPar pf++[qO,qI 1073741824,qI 0,qI 0,qI 77]++rq 12 (qI 0)++[qI 267414331,qI (-23395723),qI 322122547,qI 0,qI 0,qI 0,qI 0,qI 0]++rq 300 (qH)++[qL (.ptr 20 0),qL (.ptr 21 0),qL (.slu 627 0),qL (.ptr 24 0),qL (.ptr 25 0),qL (.ptr 26 0),qL (.ptr 27 0),qL (.ptr 28 0),qL (.ptr 29 0),qL (.ptr 22 0),qI 3,qI 1,qB true,qB false,qL (.ptr 23 0),qB true,qI 10,qI 0,qI 0,qI (-842384860),qB true,qB true,qB true,qI 112000,qI 136000,qI 3,qI 1073741824,qI 0,qI 0,qI 77,qI 0,qI 0,qI 0,qI 0,qI 0,qI 0,qL .nilsl],none⟩)
def zsB81:Nat×PB2:=(23,⟨210,(0,0),0,[qI 32,qI 268435456,qL (.slu 634 8)],none⟩)
def zsB82:Nat×PB2:=(26,⟨171,(0,0),0,[qI 1,qI 0,qI 0,qI 0,qI 1,qI 16,qL (.slu 560 0),qI 136000],none⟩)
def zsB83:Nat×PB2:=(634,⟨79,(0,0),11,zsO [80000,88000,96000,104000,112000,120000,128000,136000],none⟩)
def zsM0 (pf:Int):List (Nat×PB2):=[(3,⟨51,(0,0),0,zsPar pf,none⟩),zsB0]
def zsM1 (pf:Int):List (Nat×PB2):=[(3,⟨51,(0,0),0,zsPar pf,none⟩),zsB0,zsB1 pf,zsB2,zsB3,zsB4,zsB5,zsB6,zsB7,zsB8,zsB9,zsB10,zsB11,zsB12]
def zsM2 (pf:Int):List (Nat×PB2):=[(3,⟨51,(0,0),0,zsPar pf,none⟩),zsB0,(13,⟨97,(0,0),0,zsPar pf++[qB false,qI 1073741824]++rq 299 (qI 0)++zsVar++[qL (.ptr 20 0),qL (.ptr 21 0),qL (.slu 35 0),qL (.ptr 24 0),qL (.ptr 25 0),qL (.ptr 26 0),qL (.ptr 27 0),qL (.ptr 28 0),qL (.ptr 29 0),qL (.ptr 22 0),qI 0,qI 0,qB false,qB false,qL (.ptr 23 0),qB false,qI 1,qI 0,qI 0,qI (-84238486),qB false,qB false,qB false,qI 0,qI 8000,qI 0,qI 1073741824]++rq 9 (qI 0)++[qL .nilsl],none⟩),zsB2,(21,⟨207,(0,0),0,[qI 8000,qI 8000]++rq 7 (qI 0)++[qB true],none⟩),zsB4,zsB5,zsR 24 8000,zsR 25 8000,zsR 26 8000,zsR 27 8000,zsR 28 8000,zsR 29 8000,(30,⟨27,(0,0),0,[qL (.ptr 13 0),qI 8000,qI 1,qB false],none⟩),(35,⟨66,(0,0),8,[],none⟩)]
def zsM3 (pf:Int):List (Nat×PB2):=[(3,⟨51,(0,0),0,zsPar pf,none⟩),zsB0,(13,⟨97,(0,0),0,zsPar pf++[qB false,qI 1073741824]++rq 299 (qI 0)++zsVar++[qL (.ptr 20 0),qL (.ptr 21 0),qL (.slu 47 0),qL (.ptr 24 0),qL (.ptr 25 0),qL (.ptr 26 0),qL (.ptr 27 0),qL (.ptr 28 0),qL (.ptr 29 0),qL (.ptr 22 0),qI 0,qI 0,qB false,qB false,qL (.ptr 23 0),qB false,qI 2,qI 0,qI 0,qI (-168476972),qB false,qB false,qB false,qI 0,qI 16000,qI 0,qI 1073741824]++rq 9 (qI 0)++[qL .nilsl],none⟩),zsB2,(21,⟨207,(0,0),0,[qI 8000,qI 16000]++rq 7 (qI 0)++[qB true],none⟩),zsB4,zsB5,zsR 24 16000,zsR 25 16000,zsR 26 16000,zsR 27 16000,zsR 28 16000,zsR 29 16000,(30,⟨27,(0,0),0,[qL (.ptr 13 0),qI 16000,qI 2,qB false],none⟩),(47,⟨66,(0,0),8,[],none⟩)]
def zsM4 (pf:Int):List (Nat×PB2):=[(3,⟨51,(0,0),0,zsPar pf,none⟩),zsB0,(13,⟨97,(0,0),0,zsPar pf++[qB false,qI 1073741824]++rq 299 (qI 0)++zsVar++[qL (.ptr 20 0),qL (.ptr 21 0),qL (.slu 59 0),qL (.ptr 24 0),qL (.ptr 25 0),qL (.ptr 26 0),qL (.ptr 27 0),qL (.ptr 28 0),qL (.ptr 29 0),qL (.ptr 22 0),qI 0,qI 0,qB false,qB false,qL (.ptr 23 0),qB false,qI 3,qI 0,qI 0,qI (-252715458),qB false,qB false,qB false,qI 0,qI 24000,qI 0,qI 1073741824]++rq 9 (qI 0)++[qL .nilsl],none⟩),zsB2,(21,⟨207,(0,0),0,[qI 8000,qI 24000]++rq 7 (qI 0)++[qB true],none⟩),zsB4,zsB5,zsR 24 24000,zsR 25 24000,zsR 26 24000,zsR 27 24000,zsR 28 24000,zsR 29 24000,(30,⟨27,(0,0),0,[qL (.ptr 13 0),qI 24000,qI 3,qB false],none⟩),(59,⟨66,(0,0),8,[],none⟩)]
def zsM5 (pf:Int):List (Nat×PB2):=[(3,⟨51,(0,0),0,zsPar pf,none⟩),zsB0,(13,⟨97,(0,0),0,zsPar pf++[qB false,qI 1073741824]++rq 299 (qI 0)++zsVar++[qL (.ptr 20 0),qL (.ptr 21 0),qL (.slu 71 0),qL (.ptr 24 0),qL (.ptr 25 0),qL (.ptr 26 0),qL (.ptr 27 0),qL (.ptr 28 0),qL (.ptr 29 0),qL (.ptr 22 0),qI 0,qI 0,qB false,qB false,qL (.ptr 23 0),qB false,qI 4,qI 0,qI 0,qI (-336953944),qB false,qB false,qB false,qI 0,qI 32000,qI 0,qI 1073741824]++rq 9 (qI 0)++[qL .nilsl],none⟩),zsB2,(21,⟨207,(0,0),0,[qI 8000,qI 32000]++rq 7 (qI 0)++[qB true],none⟩),zsB4,zsB5,zsR 24 32000,zsR 25 32000,zsR 26 32000,zsR 27 32000,zsR 28 32000,zsR 29 32000,(30,⟨27,(0,0),0,[qL (.ptr 13 0),qI 32000,qI 4,qB false],none⟩),(71,⟨66,(0,0),8,[],none⟩)]
def zsM6 (pf:Int):List (Nat×PB2):=[(3,⟨51,(0,0),0,zsPar pf,none⟩),zsB0,(13,⟨97,(0,0),0,zsPar pf++[qB false,qI 1073741824]++rq 299 (qI 0)++zsVar++[qL (.ptr 20 0),qL (.ptr 21 0),qL (.slu 83 0),qL (.ptr 24 0),qL (.ptr 25 0),qL (.ptr 26 0),qL (.ptr 27 0),qL (.ptr 28 0),qL (.ptr 29 0),qL (.ptr 22 0),qI 0,qI 0,qB false,qB false,qL (.ptr 23 0),qB false,qI 5,qI 0,qI 0,qI (-421192430),qB false,qB false,qB false,qI 0,qI 40000,qI 0,qI 1073741824]++rq 9 (qI 0)++[qL .nilsl],none⟩),zsB2,(21,⟨207,(0,0),0,[qI 8000,qI 40000]++rq 7 (qI 0)++[qB true],none⟩),zsB4,zsB5,zsR 24 40000,zsR 25 40000,zsR 26 40000,zsR 27 40000,zsR 28 40000,zsR 29 40000,(30,⟨27,(0,0),0,[qL (.ptr 13 0),qI 40000,qI 5,qB false],none⟩),(83,⟨66,(0,0),8,[],none⟩)]
def zsM7 (pf:Int):List (Nat×PB2):=[(3,⟨51,(0,0),0,zsPar pf,none⟩),zsB0,(13,⟨97,(0,0),0,zsPar pf++[qB false,qI 1073741824]++rq 299 (qI 0)++zsVar++[qL (.ptr 20 0),qL (.ptr 21 0),qL (.slu 95 0),qL (.ptr 24 0),qL (.ptr 25 0),qL (.ptr 26 0),qL (.ptr 27 0),qL (.ptr 28 0),qL (.ptr 29 0),qL (.ptr 22 0),qI 0,qI 0,qB false,qB false,qL (.ptr 23 0),qB false,qI 6,qI 0,qI 0,qI (-505430916),qB false,qB false,qB false,qI 0,qI 48000,qI 0,qI 1073741824]++rq 9 (qI 0)++[qL .nilsl],none⟩),zsB2,(21,⟨207,(0,0),0,[qI 8000,qI 48000]++rq 7 (qI 0)++[qB true],none⟩),zsB4,zsB5,zsR 24 48000,zsR 25 48000,zsR 26 48000,zsR 27 48000,zsR 28 48000,zsR 29 48000,(30,⟨27,(0,0),0,[qL (.ptr 13 0),qI 48000,qI 6,qB false],none⟩),(95,⟨66,(0,0),8,[],none⟩)]
def zsM8 (pf:Int):List (Nat×PB2):=[(3,⟨51,(0,0),0,zsPar pf,none⟩),zsB0,(13,⟨97,(0,0),0,zsPar pf++[qB false,qI 1073741824]++rq 299 (qI 0)++zsVar++[qL (.ptr 20 0),qL (.ptr 21 0),qL (.slu 107 0),qL (.ptr 24 0),qL (.ptr 25 0),qL (.ptr 26 0),qL (.ptr 27 0),qL (.ptr 28 0),qL (.ptr 29 0),qL (.ptr 22 0),qI 0,qI 0,qB false,qB false,qL (.ptr 23 0),qB false,qI 7,qI 0,qI 0,qI (-589669402),qB false,qB false,qB false,qI 0,qI 56000,qI 0,qI 1073741824]++rq 9 (qI 0)++[qL .nilsl],none⟩),zsB2,(21,⟨207,(0,0),0,[qI 8000,qI 56000]++rq 7 (qI 0)++[qB true],none⟩),zsB4,zsB5,zsR 24 56000,zsR 25 56000,zsR 26 56000,zsR 27 56000,zsR 28 56000,zsR 29 56000,(30,⟨27,(0,0),0,[qL (.ptr 13 0),qI 56000,qI 7,qB false],none⟩),(107,⟨66,(0,0),8,[],none⟩)]
def zsM9 (pf:Int):List (Nat×PB2):=[(3,⟨51,(0,0),0,zsPar pf,none⟩),zsB0,(13,⟨97,(0,0),0,zsPar pf++[qB false,qI 1073741824]++rq 299 (qI 0)++zsVar++[qL (.ptr 20 0),qL (.ptr 21 0),qL (.slu 119 0),qL (.ptr 24 0),qL (.ptr 25 0),qL (.ptr 26 0),qL (.ptr 27 0),qL (.ptr 28 0),qL (.ptr 29 0),qL (.ptr 22 0),qI 0,qI 0,qB false,qB false,qL (.ptr 23 0),qB false,qI 8,qI 0,qI 0,qI (-673907888),qB false,qB false,qB false,qI 0,qI 64000,qI 0,qI 1073741824]++rq 9 (qI 0)++[qL .nilsl],none⟩),zsB2,(21,⟨207,(0,0),0,[qI 8000,qI 64000]++rq 7 (qI 0)++[qB true],none⟩),zsB4,zsB5,zsR 24 64000,zsR 25 64000,zsR 26 64000,zsR 27 64000,zsR 28 64000,zsR 29 64000,(30,⟨27,(0,0),0,[qL (.ptr 13 0),qI 64000,qI 8,qB false],none⟩),(119,⟨66,(0,0),8,[],none⟩)]
def zsM10 (pf:Int):List (Nat×PB2):=[(3,⟨51,(0,0),0,zsPar pf,none⟩),zsB0,(13,⟨97,(0,0),0,zsPar pf++[qB false,qI 1073741824]++rq 299 (qI 0)++zsVar++[qL (.ptr 20 0),qL (.ptr 21 0),qL (.slu 131 0),qL (.ptr 24 0),qL (.ptr 25 0),qL (.ptr 26 0),qL (.ptr 27 0),qL (.ptr 28 0),qL (.ptr 29 0),qL (.ptr 22 0),qI 0,qI 0,qB false,qB false,qL (.ptr 23 0),qB false,qI 9,qI 0,qI 0,qI (-758146374),qB false,qB false,qB false,qI 0,qI 72000,qI 0,qI 1073741824]++rq 9 (qI 0)++[qL .nilsl],none⟩),zsB2,(21,⟨207,(0,0),0,[qI 8000,qI 72000]++rq 7 (qI 0)++[qB true],none⟩),zsB4,zsB5,zsR 24 72000,zsR 25 72000,zsR 26 72000,zsR 27 72000,zsR 28 72000,zsR 29 72000,(30,⟨27,(0,0),0,[qL (.ptr 13 0),qI 72000,qI 9,qB false],none⟩),(131,⟨66,(0,0),8,[],none⟩)]
def zsM11 (pf:Int):List (Nat×PB2):=[(3,⟨51,(0,0),0,zsPar pf,none⟩),zsB0,(13,⟨97,(0,0),0,zsPar pf++[qO,qI 1073741824]++rq 23 (qI 0)++rq 300 (qH)++[qL (.ptr 20 0),qL (.ptr 21 0),qL (.slu 152 0),qL (.ptr 24 0),qL (.ptr 25 0),qL (.ptr 26 0),qL (.ptr 27 0),qL (.ptr 28 0),qL (.ptr 29 0),qL (.ptr 22 0),qI 1,qI 0,qB false,qB false,qL (.ptr 23 0),qB true,qI 10,qI 0,qI 0,qI (-842384860),qB true,qB false,qB false,qI 0,qI 80000,qI 0,qI 1073741824]++rq 9 (qI 0)++[qL .nilsl],none⟩),zsB2,(21,⟨207,(0,0),0,[qI 8000,qI 80000]++rq 7 (qI 0)++[qB true],none⟩),zsB4,(23,⟨210,(0,0),0,[qI 32,qI 268435456,qL (.sl 141 0 1 1)],none⟩),zsR 24 80000,zsR 25 80000,zsR 26 80000,zsR 27 80000,zsR 28 80000,zsR 29 80000,(30,⟨27,(0,0),0,[qL (.ptr 13 0),qI 80000,qI 10,qB false],none⟩),(141,⟨79,(0,0),0,zsO [80000],none⟩),(152,⟨66,(0,0),8,[],none⟩)]
def zsM12 (pf:Int):List (Nat×PB2):=[(3,⟨51,(0,0),0,zsPar pf,none⟩),zsB0,zsB13 pf,zsB2,zsB14,zsB4,zsB15,zsR 24 88000,zsR 25 88000,zsR 26 88000,zsR 27 88000,zsR 28 88000,zsR 29 88000,zsB16,(162,⟨66,(0,0),8,[],none⟩),zsB17]
def zsM13 (pf:Int):List (Nat×PB2):=[(3,⟨51,(0,0),0,zsPar pf,none⟩),zsB0,zsB13 pf,zsB2,zsB14,zsB4,zsB15,zsR 24 88000,zsR 25 88000,zsR 26 88000,zsR 27 88000,zsR 28 88000,zsR 29 88000,zsB16,(162,⟨66,(0,0),8,[],none⟩),zsB17,(175,⟨61,(0,0),0,[qB false],none⟩)]
def zsM14 (pf:Int):List (Nat×PB2):=[zsB0,zsB13 pf,zsB2,zsB14,zsB4,zsB15,zsR 24 88000,zsR 25 88000,zsR 26 88000,zsR 27 88000,zsR 28 88000,zsR 29 88000,zsB16,(162,⟨66,(0,0),8,[],none⟩),zsB17,(175,⟨61,(0,0),0,[qB false],none⟩),(184,⟨37,(0,0),0,[qI 267413978,qI (-23395692),qI 0],none⟩)]
def zsM15 (pf:Int):List (Nat×PB2):=[zsB0,zsB13 pf,zsB2,zsB14,zsB4,zsB15,zsR 24 88000,zsR 25 88000,zsR 26 88000,zsR 27 88000,zsR 28 88000,zsR 29 88000,zsB16,(162,⟨66,(0,0),8,[],none⟩),zsB17,(185,⟨29,(0,0),0,[qI 249049,qI (-21789),qI 300000,qI 1000,qI 0,qI 0,qI 0,qI 0],none⟩)]
def zsM16 (pf:Int):List (Nat×PB2):=[zsB0,zsB13 pf,zsB2,zsB14,zsB4,zsB15,zsR 24 88000,zsR 25 88000,zsR 26 88000,zsB18,zsR 28 88000,zsR 29 88000,zsB16,(162,⟨66,(0,0),8,[],none⟩),zsB17,zsB19]
def zsM17 (pf:Int):List (Nat×PB2):=[zsB0,(13,⟨97,(0,0),0,zsPar pf++[qO,qI 1073741824,qI 0,qI 0,qI 77]++rq 12 (qI 0)++[qI 267414331,qI (-23395723),qI 322122547,qI 0,qI 0,qI 0,qI 0,qI 0]++rq 300 (qH)++[qL (.ptr 20 0),qL (.ptr 21 0),qL (.slu 304 0),qL (.ptr 24 0),qL (.ptr 25 0),qL (.ptr 26 0),qL (.ptr 27 0),qL (.ptr 28 0),qL (.ptr 29 0),qL (.ptr 22 0),qI 2,qI 1,qB false,qB true,qL (.ptr 23 0),qB true,qI 10,qI 0,qI 0,qI (-842384860),qB true,qB true,qB false,qI 0,qI 96000,qI 1,qI 1073741824,qI 0,qI 0,qI 77,qI 0,qI 0,qI 0,qI 0,qI 0,qI 0,qL (.slu 264 1)],none⟩),zsB2,(21,⟨207,(0,0),0,[qI 8000,qI 96000]++rq 7 (qI 0)++[qB true],none⟩),zsB20,(23,⟨210,(0,0),0,[qI 32,qI 268435456,qL (.slu 311 3)],none⟩),zsR 24 96000,zsR 25 96000,zsR 26 96000,(27,⟨171,(0,0),0,[qI 1,qI 0,qI 0,qI 0,qI 1,qI 16,qL (.slu 189 0),qI 96000],none⟩),zsR 28 96000,zsR 29 96000,(30,⟨27,(0,0),0,[qL (.ptr 13 0),qI 96000,qI 12,qB false],none⟩),zsB21,(264,⟨39,(0,0),10,[qI 1073741824,qI 0,qI 0,qI 77,qI 0,qI 0,qI 0,qI 0,qI 0,qI 0],none⟩),(304,⟨66,(0,0),8,[],none⟩),(311,⟨79,(0,0),11,zsO [80000,88000,96000],none⟩)]
def zsM18 (pf:Int):List (Nat×PB2):=[zsB0,zsB22 pf,zsB2,zsB23,zsB20,zsB24,zsR 24 104000,zsR 25 104000,zsR 26 104000,zsB25,zsR 28 104000,zsR 29 104000,zsB26,zsB21,(320,⟨66,(0,0),8,[],none⟩),zsB27]
def zsM19 (pf:Int):List (Nat×PB2):=[zsB22 pf,zsB2,zsB23,zsB20,zsB24,zsB28,zsR 25 104000,zsR 26 104000,zsB25,zsR 28 104000,zsR 29 104000,zsB26,zsB21,(320,⟨66,(0,0),8,[],none⟩),zsB27,zsB29]
def zsM20 (pf:Int):List (Nat×PB2):=[(13,⟨97,(0,0),0,zsPar pf++[qO,qI 1073741824,qI 0,qI 0,qI 77]++rq 12 (qI 0)++[qI 267414331,qI (-23395723),qI 322122547,qI 0,qI 0,qI 0,qI 0,qI 0]++rq 300 (qH)++[qL (.ptr 20 0),qL (.ptr 21 0),qL (.slu 518 0),qL (.ptr 24 0),qL (.ptr 25 0),qL (.ptr 26 0),qL (.ptr 27 0),qL (.ptr 28 0),qL (.ptr 29 0),qL (.ptr 22 0),qI 3,qI 2,qB true,qB false,qL (.ptr 23 0),qB true,qI 10,qI 0,qI 0,qI (-842384860),qB true,qB true,qB true,qI 112000,qI 112000,qI 3,qI 1073741824,qI 0,qI 0,qI 77,qI 0,qI 0,qI 0,qI 0,qI 0,qI 0,qL (.slu 460 2)],none⟩),zsB2,(21,⟨207,(0,0),0,[qI 8000,qI 112000]++rq 7 (qI 0)++[qB true],none⟩),zsB30,(23,⟨210,(0,0),0,[qI 32,qI 268435456,qL (.slu 525 5)],none⟩),(24,⟨171,(0,0),0,[qI 1,qI 0,qI 0,qI 0,qI 1,qI 16,qL (.slu 336 0),qI 112000],none⟩),zsR 25 112000,zsR 26 112000,(27,⟨171,(0,0),0,[qI 1,qI 0,qI 0,qI 0,qI 1,qI 16,qL (.slu 189 0),qI 112000],none⟩),zsR 28 112000,zsR 29 112000,(30,⟨27,(0,0),0,[qL (.ptr 13 0),qI 112000,qI 14,qB false],none⟩),zsB21,zsB31,(460,⟨39,(0,0),10,[qI 1073741824]++rq 9 (qI 0)++[qI 1073741824]++rq 9 (qI 0),none⟩),(518,⟨66,(0,0),8,[],none⟩),(525,⟨79,(0,0),11,zsO [80000,88000,96000,104000,112000],none⟩)]
def zsM21 (pf:Int):List (Nat×PB2):=[zsB32 pf,zsB2,zsB33,zsB30,zsB34,zsB35,zsR 25 120000,zsR 26 120000,zsB36,zsR 28 120000,zsR 29 120000,zsB37,zsB21,zsB31,(535,⟨66,(0,0),8,[],none⟩),zsB38]
def zsM22:List (Nat×PB2):=[(2,⟨51,(0,0),0,[qI 8000,qI 40000,qI 16]++rq 7 (qI 5)++[qI 1000000,qI 1000000,qI 1000000,qI 1000000,qI 1000000,qI 1000000,qI 1048576,qI 1048576,qI 1048576,qI 1048576,qI 17179869184,qI 17179869184,qI 17179869184,qI 16384,qI 16384,qI 16384,qI 1024,qI 1024,qI 1024,qI 65536,qI 65536,qI 65536,qI 16384,qI 16384,qI 16384,qI 16384,qI 16384,qI 16384,qI 17179869184,qI 17179869184]++zsVar++[qI 5000000,qI 68719476736,qI 1,qI 268435456,qI 32,qI 0,qI 0,qI 0],none⟩)]
def zsM23:List (Nat×PB2):=[(2,⟨51,(0,0),0,[qI 8000,qI 0,qI 16]++rq 7 (qI 5)++[qI 1000000,qI 1000000,qI 1000000,qI 1000000,qI 1000000,qI 1000000,qI 1048576,qI 1048576,qI 1048576,qI 1048576,qI 17179869184,qI 17179869184,qI 17179869184,qI 16384,qI 16384,qI 16384,qI 1024,qI 1024,qI 1024,qI 65536,qI 65536,qI 65536,qI 16384,qI 16384,qI 16384,qI 16384,qI 16384,qI 16384,qI 17179869184,qI 17179869184]++zsVar++[qI 5000000,qI 68719476736,qI 1,qI 268435456,qI 32,qI 0,qI 0,qI 0],none⟩)]
def zsM24 (pf:Int):List (Nat×PB2):=[(2,⟨51,(0,0),0,zsPar pf,none⟩)]
def zsM25 (pf:Int):List (Nat×PB2):=[zsB39 pf,zsB2,zsB40,zsB30,zsB41,zsB42,zsR 25 128000,zsR 26 128000,zsB43,zsR 28 128000,zsR 29 128000,zsB44,zsB21,zsB31,(552,⟨66,(0,0),8,[],none⟩),zsB45]
def zsM26 (pf:Int):List (Nat×PB2):=[zsB46 pf,zsB2,zsB47,zsB30,zsB48,zsB49,zsR 25 136000,zsR 26 136000,zsB50,zsR 28 136000,zsR 29 136000,zsB51,zsB21,zsB31,(569,⟨66,(0,0),8,[],none⟩),zsB52]
def zsM27 (pf:Int):List (Nat×PB2):=[zsB32 pf,zsB2,zsB33,zsB30,zsB34,zsB35,zsR 25 120000,(26,⟨171,(0,0),0,[qI 1,qI 0,qI 0,qI 0,qI 0,qI 16,qL (.slu 551 1),qI 120000],none⟩),zsB36,zsR 28 120000,zsR 29 120000,zsB37,zsB21,zsB31,(535,⟨66,(0,0),8,[],none⟩),zsB38,(551,⟨31,(0,0),9,[qI 120001,qI 10,qI 100,qI 100,qI 0,qI 0,qI 0,qI 0,qI 0],none⟩)]
def zsM28 (pf:Int):List (Nat×PB2):=[zsB53 pf,zsB2,zsB40,zsB54,zsB55,zsB42,zsR 25 128000,zsB56,zsB43,zsR 28 128000,zsR 29 128000,zsB44,zsB21,zsB31,zsB57,(583,⟨66,(0,0),8,[],none⟩),zsB58]
def zsM29 (pf:Int):List (Nat×PB2):=[zsB59 pf,zsB2,zsB47,zsB54,zsB60,zsB49,zsR 25 136000,zsB61,zsB50,zsR 28 136000,zsR 29 136000,zsB51,zsB21,zsB31,zsB57,(601,⟨66,(0,0),8,[],none⟩),zsB62]
def zsM30 (pf:Int):List (Nat×PB2):=[(13,⟨97,(0,0),0,zsPar pf++[qO,qI 1073741824,qI 0,qI 0,qI 77]++rq 12 (qI 0)++[qI 267414331,qI (-23395723),qI 322122547,qI 0,qI 0,qI 0,qI 0,qI 0]++rq 300 (qH)++[qL (.ptr 20 0),qL (.ptr 21 0),qL (.slu 583 0),qL (.ptr 24 0),qL (.ptr 25 0),qL (.ptr 26 0),qL (.ptr 27 0),qL (.ptr 28 0),qL (.ptr 29 0),qL (.ptr 22 0),qI 3,qI 3,qB true,qB false,qL (.ptr 23 0),qB true,qI 10,qI 0,qI 0,qI (-842384860),qB true,qB true,qB true,qI 112000,qI 128000,qI 3,qI 1073741824,qI 0,qI 0,qI 77,qI 0,qI 0,qI 0,qI 0,qI 0,qI 0,qL .nilsl],none⟩),zsB2,zsB40,zsB54,zsB55,zsB42,zsR 25 128000,zsB56,zsB43,zsR 28 128000,zsR 29 128000,zsB44,zsB21,zsB31,zsB57,(583,⟨66,(0,0),8,[],none⟩),zsB58]
def zsM31 (pf:Int):List (Nat×PB2):=[(13,⟨97,(0,0),0,zsPar pf++[qO,qI 1073741824,qI 0,qI 0,qI 77]++rq 12 (qI 0)++[qI 267414331,qI (-23395723),qI 322122547,qI 0,qI 0,qI 0,qI 0,qI 0]++rq 300 (qH)++[qL (.ptr 20 0),qL (.ptr 21 0),qL (.slu 601 0),qL (.ptr 24 0),qL (.ptr 25 0),qL (.ptr 26 0),qL (.ptr 27 0),qL (.ptr 28 0),qL (.ptr 29 0),qL (.ptr 22 0),qI 3,qI 3,qB true,qB false,qL (.ptr 23 0),qB true,qI 10,qI 0,qI 0,qI (-842384860),qB true,qB true,qB true,qI 112000,qI 136000,qI 3,qI 1073741824,qI 0,qI 0,qI 77,qI 0,qI 0,qI 0,qI 0,qI 0,qI 0,qL .nilsl],none⟩),zsB2,zsB47,zsB54,zsB60,zsB49,zsR 25 136000,zsB61,zsB50,zsR 28 136000,zsR 29 136000,zsB51,zsB21,zsB31,zsB57,(601,⟨66,(0,0),8,[],none⟩),zsB62]
def zsM32 (pf:Int):List (Nat×PB2):=[zsB32 pf,zsB2,zsB33,zsB30,zsB34,zsB35,zsB63,zsR 26 120000,zsB36,zsR 28 120000,zsR 29 120000,zsB37,zsB21,zsB31,(535,⟨66,(0,0),8,[],none⟩),zsB38,zsB64]
def zsM33 (pf:Int):List (Nat×PB2):=[zsB65 pf,zsB2,zsB40,zsB66,zsB67,zsB42,zsB68,zsR 26 128000,zsB43,zsR 28 128000,zsR 29 128000,zsB44,zsB21,zsB31,zsB57,(577,⟨66,(0,0),8,[],none⟩),zsB69]
def zsM34 (pf:Int):List (Nat×PB2):=[zsB70 pf,zsB2,zsB47,zsB66,zsB71,zsB49,zsB72,zsR 26 136000,zsB50,zsR 28 136000,zsR 29 136000,zsB51,zsB21,zsB31,zsB57,(595,⟨66,(0,0),8,[],none⟩),zsB73]
def zsM35 (pf:Int):List (Nat×PB2):=[(13,⟨97,(0,0),0,zsPar pf++[qO,qI 1073741824,qI 0,qI 0,qI 77]++rq 12 (qI 0)++[qI 267414331,qI (-23395723),qI 322122547,qI 0,qI 0,qI 0,qI 0,qI 0]++rq 300 (qH)++[qL (.ptr 20 0),qL (.ptr 21 0),qL (.slu 577 0),qL (.ptr 24 0),qL (.ptr 25 0),qL (.ptr 26 0),qL (.ptr 27 0),qL (.ptr 28 0),qL (.ptr 29 0),qL (.ptr 22 0),qI 3,qI 2,qB true,qB false,qL (.ptr 23 0),qB true,qI 10,qI 0,qI 0,qI (-842384860),qB true,qB true,qB true,qI 112000,qI 128000,qI 3,qI 1073741824,qI 0,qI 0,qI 77,qI 0,qI 0,qI 0,qI 0,qI 0,qI 0,qL .nilsl],none⟩),zsB2,zsB40,zsB66,zsB67,zsB42,zsB68,zsR 26 128000,zsB43,zsR 28 128000,zsR 29 128000,zsB44,zsB21,zsB31,zsB57,(577,⟨66,(0,0),8,[],none⟩),zsB69]
def zsM36 (pf:Int):List (Nat×PB2):=[(13,⟨97,(0,0),0,zsPar pf++[qO,qI 1073741824,qI 0,qI 0,qI 77]++rq 12 (qI 0)++[qI 267414331,qI (-23395723),qI 322122547,qI 0,qI 0,qI 0,qI 0,qI 0]++rq 300 (qH)++[qL (.ptr 20 0),qL (.ptr 21 0),qL (.slu 595 0),qL (.ptr 24 0),qL (.ptr 25 0),qL (.ptr 26 0),qL (.ptr 27 0),qL (.ptr 28 0),qL (.ptr 29 0),qL (.ptr 22 0),qI 3,qI 2,qB true,qB false,qL (.ptr 23 0),qB true,qI 10,qI 0,qI 0,qI (-842384860),qB true,qB true,qB true,qI 112000,qI 136000,qI 3,qI 1073741824,qI 0,qI 0,qI 77,qI 0,qI 0,qI 0,qI 0,qI 0,qI 0,qL .nilsl],none⟩),zsB2,zsB47,zsB66,zsB71,zsB49,zsB72,zsR 26 136000,zsB50,zsR 28 136000,zsR 29 136000,zsB51,zsB21,zsB31,zsB57,(595,⟨66,(0,0),8,[],none⟩),zsB73]
def zsM37 (pf:Int):List (Nat×PB2):=[zsB32 pf,zsB2,zsB33,zsB30,zsB34,zsB35,zsB63,(26,⟨171,(0,0),0,[qI 1,qI 0,qI 0,qI 0,qI 0,qI 16,qL (.slu 560 1),qI 120000],none⟩),zsB36,zsR 28 120000,zsR 29 120000,zsB37,zsB21,zsB31,(535,⟨66,(0,0),8,[],none⟩),zsB38,zsB64,(560,⟨31,(0,0),9,[qI 120001,qI 10,qI 100,qI 100,qI 0,qI 0,qI 0,qI 0,qI 0],none⟩)]
def zsM38 (pf:Int):List (Nat×PB2):=[zsB74 pf,zsB2,zsB40,zsB75,zsB76,zsB42,zsB68,zsB77,zsB43,zsR 28 128000,zsR 29 128000,zsB44,zsB21,zsB31,zsB57,zsB78,(608,⟨66,(0,0),8,[],none⟩),zsB79]
def zsM39 (pf:Int):List (Nat×PB2):=[zsB80 pf,zsB2,zsB47,zsB75,zsB81,zsB49,zsB72,zsB82,zsB50,zsR 28 136000,zsR 29 136000,zsB51,zsB21,zsB31,zsB57,zsB78,(627,⟨66,(0,0),8,[],none⟩),zsB83]
def zsM40 (pf:Int):List (Nat×PB2):=[(13,⟨97,(0,0),0,zsPar pf++[qO,qI 1073741824,qI 0,qI 0,qI 77]++rq 12 (qI 0)++[qI 267414331,qI (-23395723),qI 322122547,qI 0,qI 0,qI 0,qI 0,qI 0]++rq 300 (qH)++[qL (.ptr 20 0),qL (.ptr 21 0),qL (.slu 608 0),qL (.ptr 24 0),qL (.ptr 25 0),qL (.ptr 26 0),qL (.ptr 27 0),qL (.ptr 28 0),qL (.ptr 29 0),qL (.ptr 22 0),qI 3,qI 2,qB true,qB false,qL (.ptr 23 0),qB true,qI 10,qI 0,qI 0,qI (-842384860),qB true,qB true,qB true,qI 112000,qI 128000,qI 3,qI 1073741824,qI 0,qI 0,qI 77,qI 0,qI 0,qI 0,qI 0,qI 0,qI 0,qL .nilsl],none⟩),zsB2,zsB40,zsB75,zsB76,zsB42,zsB68,zsB77,zsB43,zsR 28 128000,zsR 29 128000,zsB44,zsB21,zsB31,zsB57,zsB78,(608,⟨66,(0,0),8,[],none⟩),zsB79]
def zsM41 (pf:Int):List (Nat×PB2):=[(13,⟨97,(0,0),0,zsPar pf++[qO,qI 1073741824,qI 0,qI 0,qI 77]++rq 12 (qI 0)++[qI 267414331,qI (-23395723),qI 322122547,qI 0,qI 0,qI 0,qI 0,qI 0]++rq 300 (qH)++[qL (.ptr 20 0),qL (.ptr 21 0),qL (.slu 627 0),qL (.ptr 24 0),qL (.ptr 25 0),qL (.ptr 26 0),qL (.ptr 27 0),qL (.ptr 28 0),qL (.ptr 29 0),qL (.ptr 22 0),qI 3,qI 2,qB true,qB false,qL (.ptr 23 0),qB true,qI 10,qI 0,qI 0,qI (-842384860),qB true,qB true,qB true,qI 112000,qI 136000,qI 3,qI 1073741824,qI 0,qI 0,qI 77,qI 0,qI 0,qI 0,qI 0,qI 0,qI 0,qL .nilsl],none⟩),zsB2,zsB47,zsB75,zsB81,zsB49,zsB72,zsB82,zsB50,zsR 28 136000,zsR 29 136000,zsB51,zsB21,zsB31,zsB57,zsB78,(627,⟨66,(0,0),8,[],none⟩),zsB83]
def zsM42 (pf:Int):List (Nat×PB2):=[(13,⟨97,(0,0),0,zsPar pf++[qO,qI 1073741824,qI 0,qI 0,qI 77]++rq 12 (qI 0)++[qI 267414331,qI (-23395723),qI 322122547,qI 0,qI 0,qI 0,qI 0,qI 0]++rq 300 (qH)++[qL (.ptr 20 0),qL (.ptr 21 0),qL (.slu 608 0),qL (.ptr 24 0),qL (.ptr 25 0),qL (.ptr 26 0),qL (.ptr 27 0),qL (.ptr 28 0),qL (.ptr 29 0),qL (.ptr 22 0),qI 3,qI 3,qB true,qB false,qL (.ptr 23 0),qB true,qI 10,qI 0,qI 0,qI (-842384860),qB true,qB true,qB true,qI 112000,qI 128000,qI 3,qI 1073741824,qI 0,qI 0,qI 77,qI 0,qI 0,qI 0,qI 0,qI 0,qI 0,qL .nilsl],none⟩),zsB2,zsB40,zsB75,zsB76,zsB42,zsB68,zsB77,zsB43,zsR 28 128000,zsR 29 128000,zsB44,zsB21,zsB31,zsB57,zsB78,(608,⟨66,(0,0),8,[],none⟩),zsB79]
def zsM43 (pf:Int):List (Nat×PB2):=[(13,⟨97,(0,0),0,zsPar pf++[qO,qI 1073741824,qI 0,qI 0,qI 77]++rq 12 (qI 0)++[qI 267414331,qI (-23395723),qI 322122547,qI 0,qI 0,qI 0,qI 0,qI 0]++rq 300 (qH)++[qL (.ptr 20 0),qL (.ptr 21 0),qL (.slu 627 0),qL (.ptr 24 0),qL (.ptr 25 0),qL (.ptr 26 0),qL (.ptr 27 0),qL (.ptr 28 0),qL (.ptr 29 0),qL (.ptr 22 0),qI 3,qI 3,qB true,qB false,qL (.ptr 23 0),qB true,qI 10,qI 0,qI 0,qI (-842384860),qB true,qB true,qB true,qI 112000,qI 136000,qI 3,qI 1073741824,qI 0,qI 0,qI 77,qI 0,qI 0,qI 0,qI 0,qI 0,qI 0,qL .nilsl],none⟩),zsB2,zsB47,zsB75,zsB81,zsB49,zsB72,zsB82,zsB50,zsR 28 136000,zsR 29 136000,zsB51,zsB21,zsB31,zsB57,zsB78,(627,⟨66,(0,0),8,[],none⟩),zsB83]
structure PfH (pf:Int):Prop where
 lo:0≤pf
 hi:pf≤3
theorem zs_a0 (s:Asg) {pf:Int}:ToP Tryz.prog 108 (c1 ((bodyF Tryz.prog 14))) (filS2 s ⟨[(0,.agg (zsPar pf)),(1,.one (qI 0)),(2,.agg [qI 0,qI 0,qI 0,qI 0,qI 0,qI 0,qI 1000,qI 100])],[],3⟩) .normal (Fil2 ⟨[(1,.one (qI 0)),(3,.one (qL (.ptr 3 0))),(5,.one (qL (.ptr 4 0)))],zsM0 pf,5⟩):=
 zCl 0 1 pf (fun dead=>by kernel_rfl) (fun s=>by kernel_rfl) (by kernel_rfl)
theorem zs_a1_0 (s:Asg):ToP Tryz.prog 108 (c1 (c2 ((bodyF Tryz.prog 14)))) (filS2 s ⟨[(1,.one (qI 0)),(3,.one (qL (.ptr 3 0))),(5,.one (qL (.ptr 4 0)))],zsM0 0,5⟩) .normal (Fil2 ⟨[(1,.one (qI 0)),(3,.one (qL (.ptr 3 0))),(5,.one (qL (.ptr 4 0))),(7,.one (qL (.ptr 30 0)))],zsM1 0,31⟩):=
 zCl 0 2 0 (fun dead=>by kernel_rfl) (fun s=>by kernel_rfl) (by kernel_rfl)
theorem zs_a1_1 (s:Asg):ToP Tryz.prog 108 (c1 (c2 ((bodyF Tryz.prog 14)))) (filS2 s ⟨[(1,.one (qI 0)),(3,.one (qL (.ptr 3 0))),(5,.one (qL (.ptr 4 0)))],zsM0 1,5⟩) .normal (Fil2 ⟨[(1,.one (qI 0)),(3,.one (qL (.ptr 3 0))),(5,.one (qL (.ptr 4 0))),(7,.one (qL (.ptr 30 0)))],zsM1 1,31⟩):=
 zCl 0 2 1 (fun dead=>by kernel_rfl) (fun s=>by kernel_rfl) (by kernel_rfl)
theorem zs_a1_2 (s:Asg):ToP Tryz.prog 108 (c1 (c2 ((bodyF Tryz.prog 14)))) (filS2 s ⟨[(1,.one (qI 0)),(3,.one (qL (.ptr 3 0))),(5,.one (qL (.ptr 4 0)))],zsM0 2,5⟩) .normal (Fil2 ⟨[(1,.one (qI 0)),(3,.one (qL (.ptr 3 0))),(5,.one (qL (.ptr 4 0))),(7,.one (qL (.ptr 30 0)))],zsM1 2,31⟩):=
 zCl 0 2 2 (fun dead=>by kernel_rfl) (fun s=>by kernel_rfl) (by kernel_rfl)
theorem zs_a1_3 (s:Asg):ToP Tryz.prog 108 (c1 (c2 ((bodyF Tryz.prog 14)))) (filS2 s ⟨[(1,.one (qI 0)),(3,.one (qL (.ptr 3 0))),(5,.one (qL (.ptr 4 0)))],zsM0 3,5⟩) .normal (Fil2 ⟨[(1,.one (qI 0)),(3,.one (qL (.ptr 3 0))),(5,.one (qL (.ptr 4 0))),(7,.one (qL (.ptr 30 0)))],zsM1 3,31⟩):=
 zCl 0 2 3 (fun dead=>by kernel_rfl) (fun s=>by kernel_rfl) (by kernel_rfl)
theorem zs_a1 (s:Asg) {pf:Int} (h:PfH pf):ToP Tryz.prog 108 (c1 (c2 ((bodyF Tryz.prog 14)))) (filS2 s ⟨[(1,.one (qI 0)),(3,.one (qL (.ptr 3 0))),(5,.one (qL (.ptr 4 0)))],zsM0 pf,5⟩) .normal (Fil2 ⟨[(1,.one (qI 0)),(3,.one (qL (.ptr 3 0))),(5,.one (qL (.ptr 4 0))),(7,.one (qL (.ptr 30 0)))],zsM1 pf,31⟩):=by
 obtain ⟨a,b⟩:=h
 obtain rfl | rfl | rfl | rfl:pf=0∨pf=1∨pf=2∨pf=3:=by omega
 ·exact zs_a1_0 s
 ·exact zs_a1_1 s
 ·exact zs_a1_2 s
 ·exact zs_a1_3 s
theorem zs_a2 (s:Asg) {pf:Int}:ToP Tryz.prog 108 (c1 (c2 (c2 ((bodyF Tryz.prog 14))))) (filS2 s ⟨[(1,.one (qI 0)),(3,.one (qL (.ptr 3 0))),(5,.one (qL (.ptr 4 0))),(7,.one (qL (.ptr 30 0)))],zsM1 pf,31⟩) .normal (Fil2 ⟨[(1,.one (qI 0)),(3,.one (qL (.ptr 3 0))),(5,.one (qL (.ptr 4 0))),(7,.one (qL (.ptr 30 0)))],zsM1 pf,31⟩):=
 zCl 0 2 pf (fun dead=>by kernel_rfl) (fun s=>by kernel_rfl) (by kernel_rfl)
theorem zs_a3 (s:Asg) {pf:Int}:ToP Tryz.prog 108 (c1 (c2 (c2 (c2 ((bodyF Tryz.prog 14)))))) (filS2 s ⟨[(1,.one (qI 0)),(3,.one (qL (.ptr 3 0))),(5,.one (qL (.ptr 4 0))),(7,.one (qL (.ptr 30 0)))],zsM1 pf,31⟩) .normal (Fil2 ⟨[(1,.one (qI 0)),(3,.one (qL (.ptr 3 0))),(5,.one (qL (.ptr 4 0))),(7,.one (qL (.ptr 30 0))),(8,.one (qI 0))],zsM1 pf,31⟩):=
 zCl 0 2 pf (fun dead=>by kernel_rfl) (fun s=>by kernel_rfl) (by kernel_rfl)
theorem zs_a4 (s:Asg) {pf:Int}:ToP Tryz.prog 108 (c1 (c1 (c2 (c2 (c2 (c2 ((bodyF Tryz.prog 14)))))))) (filS2 s ⟨[(1,.one (qI 0)),(3,.one (qL (.ptr 3 0))),(5,.one (qL (.ptr 4 0))),(7,.one (qL (.ptr 30 0))),(8,.one (qI 0))],zsM1 pf,31⟩) .normal (Fil2 ⟨[(1,.one (qI 0)),(3,.one (qL (.ptr 3 0))),(5,.one (qL (.ptr 4 0))),(7,.one (qL (.ptr 30 0))),(8,.one (qI 0)),(9,.one (qI 0))],zsM1 pf,31⟩):=
 zCl 0 2 pf (fun dead=>by kernel_rfl) (fun s=>by kernel_rfl) (by kernel_rfl)
theorem zs_r1 (s:Asg) {pf:Int}:ToP Tryz.prog 108 (c1 (c1 (c2 (c1 (c2 (c2 (c2 (c2 ((bodyF Tryz.prog 14)))))))))) (filS2 s ⟨[(1,.one (qI 0)),(3,.one (qL (.ptr 3 0))),(5,.one (qL (.ptr 4 0))),(7,.one (qL (.ptr 30 0))),(8,.one (qI 0)),(9,.one (qI 0))],zsM1 pf,31⟩) .normal (Fil2 ⟨[(1,.one (qI 0)),(3,.one (qL (.ptr 3 0))),(5,.one (qL (.ptr 4 0))),(7,.one (qL (.ptr 30 0))),(8,.one (qI 0)),(9,.one (qI 1))],zsM2 pf,43⟩):=
 zCl 3 2 pf (fun dead=>by kernel_rfl) (fun s=>by kernel_rfl) (by kernel_rfl)
theorem zs_r2 (s:Asg) {pf:Int}:ToP Tryz.prog 108 (c1 (c1 (c2 (c1 (c2 (c2 (c2 (c2 ((bodyF Tryz.prog 14)))))))))) (filS2 s ⟨[(1,.one (qI 0)),(3,.one (qL (.ptr 3 0))),(5,.one (qL (.ptr 4 0))),(7,.one (qL (.ptr 30 0))),(8,.one (qI 0)),(9,.one (qI 1))],zsM2 pf,43⟩) .normal (Fil2 ⟨[(1,.one (qI 0)),(3,.one (qL (.ptr 3 0))),(5,.one (qL (.ptr 4 0))),(7,.one (qL (.ptr 30 0))),(8,.one (qI 0)),(9,.one (qI 2))],zsM3 pf,55⟩):=
 zCl 3 2 pf (fun dead=>by kernel_rfl) (fun s=>by kernel_rfl) (by kernel_rfl)
theorem zs_r3 (s:Asg) {pf:Int}:ToP Tryz.prog 108 (c1 (c1 (c2 (c1 (c2 (c2 (c2 (c2 ((bodyF Tryz.prog 14)))))))))) (filS2 s ⟨[(1,.one (qI 0)),(3,.one (qL (.ptr 3 0))),(5,.one (qL (.ptr 4 0))),(7,.one (qL (.ptr 30 0))),(8,.one (qI 0)),(9,.one (qI 2))],zsM3 pf,55⟩) .normal (Fil2 ⟨[(1,.one (qI 0)),(3,.one (qL (.ptr 3 0))),(5,.one (qL (.ptr 4 0))),(7,.one (qL (.ptr 30 0))),(8,.one (qI 0)),(9,.one (qI 3))],zsM4 pf,67⟩):=
 zCl 3 2 pf (fun dead=>by kernel_rfl) (fun s=>by kernel_rfl) (by kernel_rfl)
theorem zs_r4 (s:Asg) {pf:Int}:ToP Tryz.prog 108 (c1 (c1 (c2 (c1 (c2 (c2 (c2 (c2 ((bodyF Tryz.prog 14)))))))))) (filS2 s ⟨[(1,.one (qI 0)),(3,.one (qL (.ptr 3 0))),(5,.one (qL (.ptr 4 0))),(7,.one (qL (.ptr 30 0))),(8,.one (qI 0)),(9,.one (qI 3))],zsM4 pf,67⟩) .normal (Fil2 ⟨[(1,.one (qI 0)),(3,.one (qL (.ptr 3 0))),(5,.one (qL (.ptr 4 0))),(7,.one (qL (.ptr 30 0))),(8,.one (qI 0)),(9,.one (qI 4))],zsM5 pf,79⟩):=
 zCl 3 2 pf (fun dead=>by kernel_rfl) (fun s=>by kernel_rfl) (by kernel_rfl)
theorem zs_r5 (s:Asg) {pf:Int}:ToP Tryz.prog 108 (c1 (c1 (c2 (c1 (c2 (c2 (c2 (c2 ((bodyF Tryz.prog 14)))))))))) (filS2 s ⟨[(1,.one (qI 0)),(3,.one (qL (.ptr 3 0))),(5,.one (qL (.ptr 4 0))),(7,.one (qL (.ptr 30 0))),(8,.one (qI 0)),(9,.one (qI 4))],zsM5 pf,79⟩) .normal (Fil2 ⟨[(1,.one (qI 0)),(3,.one (qL (.ptr 3 0))),(5,.one (qL (.ptr 4 0))),(7,.one (qL (.ptr 30 0))),(8,.one (qI 0)),(9,.one (qI 5))],zsM6 pf,91⟩):=
 zCl 3 2 pf (fun dead=>by kernel_rfl) (fun s=>by kernel_rfl) (by kernel_rfl)
theorem zs_r6 (s:Asg) {pf:Int}:ToP Tryz.prog 108 (c1 (c1 (c2 (c1 (c2 (c2 (c2 (c2 ((bodyF Tryz.prog 14)))))))))) (filS2 s ⟨[(1,.one (qI 0)),(3,.one (qL (.ptr 3 0))),(5,.one (qL (.ptr 4 0))),(7,.one (qL (.ptr 30 0))),(8,.one (qI 0)),(9,.one (qI 5))],zsM6 pf,91⟩) .normal (Fil2 ⟨[(1,.one (qI 0)),(3,.one (qL (.ptr 3 0))),(5,.one (qL (.ptr 4 0))),(7,.one (qL (.ptr 30 0))),(8,.one (qI 0)),(9,.one (qI 6))],zsM7 pf,103⟩):=
 zCl 3 2 pf (fun dead=>by kernel_rfl) (fun s=>by kernel_rfl) (by kernel_rfl)
theorem zs_r7 (s:Asg) {pf:Int}:ToP Tryz.prog 108 (c1 (c1 (c2 (c1 (c2 (c2 (c2 (c2 ((bodyF Tryz.prog 14)))))))))) (filS2 s ⟨[(1,.one (qI 0)),(3,.one (qL (.ptr 3 0))),(5,.one (qL (.ptr 4 0))),(7,.one (qL (.ptr 30 0))),(8,.one (qI 0)),(9,.one (qI 6))],zsM7 pf,103⟩) .normal (Fil2 ⟨[(1,.one (qI 0)),(3,.one (qL (.ptr 3 0))),(5,.one (qL (.ptr 4 0))),(7,.one (qL (.ptr 30 0))),(8,.one (qI 0)),(9,.one (qI 7))],zsM8 pf,115⟩):=
 zCl 3 2 pf (fun dead=>by kernel_rfl) (fun s=>by kernel_rfl) (by kernel_rfl)
theorem zs_r8 (s:Asg) {pf:Int}:ToP Tryz.prog 108 (c1 (c1 (c2 (c1 (c2 (c2 (c2 (c2 ((bodyF Tryz.prog 14)))))))))) (filS2 s ⟨[(1,.one (qI 0)),(3,.one (qL (.ptr 3 0))),(5,.one (qL (.ptr 4 0))),(7,.one (qL (.ptr 30 0))),(8,.one (qI 0)),(9,.one (qI 7))],zsM8 pf,115⟩) .normal (Fil2 ⟨[(1,.one (qI 0)),(3,.one (qL (.ptr 3 0))),(5,.one (qL (.ptr 4 0))),(7,.one (qL (.ptr 30 0))),(8,.one (qI 0)),(9,.one (qI 8))],zsM9 pf,127⟩):=
 zCl 3 2 pf (fun dead=>by kernel_rfl) (fun s=>by kernel_rfl) (by kernel_rfl)
theorem zs_r9 (s:Asg) {pf:Int}:ToP Tryz.prog 108 (c1 (c1 (c2 (c1 (c2 (c2 (c2 (c2 ((bodyF Tryz.prog 14)))))))))) (filS2 s ⟨[(1,.one (qI 0)),(3,.one (qL (.ptr 3 0))),(5,.one (qL (.ptr 4 0))),(7,.one (qL (.ptr 30 0))),(8,.one (qI 0)),(9,.one (qI 8))],zsM9 pf,127⟩) .normal (Fil2 ⟨[(1,.one (qI 0)),(3,.one (qL (.ptr 3 0))),(5,.one (qL (.ptr 4 0))),(7,.one (qL (.ptr 30 0))),(8,.one (qI 0)),(9,.one (qI 9))],zsM10 pf,139⟩):=
 zCl 3 2 pf (fun dead=>by kernel_rfl) (fun s=>by kernel_rfl) (by kernel_rfl)
theorem zs_r10 (s:Asg) {pf:Int}:ToP Tryz.prog 108 (c1 (c1 (c2 (c1 (c2 (c2 (c2 (c2 ((bodyF Tryz.prog 14)))))))))) (filS2 s ⟨[(1,.one (qI 0)),(3,.one (qL (.ptr 3 0))),(5,.one (qL (.ptr 4 0))),(7,.one (qL (.ptr 30 0))),(8,.one (qI 0)),(9,.one (qI 9))],zsM10 pf,139⟩) .normal (Fil2 ⟨[(1,.one (qI 0)),(3,.one (qL (.ptr 3 0))),(5,.one (qL (.ptr 4 0))),(7,.one (qL (.ptr 30 0))),(8,.one (qI 0)),(9,.one (qI 10))],zsM11 pf,160⟩):=
 zCl 4 2 pf (fun dead=>by kernel_rfl) (fun s=>by kernel_rfl) (by kernel_rfl)
theorem zs_r11 (s:Asg) {pf:Int}:ToP Tryz.prog 108 (c1 (c1 (c2 (c1 (c2 (c2 (c2 (c2 ((bodyF Tryz.prog 14)))))))))) (filS2 s ⟨[(1,.one (qI 0)),(3,.one (qL (.ptr 3 0))),(5,.one (qL (.ptr 4 0))),(7,.one (qL (.ptr 30 0))),(8,.one (qI 0)),(9,.one (qI 10))],zsM11 pf,160⟩) .normal (Fil2 ⟨[(1,.one (qI 0)),(3,.one (qL (.ptr 3 0))),(5,.one (qL (.ptr 4 0))),(7,.one (qL (.ptr 30 0))),(8,.one (qI 0)),(9,.one (qI 11))],zsM12 pf,175⟩):=
 zCl 6 2 pf (fun dead=>by kernel_rfl) (fun s=>by kernel_rfl) (by kernel_rfl)
theorem zs_a4e (s:Asg) {pf:Int}:ToP Tryz.prog 108 (c1 (c1 (c2 (c1 (c2 (c2 (c2 (c2 ((bodyF Tryz.prog 14)))))))))) (filS2 s ⟨[(1,.one (qI 0)),(3,.one (qL (.ptr 3 0))),(5,.one (qL (.ptr 4 0))),(7,.one (qL (.ptr 30 0))),(8,.one (qI 0)),(9,.one (qI 11))],zsM12 pf,175⟩) (.exit 0) (Fil2 ⟨[(1,.one (qI 0)),(3,.one (qL (.ptr 3 0))),(5,.one (qL (.ptr 4 0))),(7,.one (qL (.ptr 30 0))),(8,.one (qI 0))],zsM12 pf,175⟩):=
 zCl 0 2 pf (fun dead=>by kernel_rfl) (fun s=>by kernel_rfl) (by kernel_rfl)
theorem zs_b5 (s:Asg) {pf:Int}:ToP Tryz.prog 108 (c1 (c2 (c2 (c2 (c2 (c2 ((bodyF Tryz.prog 14)))))))) (filS2 s ⟨[(1,.one (qI 0)),(3,.one (qL (.ptr 3 0))),(5,.one (qL (.ptr 4 0))),(7,.one (qL (.ptr 30 0))),(8,.one (qI 0))],zsM12 pf,175⟩) .normal (Fil2 ⟨[(1,.one (qI 0)),(3,.one (qL (.ptr 3 0))),(5,.one (qL (.ptr 4 0))),(7,.one (qL (.ptr 30 0))),(8,.one (qI 0)),(10,.one (qL (.ptr 175 0)))],zsM13 pf,176⟩):=
 zCl 0 2 pf (fun dead=>by kernel_rfl) (fun s=>by kernel_rfl) (by kernel_rfl)
theorem zs_b6 (s:Asg) {pf:Int}:ToP Tryz.prog 108 (c1 (c2 (c2 (c2 (c2 (c2 (c2 ((bodyF Tryz.prog 14))))))))) (filS2 s ⟨[(1,.one (qI 0)),(3,.one (qL (.ptr 3 0))),(5,.one (qL (.ptr 4 0))),(7,.one (qL (.ptr 30 0))),(8,.one (qI 0)),(10,.one (qL (.ptr 175 0)))],zsM13 pf,176⟩) .normal (Fil2 ⟨[(1,.one (qI 0)),(3,.one (qL (.ptr 3 0))),(5,.one (qL (.ptr 4 0))),(7,.one (qL (.ptr 30 0))),(8,.one (qI 0)),(10,.one (qL (.ptr 175 0))),(11,.one (qI (-93701651))),(12,.one (qI 0))],zsM13 pf,184⟩):=
 zCl 0 2 pf (fun dead=>by kernel_rfl) (fun s=>by kernel_rfl) (by kernel_rfl)
theorem zs_b7 (s:Asg) {pf:Int}:ToP Tryz.prog 108 (c1 (c2 (c2 (c2 (c2 (c2 (c2 (c2 ((bodyF Tryz.prog 14)))))))))) (filS2 s ⟨[(1,.one (qI 0)),(3,.one (qL (.ptr 3 0))),(5,.one (qL (.ptr 4 0))),(7,.one (qL (.ptr 30 0))),(8,.one (qI 0)),(10,.one (qL (.ptr 175 0))),(11,.one (qI (-93701651))),(12,.one (qI 0))],zsM13 pf,184⟩) .normal (Fil2 ⟨[(1,.one (qI 0)),(3,.one (qL (.ptr 3 0))),(5,.one (qL (.ptr 4 0))),(7,.one (qL (.ptr 30 0))),(8,.one (qI 0)),(10,.one (qL (.ptr 175 0))),(11,.one (qI (-93701651)))],zsM13 pf,184⟩):=
 zCl 0 2 pf (fun dead=>by kernel_rfl) (fun s=>by kernel_rfl) (by kernel_rfl)
theorem zs_b8 (s:Asg) {pf:Int}:ToP Tryz.prog 108 (c1 (c2 (c2 (c2 (c2 (c2 (c2 (c2 (c2 ((bodyF Tryz.prog 14))))))))))) (filS2 s ⟨[(1,.one (qI 0)),(3,.one (qL (.ptr 3 0))),(5,.one (qL (.ptr 4 0))),(7,.one (qL (.ptr 30 0))),(8,.one (qI 0)),(10,.one (qL (.ptr 175 0))),(11,.one (qI (-93701651)))],zsM13 pf,184⟩) .normal (Fil2 ⟨[(5,.one (qL (.ptr 4 0))),(7,.one (qL (.ptr 30 0))),(8,.one (qI 0)),(10,.one (qL (.ptr 175 0))),(13,.one (qL (.ptr 184 0)))],zsM14 pf,185⟩):=
 zCl 0 1 pf (fun dead=>by kernel_rfl) (fun s=>by kernel_rfl) (by kernel_rfl)
theorem zs_b9 (s:Asg) {pf:Int}:ToP Tryz.prog 108 (c1 (c2 (c2 (c2 (c2 (c2 (c2 (c2 (c2 (c2 ((bodyF Tryz.prog 14)))))))))))) (filS2 s ⟨[(5,.one (qL (.ptr 4 0))),(7,.one (qL (.ptr 30 0))),(8,.one (qI 0)),(10,.one (qL (.ptr 175 0))),(13,.one (qL (.ptr 184 0)))],zsM14 pf,185⟩) .normal (Fil2 ⟨[(5,.one (qL (.ptr 4 0))),(7,.one (qL (.ptr 30 0))),(8,.one (qI 0)),(14,.one (qL (.ptr 185 0)))],zsM15 pf,186⟩):=
 zCl 0 1 pf (fun dead=>by kernel_rfl) (fun s=>by kernel_rfl) (by kernel_rfl)
theorem zs_b10 (s:Asg) {pf:Int}:ToP Tryz.prog 108 (c1 (c2 (c2 (c2 (c2 (c2 (c2 (c2 (c2 (c2 (c2 ((bodyF Tryz.prog 14))))))))))))) (filS2 s ⟨[(5,.one (qL (.ptr 4 0))),(7,.one (qL (.ptr 30 0))),(8,.one (qI 0)),(14,.one (qL (.ptr 185 0)))],zsM15 pf,186⟩) .normal (Fil2 ⟨[(5,.one (qL (.ptr 4 0))),(7,.one (qL (.ptr 30 0))),(8,.one (qI 0))],zsM16 pf,196⟩):=
 zCl 1 1 pf (fun dead=>by kernel_rfl) (fun s=>by kernel_rfl) (by kernel_rfl)
theorem zs_c0 (s:Asg) {pf:Int}:ToP Tryz.prog 108 (c1 (c1 (c2 (c2 (c2 (c2 (c2 (c2 (c2 (c2 (c2 (c2 (c2 ((bodyF Tryz.prog 14))))))))))))))) (filS2 s ⟨[(5,.one (qL (.ptr 4 0))),(7,.one (qL (.ptr 30 0))),(8,.one (qI 0))],zsM16 pf,196⟩) .normal (Fil2 ⟨[(5,.one (qL (.ptr 4 0))),(7,.one (qL (.ptr 30 0))),(8,.one (qI 0)),(15,.one (qI 0))],zsM16 pf,196⟩):=
 zCl 0 1 pf (fun dead=>by kernel_rfl) (fun s=>by kernel_rfl) (by kernel_rfl)
theorem zs_h1_0 (s:Asg):ToP Tryz.prog 108 (c1 (c1 (c2 (c1 (c2 (c2 (c2 (c2 (c2 (c2 (c2 (c2 (c2 (c2 (c2 ((bodyF Tryz.prog 14))))))))))))))))) (filS2 s ⟨[(5,.one (qL (.ptr 4 0))),(7,.one (qL (.ptr 30 0))),(8,.one (qI 0)),(15,.one (qI 0))],zsM16 0,196⟩) .normal (Fil2 ⟨[(5,.one (qL (.ptr 4 0))),(7,.one (qL (.ptr 30 0))),(8,.one (qI 0)),(15,.one (qI 1))],zsM17 0,317⟩):=
 zCl 32 1 0 (fun dead=>by kernel_rfl) (fun s=>by kernel_rfl) (by kernel_rfl)
theorem zs_h1_1 (s:Asg):ToP Tryz.prog 108 (c1 (c1 (c2 (c1 (c2 (c2 (c2 (c2 (c2 (c2 (c2 (c2 (c2 (c2 (c2 ((bodyF Tryz.prog 14))))))))))))))))) (filS2 s ⟨[(5,.one (qL (.ptr 4 0))),(7,.one (qL (.ptr 30 0))),(8,.one (qI 0)),(15,.one (qI 0))],zsM16 1,196⟩) .normal (Fil2 ⟨[(5,.one (qL (.ptr 4 0))),(7,.one (qL (.ptr 30 0))),(8,.one (qI 0)),(15,.one (qI 1))],zsM17 1,317⟩):=
 zCl 32 1 1 (fun dead=>by kernel_rfl) (fun s=>by kernel_rfl) (by kernel_rfl)
theorem zs_h1_2 (s:Asg):ToP Tryz.prog 108 (c1 (c1 (c2 (c1 (c2 (c2 (c2 (c2 (c2 (c2 (c2 (c2 (c2 (c2 (c2 ((bodyF Tryz.prog 14))))))))))))))))) (filS2 s ⟨[(5,.one (qL (.ptr 4 0))),(7,.one (qL (.ptr 30 0))),(8,.one (qI 0)),(15,.one (qI 0))],zsM16 2,196⟩) .normal (Fil2 ⟨[(5,.one (qL (.ptr 4 0))),(7,.one (qL (.ptr 30 0))),(8,.one (qI 0)),(15,.one (qI 1))],zsM17 2,317⟩):=
 zCl 32 1 2 (fun dead=>by kernel_rfl) (fun s=>by kernel_rfl) (by kernel_rfl)
theorem zs_h1_3 (s:Asg):ToP Tryz.prog 108 (c1 (c1 (c2 (c1 (c2 (c2 (c2 (c2 (c2 (c2 (c2 (c2 (c2 (c2 (c2 ((bodyF Tryz.prog 14))))))))))))))))) (filS2 s ⟨[(5,.one (qL (.ptr 4 0))),(7,.one (qL (.ptr 30 0))),(8,.one (qI 0)),(15,.one (qI 0))],zsM16 3,196⟩) .normal (Fil2 ⟨[(5,.one (qL (.ptr 4 0))),(7,.one (qL (.ptr 30 0))),(8,.one (qI 0)),(15,.one (qI 1))],zsM17 3,317⟩):=
 zCl 32 1 3 (fun dead=>by kernel_rfl) (fun s=>by kernel_rfl) (by kernel_rfl)
theorem zs_h1 (s:Asg) {pf:Int} (h:PfH pf):ToP Tryz.prog 108 (c1 (c1 (c2 (c1 (c2 (c2 (c2 (c2 (c2 (c2 (c2 (c2 (c2 (c2 (c2 ((bodyF Tryz.prog 14))))))))))))))))) (filS2 s ⟨[(5,.one (qL (.ptr 4 0))),(7,.one (qL (.ptr 30 0))),(8,.one (qI 0)),(15,.one (qI 0))],zsM16 pf,196⟩) .normal (Fil2 ⟨[(5,.one (qL (.ptr 4 0))),(7,.one (qL (.ptr 30 0))),(8,.one (qI 0)),(15,.one (qI 1))],zsM17 pf,317⟩):=by
 obtain ⟨a,b⟩:=h
 obtain rfl | rfl | rfl | rfl:pf=0∨pf=1∨pf=2∨pf=3:=by omega
 ·exact zs_h1_0 s
 ·exact zs_h1_1 s
 ·exact zs_h1_2 s
 ·exact zs_h1_3 s
theorem zs_h2_0 (s:Asg):ToP Tryz.prog 108 (c1 (c1 (c2 (c1 (c2 (c2 (c2 (c2 (c2 (c2 (c2 (c2 (c2 (c2 (c2 ((bodyF Tryz.prog 14))))))))))))))))) (filS2 s ⟨[(5,.one (qL (.ptr 4 0))),(7,.one (qL (.ptr 30 0))),(8,.one (qI 0)),(15,.one (qI 1))],zsM17 0,317⟩) .normal (Fil2 ⟨[(5,.one (qL (.ptr 4 0))),(7,.one (qL (.ptr 30 0))),(8,.one (qI 0)),(15,.one (qI 2))],zsM18 0,333⟩):=
 zCl 8 1 0 (fun dead=>by kernel_rfl) (fun s=>by kernel_rfl) (by kernel_rfl)
theorem zs_h2_1 (s:Asg):ToP Tryz.prog 108 (c1 (c1 (c2 (c1 (c2 (c2 (c2 (c2 (c2 (c2 (c2 (c2 (c2 (c2 (c2 ((bodyF Tryz.prog 14))))))))))))))))) (filS2 s ⟨[(5,.one (qL (.ptr 4 0))),(7,.one (qL (.ptr 30 0))),(8,.one (qI 0)),(15,.one (qI 1))],zsM17 1,317⟩) .normal (Fil2 ⟨[(5,.one (qL (.ptr 4 0))),(7,.one (qL (.ptr 30 0))),(8,.one (qI 0)),(15,.one (qI 2))],zsM18 1,333⟩):=
 zCl 8 1 1 (fun dead=>by kernel_rfl) (fun s=>by kernel_rfl) (by kernel_rfl)
theorem zs_h2_2 (s:Asg):ToP Tryz.prog 108 (c1 (c1 (c2 (c1 (c2 (c2 (c2 (c2 (c2 (c2 (c2 (c2 (c2 (c2 (c2 ((bodyF Tryz.prog 14))))))))))))))))) (filS2 s ⟨[(5,.one (qL (.ptr 4 0))),(7,.one (qL (.ptr 30 0))),(8,.one (qI 0)),(15,.one (qI 1))],zsM17 2,317⟩) .normal (Fil2 ⟨[(5,.one (qL (.ptr 4 0))),(7,.one (qL (.ptr 30 0))),(8,.one (qI 0)),(15,.one (qI 2))],zsM18 2,333⟩):=
 zCl 8 1 2 (fun dead=>by kernel_rfl) (fun s=>by kernel_rfl) (by kernel_rfl)
theorem zs_h2_3 (s:Asg):ToP Tryz.prog 108 (c1 (c1 (c2 (c1 (c2 (c2 (c2 (c2 (c2 (c2 (c2 (c2 (c2 (c2 (c2 ((bodyF Tryz.prog 14))))))))))))))))) (filS2 s ⟨[(5,.one (qL (.ptr 4 0))),(7,.one (qL (.ptr 30 0))),(8,.one (qI 0)),(15,.one (qI 1))],zsM17 3,317⟩) .normal (Fil2 ⟨[(5,.one (qL (.ptr 4 0))),(7,.one (qL (.ptr 30 0))),(8,.one (qI 0)),(15,.one (qI 2))],zsM18 3,333⟩):=
 zCl 8 1 3 (fun dead=>by kernel_rfl) (fun s=>by kernel_rfl) (by kernel_rfl)
theorem zs_h2 (s:Asg) {pf:Int} (h:PfH pf):ToP Tryz.prog 108 (c1 (c1 (c2 (c1 (c2 (c2 (c2 (c2 (c2 (c2 (c2 (c2 (c2 (c2 (c2 ((bodyF Tryz.prog 14))))))))))))))))) (filS2 s ⟨[(5,.one (qL (.ptr 4 0))),(7,.one (qL (.ptr 30 0))),(8,.one (qI 0)),(15,.one (qI 1))],zsM17 pf,317⟩) .normal (Fil2 ⟨[(5,.one (qL (.ptr 4 0))),(7,.one (qL (.ptr 30 0))),(8,.one (qI 0)),(15,.one (qI 2))],zsM18 pf,333⟩):=by
 obtain ⟨a,b⟩:=h
 obtain rfl | rfl | rfl | rfl:pf=0∨pf=1∨pf=2∨pf=3:=by omega
 ·exact zs_h2_0 s
 ·exact zs_h2_1 s
 ·exact zs_h2_2 s
 ·exact zs_h2_3 s
theorem zs_c1 (s:Asg) {pf:Int}:ToP Tryz.prog 108 (c1 (c1 (c2 (c1 (c2 (c2 (c2 (c2 (c2 (c2 (c2 (c2 (c2 (c2 (c2 ((bodyF Tryz.prog 14))))))))))))))))) (filS2 s ⟨[(5,.one (qL (.ptr 4 0))),(7,.one (qL (.ptr 30 0))),(8,.one (qI 0)),(15,.one (qI 2))],zsM18 pf,333⟩) (.exit 2) (Fil2 ⟨[(5,.one (qL (.ptr 4 0))),(7,.one (qL (.ptr 30 0))),(8,.one (qI 0))],zsM18 pf,333⟩):=
 zCl 0 1 pf (fun dead=>by kernel_rfl) (fun s=>by kernel_rfl) (by kernel_rfl)
theorem zs_c2 (s:Asg) {pf:Int}:ToP Tryz.prog 108 (c1 (c2 (c2 (c2 (c2 (c2 (c2 (c2 (c2 (c2 (c2 (c2 (c2 ((bodyF Tryz.prog 14))))))))))))))) (filS2 s ⟨[(5,.one (qL (.ptr 4 0))),(7,.one (qL (.ptr 30 0))),(8,.one (qI 0))],zsM18 pf,333⟩) .normal (Fil2 ⟨[(7,.one (qL (.ptr 30 0))),(8,.one (qI 0))],zsM19 pf,343⟩):=
 zCl 1 1 pf (fun dead=>by kernel_rfl) (fun s=>by kernel_rfl) (by kernel_rfl)
theorem zs_d0 (s:Asg) {pf:Int}:ToP Tryz.prog 108 (c1 (c1 (c2 (c2 (c2 (c2 (c2 (c2 (c2 (c2 (c2 (c2 (c2 (c2 (c2 ((bodyF Tryz.prog 14))))))))))))))))) (filS2 s ⟨[(7,.one (qL (.ptr 30 0))),(8,.one (qI 0))],zsM19 pf,343⟩) .normal (Fil2 ⟨[(7,.one (qL (.ptr 30 0))),(8,.one (qI 0)),(16,.one (qI 0))],zsM19 pf,343⟩):=
 zCl 0 1 pf (fun dead=>by kernel_rfl) (fun s=>by kernel_rfl) (by kernel_rfl)
theorem zs_g1_0 (s:Asg):ToP Tryz.prog 108 (c1 (c1 (c2 (c1 (c2 (c2 (c2 (c2 (c2 (c2 (c2 (c2 (c2 (c2 (c2 (c2 (c2 ((bodyF Tryz.prog 14))))))))))))))))))) (filS2 s ⟨[(7,.one (qL (.ptr 30 0))),(8,.one (qI 0)),(16,.one (qI 0))],zsM19 0,343⟩) .normal (Fil2 ⟨[(7,.one (qL (.ptr 30 0))),(8,.one (qI 0)),(16,.one (qI 1))],zsM20 0,531⟩):=
 zCl 48 1 0 (fun dead=>by kernel_rfl) (fun s=>by kernel_rfl) (by kernel_rfl)
theorem zs_g1_1 (s:Asg):ToP Tryz.prog 108 (c1 (c1 (c2 (c1 (c2 (c2 (c2 (c2 (c2 (c2 (c2 (c2 (c2 (c2 (c2 (c2 (c2 ((bodyF Tryz.prog 14))))))))))))))))))) (filS2 s ⟨[(7,.one (qL (.ptr 30 0))),(8,.one (qI 0)),(16,.one (qI 0))],zsM19 1,343⟩) .normal (Fil2 ⟨[(7,.one (qL (.ptr 30 0))),(8,.one (qI 0)),(16,.one (qI 1))],zsM20 1,531⟩):=
 zCl 48 1 1 (fun dead=>by kernel_rfl) (fun s=>by kernel_rfl) (by kernel_rfl)
theorem zs_g1_2 (s:Asg):ToP Tryz.prog 108 (c1 (c1 (c2 (c1 (c2 (c2 (c2 (c2 (c2 (c2 (c2 (c2 (c2 (c2 (c2 (c2 (c2 ((bodyF Tryz.prog 14))))))))))))))))))) (filS2 s ⟨[(7,.one (qL (.ptr 30 0))),(8,.one (qI 0)),(16,.one (qI 0))],zsM19 2,343⟩) .normal (Fil2 ⟨[(7,.one (qL (.ptr 30 0))),(8,.one (qI 0)),(16,.one (qI 1))],zsM20 2,531⟩):=
 zCl 48 1 2 (fun dead=>by kernel_rfl) (fun s=>by kernel_rfl) (by kernel_rfl)
theorem zs_g1_3 (s:Asg):ToP Tryz.prog 108 (c1 (c1 (c2 (c1 (c2 (c2 (c2 (c2 (c2 (c2 (c2 (c2 (c2 (c2 (c2 (c2 (c2 ((bodyF Tryz.prog 14))))))))))))))))))) (filS2 s ⟨[(7,.one (qL (.ptr 30 0))),(8,.one (qI 0)),(16,.one (qI 0))],zsM19 3,343⟩) .normal (Fil2 ⟨[(7,.one (qL (.ptr 30 0))),(8,.one (qI 0)),(16,.one (qI 1))],zsM20 3,531⟩):=
 zCl 48 1 3 (fun dead=>by kernel_rfl) (fun s=>by kernel_rfl) (by kernel_rfl)
theorem zs_g1 (s:Asg) {pf:Int} (h:PfH pf):ToP Tryz.prog 108 (c1 (c1 (c2 (c1 (c2 (c2 (c2 (c2 (c2 (c2 (c2 (c2 (c2 (c2 (c2 (c2 (c2 ((bodyF Tryz.prog 14))))))))))))))))))) (filS2 s ⟨[(7,.one (qL (.ptr 30 0))),(8,.one (qI 0)),(16,.one (qI 0))],zsM19 pf,343⟩) .normal (Fil2 ⟨[(7,.one (qL (.ptr 30 0))),(8,.one (qI 0)),(16,.one (qI 1))],zsM20 pf,531⟩):=by
 obtain ⟨a,b⟩:=h
 obtain rfl | rfl | rfl | rfl:pf=0∨pf=1∨pf=2∨pf=3:=by omega
 ·exact zs_g1_0 s
 ·exact zs_g1_1 s
 ·exact zs_g1_2 s
 ·exact zs_g1_3 s
theorem zs_g2_0 (s:Asg):ToP Tryz.prog 108 (c1 (c1 (c2 (c1 (c2 (c2 (c2 (c2 (c2 (c2 (c2 (c2 (c2 (c2 (c2 (c2 (c2 ((bodyF Tryz.prog 14))))))))))))))))))) (filS2 s ⟨[(7,.one (qL (.ptr 30 0))),(8,.one (qI 0)),(16,.one (qI 1))],zsM20 0,531⟩) .normal (Fil2 ⟨[(7,.one (qL (.ptr 30 0))),(8,.one (qI 0)),(16,.one (qI 2))],zsM21 0,548⟩):=
 zCl 10 1 0 (fun dead=>by kernel_rfl) (fun s=>by kernel_rfl) (by kernel_rfl)
theorem zs_g2_1 (s:Asg):ToP Tryz.prog 108 (c1 (c1 (c2 (c1 (c2 (c2 (c2 (c2 (c2 (c2 (c2 (c2 (c2 (c2 (c2 (c2 (c2 ((bodyF Tryz.prog 14))))))))))))))))))) (filS2 s ⟨[(7,.one (qL (.ptr 30 0))),(8,.one (qI 0)),(16,.one (qI 1))],zsM20 1,531⟩) .normal (Fil2 ⟨[(7,.one (qL (.ptr 30 0))),(8,.one (qI 0)),(16,.one (qI 2))],zsM21 1,548⟩):=
 zCl 10 1 1 (fun dead=>by kernel_rfl) (fun s=>by kernel_rfl) (by kernel_rfl)
theorem zs_g2_2 (s:Asg):ToP Tryz.prog 108 (c1 (c1 (c2 (c1 (c2 (c2 (c2 (c2 (c2 (c2 (c2 (c2 (c2 (c2 (c2 (c2 (c2 ((bodyF Tryz.prog 14))))))))))))))))))) (filS2 s ⟨[(7,.one (qL (.ptr 30 0))),(8,.one (qI 0)),(16,.one (qI 1))],zsM20 2,531⟩) .normal (Fil2 ⟨[(7,.one (qL (.ptr 30 0))),(8,.one (qI 0)),(16,.one (qI 2))],zsM21 2,548⟩):=
 zCl 10 1 2 (fun dead=>by kernel_rfl) (fun s=>by kernel_rfl) (by kernel_rfl)
theorem zs_g2_3 (s:Asg):ToP Tryz.prog 108 (c1 (c1 (c2 (c1 (c2 (c2 (c2 (c2 (c2 (c2 (c2 (c2 (c2 (c2 (c2 (c2 (c2 ((bodyF Tryz.prog 14))))))))))))))))))) (filS2 s ⟨[(7,.one (qL (.ptr 30 0))),(8,.one (qI 0)),(16,.one (qI 1))],zsM20 3,531⟩) .normal (Fil2 ⟨[(7,.one (qL (.ptr 30 0))),(8,.one (qI 0)),(16,.one (qI 2))],zsM21 3,548⟩):=
 zCl 10 1 3 (fun dead=>by kernel_rfl) (fun s=>by kernel_rfl) (by kernel_rfl)
theorem zs_g2 (s:Asg) {pf:Int} (h:PfH pf):ToP Tryz.prog 108 (c1 (c1 (c2 (c1 (c2 (c2 (c2 (c2 (c2 (c2 (c2 (c2 (c2 (c2 (c2 (c2 (c2 ((bodyF Tryz.prog 14))))))))))))))))))) (filS2 s ⟨[(7,.one (qL (.ptr 30 0))),(8,.one (qI 0)),(16,.one (qI 1))],zsM20 pf,531⟩) .normal (Fil2 ⟨[(7,.one (qL (.ptr 30 0))),(8,.one (qI 0)),(16,.one (qI 2))],zsM21 pf,548⟩):=by
 obtain ⟨a,b⟩:=h
 obtain rfl | rfl | rfl | rfl:pf=0∨pf=1∨pf=2∨pf=3:=by omega
 ·exact zs_g2_0 s
 ·exact zs_g2_1 s
 ·exact zs_g2_2 s
 ·exact zs_g2_3 s
theorem zs_d1 (s:Asg) {pf:Int}:ToP Tryz.prog 108 (c1 (c1 (c2 (c1 (c2 (c2 (c2 (c2 (c2 (c2 (c2 (c2 (c2 (c2 (c2 (c2 (c2 ((bodyF Tryz.prog 14))))))))))))))))))) (filS2 s ⟨[(7,.one (qL (.ptr 30 0))),(8,.one (qI 0)),(16,.one (qI 2))],zsM21 pf,548⟩) (.exit 4) (Fil2 ⟨[(7,.one (qL (.ptr 30 0)))],zsM21 pf,548⟩):=
 zCl 0 1 pf (fun dead=>by kernel_rfl) (fun s=>by kernel_rfl) (by kernel_rfl)
theorem zs_d2 (s:Asg) {pf:Int}:ToP Tryz.prog 108 (c1 (c2 (c2 (c2 (c2 (c2 (c2 (c2 (c2 (c2 (c2 (c2 (c2 (c2 (c2 ((bodyF Tryz.prog 14))))))))))))))))) (filS2 s ⟨[(7,.one (qL (.ptr 30 0)))],zsM21 pf,548⟩) .normal (Fil2 ⟨[(6,.one (qL (.ptr 30 0)))],zsM21 pf,548⟩):=
 zCl 0 1 pf (fun dead=>by kernel_rfl) (fun s=>by kernel_rfl) (by kernel_rfl)
theorem zs_d3 (s:Asg) {pf:Int}:ToP Tryz.prog 108 (c2 (c2 (c2 (c2 (c2 (c2 (c2 (c2 (c2 (c2 (c2 (c2 (c2 (c2 (c2 ((bodyF Tryz.prog 14))))))))))))))))) (filS2 s ⟨[(6,.one (qL (.ptr 30 0)))],zsM21 pf,548⟩) .ret (Fil2 ⟨[(6,.one (qL (.ptr 30 0)))],zsM21 pf,548⟩):=
 zCl 0 1 pf (fun dead=>by kernel_rfl) (fun s=>by kernel_rfl) (by kernel_rfl)
theorem zs_L1 (s:Asg) {pf:Int}:RdP Tryz.prog 108 (c1 (c1 (c2 (c1 (c2 (c2 (c2 (c2 ((bodyF Tryz.prog 14)))))))))) 12 (filS2 s ⟨[(1,.one (qI 0)),(3,.one (qL (.ptr 3 0))),(5,.one (qL (.ptr 4 0))),(7,.one (qL (.ptr 30 0))),(8,.one (qI 0)),(9,.one (qI 0))],zsM1 pf,31⟩) (.exit 0) (Fil2 ⟨[(1,.one (qI 0)),(3,.one (qL (.ptr 3 0))),(5,.one (qL (.ptr 4 0))),(7,.one (qL (.ptr 30 0))),(8,.one (qI 0))],zsM12 pf,175⟩):=
 RdP.next (zs_r1 s) (by rintro x ⟨s,rfl⟩;exact RdP.next (zs_r2 s) (by rintro x ⟨s,rfl⟩;exact RdP.next (zs_r3 s) (by rintro x ⟨s,rfl⟩;exact RdP.next (zs_r4 s) (by rintro x ⟨s,rfl⟩;exact RdP.next (zs_r5 s) (by rintro x ⟨s,rfl⟩;exact RdP.next (zs_r6 s) (by rintro x ⟨s,rfl⟩;exact RdP.next (zs_r7 s) (by rintro x ⟨s,rfl⟩;exact RdP.next (zs_r8 s) (by rintro x ⟨s,rfl⟩;exact RdP.next (zs_r9 s) (by rintro x ⟨s,rfl⟩;exact RdP.next (zs_r10 s) (by rintro x ⟨s,rfl⟩;exact RdP.next (zs_r11 s) (by rintro x ⟨s,rfl⟩;exact RdP.last (by simp) (zs_a4e s))))))))))))
theorem zs_L2 (s:Asg) {pf:Int} (h:PfH pf):RdP Tryz.prog 108 (c1 (c1 (c2 (c1 (c2 (c2 (c2 (c2 (c2 (c2 (c2 (c2 (c2 (c2 (c2 ((bodyF Tryz.prog 14))))))))))))))))) 3 (filS2 s ⟨[(5,.one (qL (.ptr 4 0))),(7,.one (qL (.ptr 30 0))),(8,.one (qI 0)),(15,.one (qI 0))],zsM16 pf,196⟩) (.exit 2) (Fil2 ⟨[(5,.one (qL (.ptr 4 0))),(7,.one (qL (.ptr 30 0))),(8,.one (qI 0))],zsM18 pf,333⟩):=
 RdP.next (zs_h1 s h) (by rintro x ⟨s,rfl⟩;exact RdP.next (zs_h2 s h) (by rintro x ⟨s,rfl⟩;exact RdP.last (by simp) (zs_c1 s)))
theorem zs_L3 (s:Asg) {pf:Int} (h:PfH pf):RdP Tryz.prog 108 (c1 (c1 (c2 (c1 (c2 (c2 (c2 (c2 (c2 (c2 (c2 (c2 (c2 (c2 (c2 (c2 (c2 ((bodyF Tryz.prog 14))))))))))))))))))) 3 (filS2 s ⟨[(7,.one (qL (.ptr 30 0))),(8,.one (qI 0)),(16,.one (qI 0))],zsM19 pf,343⟩) (.exit 4) (Fil2 ⟨[(7,.one (qL (.ptr 30 0)))],zsM21 pf,548⟩):=
 RdP.next (zs_g1 s h) (by rintro x ⟨s,rfl⟩;exact RdP.next (zs_g2 s h) (by rintro x ⟨s,rfl⟩;exact RdP.last (by simp) (zs_d1 s)))
theorem zs_All (s:Asg) {pf:Int} (h:PfH pf):ToP Tryz.prog 108 ((bodyF Tryz.prog 14)) (filS2 s ⟨[(0,.agg (zsPar pf)),(1,.one (qI 0)),(2,.agg [qI 0,qI 0,qI 0,qI 0,qI 0,qI 0,qI 1000,qI 100])],[],3⟩) .ret (Fil2 ⟨[(6,.one (qL (.ptr 30 0)))],zsM21 pf,548⟩):=by
 refine ToP.seq (by kernel_rfl) (zs_a0 s) ?_
 rintro x ⟨s,rfl⟩
 refine ToP.seq (by kernel_rfl) (zs_a1 s h) ?_
 rintro x ⟨s,rfl⟩
 refine ToP.seq (by kernel_rfl) (zs_a2 s) ?_
 rintro x ⟨s,rfl⟩
 refine ToP.seq (by kernel_rfl) (zs_a3 s) ?_
 rintro x ⟨s,rfl⟩
 refine ToP.seq (by kernel_rfl) (B:=Fil2 ⟨[(1,.one (qI 0)),(3,.one (qL (.ptr 3 0))),(5,.one (qL (.ptr 4 0))),(7,.one (qL (.ptr 30 0))),(8,.one (qI 0))],zsM12 pf,175⟩) (ToP.seq (by kernel_rfl) (zs_a4 s) (by rintro x ⟨s,rfl⟩;exact ToP.block (id:=0) (e:= .exit 0) (by kernel_rfl) (ToP.loop (m:=12) (by kernel_rfl) (zs_L1 s)) (.inl rfl))) ?_
 rintro x ⟨s,rfl⟩
 refine ToP.seq (by kernel_rfl) (zs_b5 s) ?_
 rintro x ⟨s,rfl⟩
 refine ToP.seq (by kernel_rfl) (zs_b6 s) ?_
 rintro x ⟨s,rfl⟩
 refine ToP.seq (by kernel_rfl) (zs_b7 s) ?_
 rintro x ⟨s,rfl⟩
 refine ToP.seq (by kernel_rfl) (zs_b8 s) ?_
 rintro x ⟨s,rfl⟩
 refine ToP.seq (by kernel_rfl) (zs_b9 s) ?_
 rintro x ⟨s,rfl⟩
 refine ToP.seq (by kernel_rfl) (zs_b10 s) ?_
 rintro x ⟨s,rfl⟩
 refine ToP.seq (by kernel_rfl) (B:=Fil2 ⟨[(5,.one (qL (.ptr 4 0))),(7,.one (qL (.ptr 30 0))),(8,.one (qI 0))],zsM18 pf,333⟩) (ToP.seq (by kernel_rfl) (zs_c0 s) (by rintro x ⟨s,rfl⟩;exact ToP.block (id:=2) (e:= .exit 2) (by kernel_rfl) (ToP.loop (m:=3) (by kernel_rfl) (zs_L2 s h)) (.inl rfl))) ?_
 rintro x ⟨s,rfl⟩
 refine ToP.seq (by kernel_rfl) (zs_c2 s) ?_
 rintro x ⟨s,rfl⟩
 refine ToP.seq (by kernel_rfl) (B:=Fil2 ⟨[(7,.one (qL (.ptr 30 0)))],zsM21 pf,548⟩) (ToP.seq (by kernel_rfl) (zs_d0 s) (by rintro x ⟨s,rfl⟩;exact ToP.block (id:=4) (e:= .exit 4) (by kernel_rfl) (ToP.loop (m:=3) (by kernel_rfl) (zs_L3 s h)) (.inl rfl))) ?_
 rintro x ⟨s,rfl⟩
 refine ToP.seq (by kernel_rfl) (zs_d2 s) ?_
 rintro x ⟨s,rfl⟩
 exact zs_d3 s
end Go.Proofs.YtnlhpaidmiogbaaGreat

/- TopSources: north; the law. -/
namespace Go.Proofs.YtnlhpaidmiogbaaGreat
open Go.Lr
set_option linter.unusedVariables false
set_option maxRecDepth 100000
theorem zs_n0 (s:Asg) {pf:Int}:ToP Tryz.prog 11 (c1 ((bodyF Tryz.prog 10))) (filS2 s ⟨[(0,.one (qS pf))],[],0⟩) .normal (Fil2 ⟨[(0,.one (qS pf)),(2,.one (qL .nilp))],[],0⟩):=
 zCl 0 1 pf (fun dead=>by kernel_rfl) (fun s=>by kernel_rfl) (by kernel_rfl)
theorem zs_n1 (s:Asg) {pf:Int}:ToP Tryz.prog 11 (c1 (c2 ((bodyF Tryz.prog 10)))) (filS2 s ⟨[(0,.one (qS pf)),(2,.one (qL .nilp))],[],0⟩) .normal (Fil2 ⟨[(0,.one (qS pf)),(3,.one (qL (.ptr 2 0)))],zsM22,3⟩):=
 zCl 0 1 pf (fun dead=>by kernel_rfl) (fun s=>by kernel_rfl) (by kernel_rfl)
theorem zs_n2 (s:Asg) {pf:Int}:ToP Tryz.prog 11 (c1 (c2 (c2 ((bodyF Tryz.prog 10))))) (filS2 s ⟨[(0,.one (qS pf)),(3,.one (qL (.ptr 2 0)))],zsM22,3⟩) .normal (Fil2 ⟨[(0,.one (qS pf)),(3,.one (qL (.ptr 2 0)))],zsM23,3⟩):=
 zCl 0 1 pf (fun dead=>by kernel_rfl) (fun s=>by kernel_rfl) (by kernel_rfl)
theorem zs_n3 (s:Asg) {pf:Int}:ToP Tryz.prog 11 (c1 (c2 (c2 (c2 ((bodyF Tryz.prog 10)))))) (filS2 s ⟨[(0,.one (qS pf)),(3,.one (qL (.ptr 2 0)))],zsM23,3⟩) .normal (Fil2 ⟨[(0,.one (qS pf)),(3,.one (qL (.ptr 2 0)))],zsM24 pf,3⟩):=
 zCl 0 2 pf (fun dead=>by kernel_rfl) (fun s=>by kernel_rfl) (by kernel_rfl)
def zsA0 (pf:Int):List LV:=[.v (.agg (filL2 (fun _=>0) (fun _=>false) 0 (zsPar pf))),I 0,.v (.agg [.int .i64 0,.int .i64 0,.int .i64 0,.int .i64 0,.int .i64 0,.int .i64 0,.int .i64 1000,.int .i64 100])]
theorem zs_n4 (s:Asg) {pf:Int}:ToO Tryz.prog 11 (opsOf (c1 (c2 (c2 (c2 (c2 ((bodyF Tryz.prog 10)))))))) 0 2 (filS2 s ⟨[(0,.one (qS pf)),(3,.one (qL (.ptr 2 0)))],zsM24 pf,3⟩) (Fil2 ⟨[(8,.agg (zsPar pf)),(9,.agg ([qI 0,qI 0,qI 0,qI 0,qI 0,qI 0,qI 1000,qI 100]))],[],3⟩):=
 ToO.run2 (z:=⟨false,false,false⟩) (n:=20000) (dec:=[]) (mask:=[]) (os:=[]) (es:=[.oi pf pf]) soundAE (by kernel_rfl) (by kernel_rfl) (fun dead=>by kernel_rfl) ae_nil (aob_cons rfl aob_nil) (fun s=>canB_ok (by kernel_rfl)) (by kernel_rfl)
theorem zs_n5 (s:Asg) {pf:Int} (h:PfH pf):ToO Tryz.prog 11 (opsOf (c1 (c2 (c2 (c2 (c2 ((bodyF Tryz.prog 10)))))))) 2 1 (filS2 s ⟨[(8,.agg (zsPar pf)),(9,.agg ([qI 0,qI 0,qI 0,qI 0,qI 0,qI 0,qI 1000,qI 100]))],[],3⟩) (Fil2 ⟨[(10,.one (qL (.ptr 30 0)))],zsM21 pf,548⟩):=
 (ToO.callK (sz:=11) (A:=filS2 s ⟨[(8,.agg (zsPar pf)),(9,.agg ([qI 0,qI 0,qI 0,qI 0,qI 0,qI 0,qI 1000,qI 100]))],[],3⟩) (B:=Fil2 ⟨[(6,.one (qL (.ptr 30 0)))],zsM21 pf,548⟩) (t:=10) (f:=14) (args:=zsA0 pf) (e:= .ret) (v:=fun _=> .v (.one (.ptr 30 0))) soundAE [] (fun dead=>by kernel_rfl) Tryz.func14 (by kernel_rfl) (by kernel_rfl) (by kernel_rfl) (by kernel_rfl) (zs_All s h) (.inr rfl) (by rintro x ⟨s,rfl⟩ dead;kernel_rfl) (by rintro x ⟨s,rfl⟩;exact canB_ok (by kernel_rfl))).mono (by rintro y ⟨x,⟨s,rfl⟩,rfl⟩;exact ⟨s,rfl⟩)
theorem zs_n6 (s:Asg) {pf:Int}:ToO Tryz.prog 11 (opsOf (c1 (c2 (c2 (c2 (c2 ((bodyF Tryz.prog 10)))))))) 3 1 (filS2 s ⟨[(10,.one (qL (.ptr 30 0)))],zsM21 pf,548⟩) (Fil2 ⟨[(2,.one (qL (.ptr 30 0)))],zsM21 pf,548⟩):=
 ToO.run2 (z:=⟨false,false,false⟩) (n:=20000) (dec:=[]) (mask:=[]) (os:=[]) (es:=[.oi pf pf]) soundAE (by kernel_rfl) (by kernel_rfl) (fun dead=>by kernel_rfl) ae_nil (aob_cons rfl aob_nil) (fun s=>canB_ok (by kernel_rfl)) (by kernel_rfl)
theorem zs_n7 (s:Asg) {pf:Int}:ToP Tryz.prog 11 (c2 (c2 (c2 (c2 (c2 ((bodyF Tryz.prog 10))))))) (filS2 s ⟨[(2,.one (qL (.ptr 30 0)))],zsM21 pf,548⟩) .ret (Fil2 ⟨[(2,.one (qL (.ptr 30 0)))],zsM21 pf,548⟩):=
 ToP.run2 (z:=⟨false,false,false⟩) (n:=20000) (dec:=[]) (mask:=[]) (os:=[]) (es:=[.oi pf pf]) soundAE (fun dead=>by kernel_rfl) ae_nil (aob_cons rfl aob_nil) (fun s=>canB_ok (by kernel_rfl)) (by kernel_rfl)
theorem zs_nAll (s:Asg) {pf:Int} (h:PfH pf):ToP Tryz.prog 11 ((bodyF Tryz.prog 10)) (filS2 s ⟨[(0,.one (qS pf))],[],0⟩) .ret (Fil2 ⟨[(2,.one (qL (.ptr 30 0)))],zsM21 pf,548⟩):=by
 refine ToP.seq (by kernel_rfl) (zs_n0 s) ?_
 rintro x ⟨s,rfl⟩
 refine ToP.seq (by kernel_rfl) (zs_n1 s) ?_
 rintro x ⟨s,rfl⟩
 refine ToP.seq (by kernel_rfl) (zs_n2 s) ?_
 rintro x ⟨s,rfl⟩
 refine ToP.seq (by kernel_rfl) (zs_n3 s) ?_
 rintro x ⟨s,rfl⟩
 refine ToP.seq (by kernel_rfl) (ToP.of_ToO (n:=4) (by kernel_rfl) (by kernel_rfl) (ToO.seq (m:=3) (m':=1) (ToO.seq (m:=2) (m':=1) (zs_n4 s) (by rintro x ⟨s,rfl⟩;exact zs_n5 s h)) (by rintro x ⟨s,rfl⟩;exact zs_n6 s))) ?_
 rintro x ⟨s,rfl⟩
 exact zs_n7 s
noncomputable def AX:FuncId→Option SumK:=more AE 9 (pureSum awkS)
theorem soundAX:Sound Tryz.prog AX:=soundAE.more sumAwk
abbrev zsF (y:Kst):Prop:=∃s j,y=filS2 s ⟨[(6,.one (qR (.bool true)))],[],j⟩
theorem zs_l0ff (s:Asg) {pf:Int}:ToP Tryz.prog 86 (c1 ((bodyF Tryz.prog 3))) (filS2 s ⟨[(0,.one (qS pf)),(1,.one (qB false)),(2,.one (qB false))],[],0⟩) .normal (Fil2 ⟨[(0,.one (qS pf)),(1,.one (qB false)),(2,.one (qB false))],[],0⟩):=
 ToP.run2 (z:=⟨false,false,false⟩) (n:=20000) (dec:=[]) (mask:=[]) (os:=[]) (es:=[.oi pf pf]) soundAX (fun dead=>by kernel_rfl) ae_nil (aob_cons rfl aob_nil) (fun s=>canB_ok (by kernel_rfl)) (by kernel_rfl)
theorem zs_l1ff (s:Asg) {pf:Int}:ToP Tryz.prog 86 (c1 (c2 ((bodyF Tryz.prog 3)))) (filS2 s ⟨[(0,.one (qS pf)),(1,.one (qB false)),(2,.one (qB false))],[],0⟩) .normal (Fil2 ⟨[(0,.one (qS pf)),(1,.one (qB false)),(2,.one (qB false))],[],0⟩):=
 ToP.run2 (z:=⟨false,false,false⟩) (n:=20000) (dec:=[]) (mask:=[]) (os:=[]) (es:=[.oi pf pf]) soundAX (fun dead=>by kernel_rfl) ae_nil (aob_cons rfl aob_nil) (fun s=>canB_ok (by kernel_rfl)) (by kernel_rfl)
theorem zs_l2ffa (s:Asg) {pf:Int} (h0:pf<0):ToP Tryz.prog 86 (c1 (c2 (c2 ((bodyF Tryz.prog 3))))) (filS2 s ⟨[(0,.one (qS pf)),(1,.one (qB false)),(2,.one (qB false))],[],0⟩) .ret (Fil2 ⟨[(6,.one (qB true))],[],0⟩):=
 ToP.run2 (z:=⟨false,false,false⟩) (n:=20000) (dec:=(tt 3 (nn 1 []))) (mask:=(mskO 3 [])) (os:=(ra 3 (decide (pf<0),true) [])) (es:=[]) soundAX (fun dead=>by kernel_rfl) (ra_ok (decide_eq_true (by omega)) ae_nil _) aob_nil (fun s=>canB_ok (by kernel_rfl)) (by kernel_rfl)
theorem zs_l2ffb (s:Asg) {pf:Int} (h0:¬(pf<0)) (h1:pf>3):ToP Tryz.prog 86 (c1 (c2 (c2 ((bodyF Tryz.prog 3))))) (filS2 s ⟨[(0,.one (qS pf)),(1,.one (qB false)),(2,.one (qB false))],[],0⟩) .ret (Fil2 ⟨[(6,.one (qB true))],[],0⟩):=
 ToP.run2 (z:=⟨false,false,false⟩) (n:=20000) (dec:=(ff 3 (tt 1 []))) (mask:=(mskO 4 [])) (os:=(ra 1 (decide (pf>3),true) (ra 3 (decide (pf<0),false) []))) (es:=[]) soundAX (fun dead=>by kernel_rfl) (ra_ok (decide_eq_true (by omega)) (ra_ok (decide_eq_false (by omega)) ae_nil _) _) aob_nil (fun s=>canB_ok (by kernel_rfl)) (by kernel_rfl)
theorem zs_l2ffc (s:Asg) {pf:Int} (h0:¬(pf<0)) (h1:¬(pf>3)):ToP Tryz.prog 86 (c1 (c2 (c2 ((bodyF Tryz.prog 3))))) (filS2 s ⟨[(0,.one (qS pf)),(1,.one (qB false)),(2,.one (qB false))],[],0⟩) .normal (Fil2 ⟨[(0,.one (qS pf)),(1,.one (qB false)),(2,.one (qB false))],[],0⟩):=
 ToP.run2 (z:=⟨false,false,false⟩) (n:=20000) (dec:=(ff 4 [])) (mask:=(mskO 4 [])) (os:=(ra 1 (decide (pf>3),false) (ra 3 (decide (pf<0),false) []))) (es:=[.oi pf pf]) soundAX (fun dead=>by kernel_rfl) (ra_ok (decide_eq_false (by omega)) (ra_ok (decide_eq_false (by omega)) ae_nil _) _) (aob_cons rfl aob_nil) (fun s=>canB_ok (by kernel_rfl)) (by kernel_rfl)
theorem zs_l3ff (s:Asg) {pf:Int} (h:PfH pf):ToP Tryz.prog 86 (c1 (c2 (c2 (c2 ((bodyF Tryz.prog 3)))))) (filS2 s ⟨[(0,.one (qS pf)),(1,.one (qB false)),(2,.one (qB false))],[],0⟩) .normal (Fil2 ⟨[(0,.one (qS pf)),(1,.one (qB false)),(2,.one (qB false)),(7,.one (qL (.ptr 30 0)))],zsM21 pf,548⟩):=
 ToP.of_ToO (n:=3) (by kernel_rfl) (by kernel_rfl) (ToO.seq (m:=2) (m':=1) (B:=Fil2 ⟨[(19,.one (qL (.ptr 30 0))),(0,.one (qS pf)),(1,.one (qB false)),(2,.one (qB false))],zsM21 pf,548⟩) (ToO.seq (m:=1) (m':=1) (B:=Fil2 ⟨[(18,.one (qS pf)),(0,.one (qS pf)),(1,.one (qB false)),(2,.one (qB false))],[],0⟩)
  (ToO.run2 (z:=⟨false,false,false⟩) (n:=20000) (dec:=[]) (mask:=[]) (os:=[]) (es:=[.oi pf pf,.oi pf pf]) soundAE (by kernel_rfl) (by kernel_rfl) (fun dead=>by kernel_rfl) ae_nil (aob_cons rfl (aob_cons rfl aob_nil)) (fun s=>canB_ok (by kernel_rfl)) (by kernel_rfl))
  (by rintro x ⟨s,rfl⟩;exact (ToO.callK (sz:=86) (A:=filS2 s ⟨[(18,.one (qS pf)),(0,.one (qS pf)),(1,.one (qB false)),(2,.one (qB false))],[],0⟩) (B:=Fil2 ⟨[(2,.one (qL (.ptr 30 0)))],zsM21 pf,548⟩) (t:=19) (f:=10) (args:=[I pf]) (e:= .ret) (v:=fun _=> .v (.one (.ptr 30 0))) soundAE [0,1,2] (fun dead=>by kernel_rfl) Tryz.func10 (by kernel_rfl) (by kernel_rfl) (by kernel_rfl) (by kernel_rfl) (zs_nAll s h) (.inr rfl) (by rintro x ⟨s,rfl⟩ dead;kernel_rfl) (by rintro x ⟨s,rfl⟩;exact canB_ok (by kernel_rfl))).mono (by rintro y ⟨x,⟨s,rfl⟩,rfl⟩;exact ⟨s,rfl⟩)))
  (by rintro x ⟨s,rfl⟩;exact ToO.run2 (z:=⟨false,false,false⟩) (n:=20000) (dec:=[]) (mask:=[]) (os:=[]) (es:=[.oi pf pf,.oi pf pf]) soundAE (by kernel_rfl) (by kernel_rfl) (fun dead=>by kernel_rfl) ae_nil (aob_cons rfl (aob_cons rfl aob_nil)) (fun s=>canB_ok (by kernel_rfl)) (by kernel_rfl)))
theorem zs_x4ff (s:Asg) {pf:Int}:ToP Tryz.prog 86 (c1 (c2 (c2 (c2 (c2 ((bodyF Tryz.prog 3))))))) (filS2 s ⟨[(0,.one (qS pf)),(1,.one (qB false)),(2,.one (qB false)),(7,.one (qL (.ptr 30 0)))],zsM21 pf,548⟩) .normal (Fil2 ⟨[(0,.one (qS pf)),(1,.one (qB false)),(2,.one (qB false)),(7,.one (qL (.ptr 30 0)))],zsM21 pf,548⟩):=
 zCl 0 2 pf (fun dead=>by kernel_rfl) (fun s=>by kernel_rfl) (by kernel_rfl)
theorem zs_x5ff (s:Asg) {pf:Int}:ToP Tryz.prog 86 (c1 (c2 (c2 (c2 (c2 (c2 ((bodyF Tryz.prog 3)))))))) (filS2 s ⟨[(0,.one (qS pf)),(1,.one (qB false)),(2,.one (qB false)),(7,.one (qL (.ptr 30 0)))],zsM21 pf,548⟩) .normal (Fil2 ⟨[(0,.one (qS pf)),(1,.one (qB false)),(2,.one (qB false)),(7,.one (qL (.ptr 30 0)))],zsM21 pf,548⟩):=
 zCl 0 2 pf (fun dead=>by kernel_rfl) (fun s=>by kernel_rfl) (by kernel_rfl)
theorem zs_x6ff (s:Asg) {pf:Int}:ToP Tryz.prog 86 (c1 (c2 (c2 (c2 (c2 (c2 (c2 ((bodyF Tryz.prog 3))))))))) (filS2 s ⟨[(0,.one (qS pf)),(1,.one (qB false)),(2,.one (qB false)),(7,.one (qL (.ptr 30 0)))],zsM21 pf,548⟩) .normal (Fil2 ⟨[(0,.one (qS pf)),(1,.one (qB false)),(2,.one (qB false)),(7,.one (qL (.ptr 30 0)))],zsM21 pf,548⟩):=
 zCl 0 2 pf (fun dead=>by kernel_rfl) (fun s=>by kernel_rfl) (by kernel_rfl)
theorem zs_x7ff0 (s:Asg):ToP Tryz.prog 86 (c1 (c2 (c2 (c2 (c2 (c2 (c2 (c2 ((bodyF Tryz.prog 3)))))))))) (filS2 s ⟨[(0,.one (qS 0)),(1,.one (qB false)),(2,.one (qB false)),(7,.one (qL (.ptr 30 0)))],zsM21 0,548⟩) .normal (Fil2 ⟨[(0,.one (qS 0)),(1,.one (qB false)),(2,.one (qB false)),(7,.one (qL (.ptr 30 0)))],zsM25 0,565⟩):=
 zCl 11 2 0 (fun dead=>by kernel_rfl) (fun s=>by kernel_rfl) (by kernel_rfl)
theorem zs_x8ff0 (s:Asg):ToP Tryz.prog 86 (c1 (c2 (c2 (c2 (c2 (c2 (c2 (c2 (c2 ((bodyF Tryz.prog 3))))))))))) (filS2 s ⟨[(0,.one (qS 0)),(1,.one (qB false)),(2,.one (qB false)),(7,.one (qL (.ptr 30 0)))],zsM25 0,565⟩) .normal (Fil2 ⟨[(0,.one (qS 0)),(1,.one (qB false)),(2,.one (qB false)),(7,.one (qL (.ptr 30 0)))],zsM26 0,582⟩):=
 zCl 12 2 0 (fun dead=>by kernel_rfl) (fun s=>by kernel_rfl) (by kernel_rfl)
theorem zs_x9ff0 (s:Asg):ToP Tryz.prog 86 (c2 (c2 (c2 (c2 (c2 (c2 (c2 (c2 (c2 ((bodyF Tryz.prog 3))))))))))) (filS2 s ⟨[(0,.one (qS 0)),(1,.one (qB false)),(2,.one (qB false)),(7,.one (qL (.ptr 30 0)))],zsM26 0,582⟩) .ret (Fil2 ⟨[(6,.one (qR (.bool true)))],[],584⟩):=
 ToP.run2 (z:=⟨false,false,false⟩) (n:=20000) (dec:=[]) (mask:=[]) (os:=[]) (es:=[.oa (.bool true) (.bool true)]) soundAE (fun dead=>by kernel_rfl) ae_nil (aob_cons rfl aob_nil) (fun s=>canB_ok (by kernel_rfl)) (by kernel_rfl)
theorem zs_x7ff1 (s:Asg):ToP Tryz.prog 86 (c1 (c2 (c2 (c2 (c2 (c2 (c2 (c2 ((bodyF Tryz.prog 3)))))))))) (filS2 s ⟨[(0,.one (qS 1)),(1,.one (qB false)),(2,.one (qB false)),(7,.one (qL (.ptr 30 0)))],zsM21 1,548⟩) .normal (Fil2 ⟨[(0,.one (qS 1)),(1,.one (qB false)),(2,.one (qB false)),(7,.one (qL (.ptr 30 0)))],zsM25 1,565⟩):=
 zCl 11 2 1 (fun dead=>by kernel_rfl) (fun s=>by kernel_rfl) (by kernel_rfl)
theorem zs_x8ff1 (s:Asg):ToP Tryz.prog 86 (c1 (c2 (c2 (c2 (c2 (c2 (c2 (c2 (c2 ((bodyF Tryz.prog 3))))))))))) (filS2 s ⟨[(0,.one (qS 1)),(1,.one (qB false)),(2,.one (qB false)),(7,.one (qL (.ptr 30 0)))],zsM25 1,565⟩) .normal (Fil2 ⟨[(0,.one (qS 1)),(1,.one (qB false)),(2,.one (qB false)),(7,.one (qL (.ptr 30 0)))],zsM26 1,582⟩):=
 zCl 12 2 1 (fun dead=>by kernel_rfl) (fun s=>by kernel_rfl) (by kernel_rfl)
theorem zs_x9ff1 (s:Asg):ToP Tryz.prog 86 (c2 (c2 (c2 (c2 (c2 (c2 (c2 (c2 (c2 ((bodyF Tryz.prog 3))))))))))) (filS2 s ⟨[(0,.one (qS 1)),(1,.one (qB false)),(2,.one (qB false)),(7,.one (qL (.ptr 30 0)))],zsM26 1,582⟩) .ret (Fil2 ⟨[(6,.one (qR (.bool true)))],[],584⟩):=
 ToP.run2 (z:=⟨false,false,false⟩) (n:=20000) (dec:=[]) (mask:=[]) (os:=[]) (es:=[.oa (.bool true) (.bool true)]) soundAE (fun dead=>by kernel_rfl) ae_nil (aob_cons rfl aob_nil) (fun s=>canB_ok (by kernel_rfl)) (by kernel_rfl)
theorem zs_x7ff2 (s:Asg):ToP Tryz.prog 86 (c1 (c2 (c2 (c2 (c2 (c2 (c2 (c2 ((bodyF Tryz.prog 3)))))))))) (filS2 s ⟨[(0,.one (qS 2)),(1,.one (qB false)),(2,.one (qB false)),(7,.one (qL (.ptr 30 0)))],zsM21 2,548⟩) .normal (Fil2 ⟨[(0,.one (qS 2)),(1,.one (qB false)),(2,.one (qB false)),(7,.one (qL (.ptr 30 0)))],zsM25 2,565⟩):=
 zCl 11 2 2 (fun dead=>by kernel_rfl) (fun s=>by kernel_rfl) (by kernel_rfl)
theorem zs_x8ff2 (s:Asg):ToP Tryz.prog 86 (c1 (c2 (c2 (c2 (c2 (c2 (c2 (c2 (c2 ((bodyF Tryz.prog 3))))))))))) (filS2 s ⟨[(0,.one (qS 2)),(1,.one (qB false)),(2,.one (qB false)),(7,.one (qL (.ptr 30 0)))],zsM25 2,565⟩) .normal (Fil2 ⟨[(0,.one (qS 2)),(1,.one (qB false)),(2,.one (qB false)),(7,.one (qL (.ptr 30 0)))],zsM26 2,582⟩):=
 zCl 12 2 2 (fun dead=>by kernel_rfl) (fun s=>by kernel_rfl) (by kernel_rfl)
theorem zs_x9ff2 (s:Asg):ToP Tryz.prog 86 (c2 (c2 (c2 (c2 (c2 (c2 (c2 (c2 (c2 ((bodyF Tryz.prog 3))))))))))) (filS2 s ⟨[(0,.one (qS 2)),(1,.one (qB false)),(2,.one (qB false)),(7,.one (qL (.ptr 30 0)))],zsM26 2,582⟩) .ret (Fil2 ⟨[(6,.one (qR (.bool true)))],[],584⟩):=
 ToP.run2 (z:=⟨false,false,false⟩) (n:=20000) (dec:=[]) (mask:=[]) (os:=[]) (es:=[.oa (.bool true) (.bool true)]) soundAE (fun dead=>by kernel_rfl) ae_nil (aob_cons rfl aob_nil) (fun s=>canB_ok (by kernel_rfl)) (by kernel_rfl)
theorem zs_x7ff3 (s:Asg):ToP Tryz.prog 86 (c1 (c2 (c2 (c2 (c2 (c2 (c2 (c2 ((bodyF Tryz.prog 3)))))))))) (filS2 s ⟨[(0,.one (qS 3)),(1,.one (qB false)),(2,.one (qB false)),(7,.one (qL (.ptr 30 0)))],zsM21 3,548⟩) .normal (Fil2 ⟨[(0,.one (qS 3)),(1,.one (qB false)),(2,.one (qB false)),(7,.one (qL (.ptr 30 0)))],zsM25 3,565⟩):=
 zCl 11 2 3 (fun dead=>by kernel_rfl) (fun s=>by kernel_rfl) (by kernel_rfl)
theorem zs_x8ff3 (s:Asg):ToP Tryz.prog 86 (c1 (c2 (c2 (c2 (c2 (c2 (c2 (c2 (c2 ((bodyF Tryz.prog 3))))))))))) (filS2 s ⟨[(0,.one (qS 3)),(1,.one (qB false)),(2,.one (qB false)),(7,.one (qL (.ptr 30 0)))],zsM25 3,565⟩) .normal (Fil2 ⟨[(0,.one (qS 3)),(1,.one (qB false)),(2,.one (qB false)),(7,.one (qL (.ptr 30 0)))],zsM26 3,582⟩):=
 zCl 12 2 3 (fun dead=>by kernel_rfl) (fun s=>by kernel_rfl) (by kernel_rfl)
theorem zs_x9ff3 (s:Asg):ToP Tryz.prog 86 (c2 (c2 (c2 (c2 (c2 (c2 (c2 (c2 (c2 ((bodyF Tryz.prog 3))))))))))) (filS2 s ⟨[(0,.one (qS 3)),(1,.one (qB false)),(2,.one (qB false)),(7,.one (qL (.ptr 30 0)))],zsM26 3,582⟩) .ret (Fil2 ⟨[(6,.one (qR (.bool true)))],[],584⟩):=
 ToP.run2 (z:=⟨false,false,false⟩) (n:=20000) (dec:=[]) (mask:=[]) (os:=[]) (es:=[.oa (.bool true) (.bool true)]) soundAE (fun dead=>by kernel_rfl) ae_nil (aob_cons rfl aob_nil) (fun s=>canB_ok (by kernel_rfl)) (by kernel_rfl)
theorem zs_lawff (s:Asg) {pf:Int}:ToR Tryz.prog 86 0 ((bodyF Tryz.prog 3)) (filS2 s ⟨[(0,.one (qS pf)),(1,.one (qB false)),(2,.one (qB false))],[],0⟩) .ret zsF:=by
 refine ToR.seq (by kernel_rfl) (ToR.of_ToP (zs_l0ff s) (by kernel_rfl)) ?_
 rintro x ⟨s,rfl⟩
 refine ToR.seq (by kernel_rfl) (ToR.of_ToP (zs_l1ff s) (by kernel_rfl)) ?_
 rintro x ⟨s,rfl⟩
 by_cases h0:pf<0
 ·exact ToR.seq_out (by kernel_rfl) (by simp) ((ToR.of_ToP (zs_l2ffa s h0) (by kernel_rfl)).mono (by rintro x ⟨s,rfl⟩;exact ⟨s,0,rfl⟩))
 by_cases h1:pf>3
 ·exact ToR.seq_out (by kernel_rfl) (by simp) ((ToR.of_ToP (zs_l2ffb s h0 h1) (by kernel_rfl)).mono (by rintro x ⟨s,rfl⟩;exact ⟨s,0,rfl⟩))
 refine ToR.seq (by kernel_rfl) (ToR.of_ToP (zs_l2ffc s h0 h1) (by kernel_rfl)) ?_
 rintro x ⟨s,rfl⟩
 have h:PfH pf:=⟨by omega,by omega⟩
 refine ToR.seq (by kernel_rfl) (ToR.of_ToP (zs_l3ff s h) (by kernel_rfl)) ?_
 rintro x ⟨s,rfl⟩
 refine ToR.seq (by kernel_rfl) (ToR.of_ToP (zs_x4ff s) (by kernel_rfl)) ?_
 rintro x ⟨s,rfl⟩
 refine ToR.seq (by kernel_rfl) (ToR.of_ToP (zs_x5ff s) (by kernel_rfl)) ?_
 rintro x ⟨s,rfl⟩
 refine ToR.seq (by kernel_rfl) (ToR.of_ToP (zs_x6ff s) (by kernel_rfl)) ?_
 rintro x ⟨s,rfl⟩
 obtain rfl | rfl | rfl | rfl:pf=0∨pf=1∨pf=2∨pf=3:=by omega
 ·exact (ToR.seq (by kernel_rfl) (ToR.of_ToP (zs_x7ff0 s) (by kernel_rfl)) (by rintro x ⟨s,rfl⟩;exact ToR.seq (by kernel_rfl) (ToR.of_ToP (zs_x8ff0 s) (by kernel_rfl)) (by rintro x ⟨s,rfl⟩;exact (ToR.of_ToP (zs_x9ff0 s) (by kernel_rfl)).mono (by rintro x ⟨s,rfl⟩;exact ⟨s,_,rfl⟩))))
 ·exact (ToR.seq (by kernel_rfl) (ToR.of_ToP (zs_x7ff1 s) (by kernel_rfl)) (by rintro x ⟨s,rfl⟩;exact ToR.seq (by kernel_rfl) (ToR.of_ToP (zs_x8ff1 s) (by kernel_rfl)) (by rintro x ⟨s,rfl⟩;exact (ToR.of_ToP (zs_x9ff1 s) (by kernel_rfl)).mono (by rintro x ⟨s,rfl⟩;exact ⟨s,_,rfl⟩))))
 ·exact (ToR.seq (by kernel_rfl) (ToR.of_ToP (zs_x7ff2 s) (by kernel_rfl)) (by rintro x ⟨s,rfl⟩;exact ToR.seq (by kernel_rfl) (ToR.of_ToP (zs_x8ff2 s) (by kernel_rfl)) (by rintro x ⟨s,rfl⟩;exact (ToR.of_ToP (zs_x9ff2 s) (by kernel_rfl)).mono (by rintro x ⟨s,rfl⟩;exact ⟨s,_,rfl⟩))))
 ·exact (ToR.seq (by kernel_rfl) (ToR.of_ToP (zs_x7ff3 s) (by kernel_rfl)) (by rintro x ⟨s,rfl⟩;exact ToR.seq (by kernel_rfl) (ToR.of_ToP (zs_x8ff3 s) (by kernel_rfl)) (by rintro x ⟨s,rfl⟩;exact (ToR.of_ToP (zs_x9ff3 s) (by kernel_rfl)).mono (by rintro x ⟨s,rfl⟩;exact ⟨s,_,rfl⟩))))
theorem zs_l0ft (s:Asg) {pf:Int}:ToP Tryz.prog 86 (c1 ((bodyF Tryz.prog 3))) (filS2 s ⟨[(0,.one (qS pf)),(1,.one (qB false)),(2,.one (qB true))],[],0⟩) .normal (Fil2 ⟨[(0,.one (qS pf)),(1,.one (qB false)),(2,.one (qB true))],[],0⟩):=
 ToP.run2 (z:=⟨false,false,false⟩) (n:=20000) (dec:=[]) (mask:=[]) (os:=[]) (es:=[.oi pf pf]) soundAX (fun dead=>by kernel_rfl) ae_nil (aob_cons rfl aob_nil) (fun s=>canB_ok (by kernel_rfl)) (by kernel_rfl)
theorem zs_l1ft (s:Asg) {pf:Int}:ToP Tryz.prog 86 (c1 (c2 ((bodyF Tryz.prog 3)))) (filS2 s ⟨[(0,.one (qS pf)),(1,.one (qB false)),(2,.one (qB true))],[],0⟩) .normal (Fil2 ⟨[(0,.one (qS pf)),(1,.one (qB false)),(2,.one (qB true))],[],0⟩):=
 ToP.run2 (z:=⟨false,false,false⟩) (n:=20000) (dec:=[]) (mask:=[]) (os:=[]) (es:=[.oi pf pf]) soundAX (fun dead=>by kernel_rfl) ae_nil (aob_cons rfl aob_nil) (fun s=>canB_ok (by kernel_rfl)) (by kernel_rfl)
theorem zs_l2fta (s:Asg) {pf:Int} (h0:pf<0):ToP Tryz.prog 86 (c1 (c2 (c2 ((bodyF Tryz.prog 3))))) (filS2 s ⟨[(0,.one (qS pf)),(1,.one (qB false)),(2,.one (qB true))],[],0⟩) .ret (Fil2 ⟨[(6,.one (qB true))],[],0⟩):=
 ToP.run2 (z:=⟨false,false,false⟩) (n:=20000) (dec:=(tt 3 (nn 1 []))) (mask:=(mskO 3 [])) (os:=(ra 3 (decide (pf<0),true) [])) (es:=[]) soundAX (fun dead=>by kernel_rfl) (ra_ok (decide_eq_true (by omega)) ae_nil _) aob_nil (fun s=>canB_ok (by kernel_rfl)) (by kernel_rfl)
theorem zs_l2ftb (s:Asg) {pf:Int} (h0:¬(pf<0)) (h1:pf>3):ToP Tryz.prog 86 (c1 (c2 (c2 ((bodyF Tryz.prog 3))))) (filS2 s ⟨[(0,.one (qS pf)),(1,.one (qB false)),(2,.one (qB true))],[],0⟩) .ret (Fil2 ⟨[(6,.one (qB true))],[],0⟩):=
 ToP.run2 (z:=⟨false,false,false⟩) (n:=20000) (dec:=(ff 3 (tt 1 []))) (mask:=(mskO 4 [])) (os:=(ra 1 (decide (pf>3),true) (ra 3 (decide (pf<0),false) []))) (es:=[]) soundAX (fun dead=>by kernel_rfl) (ra_ok (decide_eq_true (by omega)) (ra_ok (decide_eq_false (by omega)) ae_nil _) _) aob_nil (fun s=>canB_ok (by kernel_rfl)) (by kernel_rfl)
theorem zs_l2ftc (s:Asg) {pf:Int} (h0:¬(pf<0)) (h1:¬(pf>3)):ToP Tryz.prog 86 (c1 (c2 (c2 ((bodyF Tryz.prog 3))))) (filS2 s ⟨[(0,.one (qS pf)),(1,.one (qB false)),(2,.one (qB true))],[],0⟩) .normal (Fil2 ⟨[(0,.one (qS pf)),(1,.one (qB false)),(2,.one (qB true))],[],0⟩):=
 ToP.run2 (z:=⟨false,false,false⟩) (n:=20000) (dec:=(ff 4 [])) (mask:=(mskO 4 [])) (os:=(ra 1 (decide (pf>3),false) (ra 3 (decide (pf<0),false) []))) (es:=[.oi pf pf]) soundAX (fun dead=>by kernel_rfl) (ra_ok (decide_eq_false (by omega)) (ra_ok (decide_eq_false (by omega)) ae_nil _) _) (aob_cons rfl aob_nil) (fun s=>canB_ok (by kernel_rfl)) (by kernel_rfl)
theorem zs_l3ft (s:Asg) {pf:Int} (h:PfH pf):ToP Tryz.prog 86 (c1 (c2 (c2 (c2 ((bodyF Tryz.prog 3)))))) (filS2 s ⟨[(0,.one (qS pf)),(1,.one (qB false)),(2,.one (qB true))],[],0⟩) .normal (Fil2 ⟨[(0,.one (qS pf)),(1,.one (qB false)),(2,.one (qB true)),(7,.one (qL (.ptr 30 0)))],zsM21 pf,548⟩):=
 ToP.of_ToO (n:=3) (by kernel_rfl) (by kernel_rfl) (ToO.seq (m:=2) (m':=1) (B:=Fil2 ⟨[(19,.one (qL (.ptr 30 0))),(0,.one (qS pf)),(1,.one (qB false)),(2,.one (qB true))],zsM21 pf,548⟩) (ToO.seq (m:=1) (m':=1) (B:=Fil2 ⟨[(18,.one (qS pf)),(0,.one (qS pf)),(1,.one (qB false)),(2,.one (qB true))],[],0⟩)
  (ToO.run2 (z:=⟨false,false,false⟩) (n:=20000) (dec:=[]) (mask:=[]) (os:=[]) (es:=[.oi pf pf,.oi pf pf]) soundAE (by kernel_rfl) (by kernel_rfl) (fun dead=>by kernel_rfl) ae_nil (aob_cons rfl (aob_cons rfl aob_nil)) (fun s=>canB_ok (by kernel_rfl)) (by kernel_rfl))
  (by rintro x ⟨s,rfl⟩;exact (ToO.callK (sz:=86) (A:=filS2 s ⟨[(18,.one (qS pf)),(0,.one (qS pf)),(1,.one (qB false)),(2,.one (qB true))],[],0⟩) (B:=Fil2 ⟨[(2,.one (qL (.ptr 30 0)))],zsM21 pf,548⟩) (t:=19) (f:=10) (args:=[I pf]) (e:= .ret) (v:=fun _=> .v (.one (.ptr 30 0))) soundAE [0,1,2] (fun dead=>by kernel_rfl) Tryz.func10 (by kernel_rfl) (by kernel_rfl) (by kernel_rfl) (by kernel_rfl) (zs_nAll s h) (.inr rfl) (by rintro x ⟨s,rfl⟩ dead;kernel_rfl) (by rintro x ⟨s,rfl⟩;exact canB_ok (by kernel_rfl))).mono (by rintro y ⟨x,⟨s,rfl⟩,rfl⟩;exact ⟨s,rfl⟩)))
  (by rintro x ⟨s,rfl⟩;exact ToO.run2 (z:=⟨false,false,false⟩) (n:=20000) (dec:=[]) (mask:=[]) (os:=[]) (es:=[.oi pf pf,.oi pf pf]) soundAE (by kernel_rfl) (by kernel_rfl) (fun dead=>by kernel_rfl) ae_nil (aob_cons rfl (aob_cons rfl aob_nil)) (fun s=>canB_ok (by kernel_rfl)) (by kernel_rfl)))
theorem zs_x4ft (s:Asg) {pf:Int}:ToP Tryz.prog 86 (c1 (c2 (c2 (c2 (c2 ((bodyF Tryz.prog 3))))))) (filS2 s ⟨[(0,.one (qS pf)),(1,.one (qB false)),(2,.one (qB true)),(7,.one (qL (.ptr 30 0)))],zsM21 pf,548⟩) .normal (Fil2 ⟨[(0,.one (qS pf)),(1,.one (qB false)),(2,.one (qB true)),(7,.one (qL (.ptr 30 0)))],zsM21 pf,548⟩):=
 zCl 0 2 pf (fun dead=>by kernel_rfl) (fun s=>by kernel_rfl) (by kernel_rfl)
theorem zs_x5ft (s:Asg) {pf:Int}:ToP Tryz.prog 86 (c1 (c2 (c2 (c2 (c2 (c2 ((bodyF Tryz.prog 3)))))))) (filS2 s ⟨[(0,.one (qS pf)),(1,.one (qB false)),(2,.one (qB true)),(7,.one (qL (.ptr 30 0)))],zsM21 pf,548⟩) .normal (Fil2 ⟨[(0,.one (qS pf)),(1,.one (qB false)),(2,.one (qB true)),(7,.one (qL (.ptr 30 0)))],zsM21 pf,548⟩):=
 zCl 0 2 pf (fun dead=>by kernel_rfl) (fun s=>by kernel_rfl) (by kernel_rfl)
theorem zs_x6ft (s:Asg) {pf:Int}:ToP Tryz.prog 86 (c1 (c2 (c2 (c2 (c2 (c2 (c2 ((bodyF Tryz.prog 3))))))))) (filS2 s ⟨[(0,.one (qS pf)),(1,.one (qB false)),(2,.one (qB true)),(7,.one (qL (.ptr 30 0)))],zsM21 pf,548⟩) .normal (Fil2 ⟨[(0,.one (qS pf)),(1,.one (qB false)),(2,.one (qB true)),(7,.one (qL (.ptr 30 0)))],zsM27 pf,558⟩):=
 zCl 1 2 pf (fun dead=>by kernel_rfl) (fun s=>by kernel_rfl) (by kernel_rfl)
theorem zs_x7ft0 (s:Asg):ToP Tryz.prog 86 (c1 (c2 (c2 (c2 (c2 (c2 (c2 (c2 ((bodyF Tryz.prog 3)))))))))) (filS2 s ⟨[(0,.one (qS 0)),(1,.one (qB false)),(2,.one (qB true)),(7,.one (qL (.ptr 30 0)))],zsM27 0,558⟩) .normal (Fil2 ⟨[(0,.one (qS 0)),(1,.one (qB false)),(2,.one (qB true)),(7,.one (qL (.ptr 30 0)))],zsM28 0,596⟩):=
 zCl 12 2 0 (fun dead=>by kernel_rfl) (fun s=>by kernel_rfl) (by kernel_rfl)
theorem zs_x8ft0 (s:Asg):ToP Tryz.prog 86 (c1 (c2 (c2 (c2 (c2 (c2 (c2 (c2 (c2 ((bodyF Tryz.prog 3))))))))))) (filS2 s ⟨[(0,.one (qS 0)),(1,.one (qB false)),(2,.one (qB true)),(7,.one (qL (.ptr 30 0)))],zsM28 0,596⟩) .normal (Fil2 ⟨[(0,.one (qS 0)),(1,.one (qB false)),(2,.one (qB true)),(7,.one (qL (.ptr 30 0)))],zsM29 0,614⟩):=
 zCl 12 2 0 (fun dead=>by kernel_rfl) (fun s=>by kernel_rfl) (by kernel_rfl)
theorem zs_x9ft0 (s:Asg):ToP Tryz.prog 86 (c2 (c2 (c2 (c2 (c2 (c2 (c2 (c2 (c2 ((bodyF Tryz.prog 3))))))))))) (filS2 s ⟨[(0,.one (qS 0)),(1,.one (qB false)),(2,.one (qB true)),(7,.one (qL (.ptr 30 0)))],zsM29 0,614⟩) .ret (Fil2 ⟨[(6,.one (qR (.bool true)))],[],616⟩):=
 ToP.run2 (z:=⟨false,false,false⟩) (n:=20000) (dec:=[]) (mask:=[]) (os:=[]) (es:=[.oa (.bool true) (.bool true)]) soundAE (fun dead=>by kernel_rfl) ae_nil (aob_cons rfl aob_nil) (fun s=>canB_ok (by kernel_rfl)) (by kernel_rfl)
theorem zs_x7ft1 (s:Asg):ToP Tryz.prog 86 (c1 (c2 (c2 (c2 (c2 (c2 (c2 (c2 ((bodyF Tryz.prog 3)))))))))) (filS2 s ⟨[(0,.one (qS 1)),(1,.one (qB false)),(2,.one (qB true)),(7,.one (qL (.ptr 30 0)))],zsM27 1,558⟩) .normal (Fil2 ⟨[(0,.one (qS 1)),(1,.one (qB false)),(2,.one (qB true)),(7,.one (qL (.ptr 30 0)))],zsM28 1,596⟩):=
 zCl 12 2 1 (fun dead=>by kernel_rfl) (fun s=>by kernel_rfl) (by kernel_rfl)
theorem zs_x8ft1 (s:Asg):ToP Tryz.prog 86 (c1 (c2 (c2 (c2 (c2 (c2 (c2 (c2 (c2 ((bodyF Tryz.prog 3))))))))))) (filS2 s ⟨[(0,.one (qS 1)),(1,.one (qB false)),(2,.one (qB true)),(7,.one (qL (.ptr 30 0)))],zsM28 1,596⟩) .normal (Fil2 ⟨[(0,.one (qS 1)),(1,.one (qB false)),(2,.one (qB true)),(7,.one (qL (.ptr 30 0)))],zsM29 1,614⟩):=
 zCl 12 2 1 (fun dead=>by kernel_rfl) (fun s=>by kernel_rfl) (by kernel_rfl)
theorem zs_x9ft1 (s:Asg):ToP Tryz.prog 86 (c2 (c2 (c2 (c2 (c2 (c2 (c2 (c2 (c2 ((bodyF Tryz.prog 3))))))))))) (filS2 s ⟨[(0,.one (qS 1)),(1,.one (qB false)),(2,.one (qB true)),(7,.one (qL (.ptr 30 0)))],zsM29 1,614⟩) .ret (Fil2 ⟨[(6,.one (qR (.bool true)))],[],616⟩):=
 ToP.run2 (z:=⟨false,false,false⟩) (n:=20000) (dec:=[]) (mask:=[]) (os:=[]) (es:=[.oa (.bool true) (.bool true)]) soundAE (fun dead=>by kernel_rfl) ae_nil (aob_cons rfl aob_nil) (fun s=>canB_ok (by kernel_rfl)) (by kernel_rfl)
theorem zs_x7ft2 (s:Asg):ToP Tryz.prog 86 (c1 (c2 (c2 (c2 (c2 (c2 (c2 (c2 ((bodyF Tryz.prog 3)))))))))) (filS2 s ⟨[(0,.one (qS 2)),(1,.one (qB false)),(2,.one (qB true)),(7,.one (qL (.ptr 30 0)))],zsM27 2,558⟩) .normal (Fil2 ⟨[(0,.one (qS 2)),(1,.one (qB false)),(2,.one (qB true)),(7,.one (qL (.ptr 30 0)))],zsM28 2,596⟩):=
 zCl 12 2 2 (fun dead=>by kernel_rfl) (fun s=>by kernel_rfl) (by kernel_rfl)
theorem zs_x8ft2 (s:Asg):ToP Tryz.prog 86 (c1 (c2 (c2 (c2 (c2 (c2 (c2 (c2 (c2 ((bodyF Tryz.prog 3))))))))))) (filS2 s ⟨[(0,.one (qS 2)),(1,.one (qB false)),(2,.one (qB true)),(7,.one (qL (.ptr 30 0)))],zsM28 2,596⟩) .normal (Fil2 ⟨[(0,.one (qS 2)),(1,.one (qB false)),(2,.one (qB true)),(7,.one (qL (.ptr 30 0)))],zsM29 2,614⟩):=
 zCl 12 2 2 (fun dead=>by kernel_rfl) (fun s=>by kernel_rfl) (by kernel_rfl)
theorem zs_x9ft2 (s:Asg):ToP Tryz.prog 86 (c2 (c2 (c2 (c2 (c2 (c2 (c2 (c2 (c2 ((bodyF Tryz.prog 3))))))))))) (filS2 s ⟨[(0,.one (qS 2)),(1,.one (qB false)),(2,.one (qB true)),(7,.one (qL (.ptr 30 0)))],zsM29 2,614⟩) .ret (Fil2 ⟨[(6,.one (qR (.bool true)))],[],616⟩):=
 ToP.run2 (z:=⟨false,false,false⟩) (n:=20000) (dec:=[]) (mask:=[]) (os:=[]) (es:=[.oa (.bool true) (.bool true)]) soundAE (fun dead=>by kernel_rfl) ae_nil (aob_cons rfl aob_nil) (fun s=>canB_ok (by kernel_rfl)) (by kernel_rfl)
theorem zs_x7ft3 (s:Asg):ToP Tryz.prog 86 (c1 (c2 (c2 (c2 (c2 (c2 (c2 (c2 ((bodyF Tryz.prog 3)))))))))) (filS2 s ⟨[(0,.one (qS 3)),(1,.one (qB false)),(2,.one (qB true)),(7,.one (qL (.ptr 30 0)))],zsM27 3,558⟩) .normal (Fil2 ⟨[(0,.one (qS 3)),(1,.one (qB false)),(2,.one (qB true)),(7,.one (qL (.ptr 30 0)))],zsM30 3,596⟩):=
 zCl 12 2 3 (fun dead=>by kernel_rfl) (fun s=>by kernel_rfl) (by kernel_rfl)
theorem zs_x8ft3 (s:Asg):ToP Tryz.prog 86 (c1 (c2 (c2 (c2 (c2 (c2 (c2 (c2 (c2 ((bodyF Tryz.prog 3))))))))))) (filS2 s ⟨[(0,.one (qS 3)),(1,.one (qB false)),(2,.one (qB true)),(7,.one (qL (.ptr 30 0)))],zsM30 3,596⟩) .normal (Fil2 ⟨[(0,.one (qS 3)),(1,.one (qB false)),(2,.one (qB true)),(7,.one (qL (.ptr 30 0)))],zsM31 3,614⟩):=
 zCl 12 2 3 (fun dead=>by kernel_rfl) (fun s=>by kernel_rfl) (by kernel_rfl)
theorem zs_x9ft3 (s:Asg):ToP Tryz.prog 86 (c2 (c2 (c2 (c2 (c2 (c2 (c2 (c2 (c2 ((bodyF Tryz.prog 3))))))))))) (filS2 s ⟨[(0,.one (qS 3)),(1,.one (qB false)),(2,.one (qB true)),(7,.one (qL (.ptr 30 0)))],zsM31 3,614⟩) .ret (Fil2 ⟨[(6,.one (qR (.bool true)))],[],616⟩):=
 ToP.run2 (z:=⟨false,false,false⟩) (n:=20000) (dec:=[]) (mask:=[]) (os:=[]) (es:=[.oa (.bool true) (.bool true)]) soundAE (fun dead=>by kernel_rfl) ae_nil (aob_cons rfl aob_nil) (fun s=>canB_ok (by kernel_rfl)) (by kernel_rfl)
theorem zs_lawft (s:Asg) {pf:Int}:ToR Tryz.prog 86 0 ((bodyF Tryz.prog 3)) (filS2 s ⟨[(0,.one (qS pf)),(1,.one (qB false)),(2,.one (qB true))],[],0⟩) .ret zsF:=by
 refine ToR.seq (by kernel_rfl) (ToR.of_ToP (zs_l0ft s) (by kernel_rfl)) ?_
 rintro x ⟨s,rfl⟩
 refine ToR.seq (by kernel_rfl) (ToR.of_ToP (zs_l1ft s) (by kernel_rfl)) ?_
 rintro x ⟨s,rfl⟩
 by_cases h0:pf<0
 ·exact ToR.seq_out (by kernel_rfl) (by simp) ((ToR.of_ToP (zs_l2fta s h0) (by kernel_rfl)).mono (by rintro x ⟨s,rfl⟩;exact ⟨s,0,rfl⟩))
 by_cases h1:pf>3
 ·exact ToR.seq_out (by kernel_rfl) (by simp) ((ToR.of_ToP (zs_l2ftb s h0 h1) (by kernel_rfl)).mono (by rintro x ⟨s,rfl⟩;exact ⟨s,0,rfl⟩))
 refine ToR.seq (by kernel_rfl) (ToR.of_ToP (zs_l2ftc s h0 h1) (by kernel_rfl)) ?_
 rintro x ⟨s,rfl⟩
 have h:PfH pf:=⟨by omega,by omega⟩
 refine ToR.seq (by kernel_rfl) (ToR.of_ToP (zs_l3ft s h) (by kernel_rfl)) ?_
 rintro x ⟨s,rfl⟩
 refine ToR.seq (by kernel_rfl) (ToR.of_ToP (zs_x4ft s) (by kernel_rfl)) ?_
 rintro x ⟨s,rfl⟩
 refine ToR.seq (by kernel_rfl) (ToR.of_ToP (zs_x5ft s) (by kernel_rfl)) ?_
 rintro x ⟨s,rfl⟩
 refine ToR.seq (by kernel_rfl) (ToR.of_ToP (zs_x6ft s) (by kernel_rfl)) ?_
 rintro x ⟨s,rfl⟩
 obtain rfl | rfl | rfl | rfl:pf=0∨pf=1∨pf=2∨pf=3:=by omega
 ·exact (ToR.seq (by kernel_rfl) (ToR.of_ToP (zs_x7ft0 s) (by kernel_rfl)) (by rintro x ⟨s,rfl⟩;exact ToR.seq (by kernel_rfl) (ToR.of_ToP (zs_x8ft0 s) (by kernel_rfl)) (by rintro x ⟨s,rfl⟩;exact (ToR.of_ToP (zs_x9ft0 s) (by kernel_rfl)).mono (by rintro x ⟨s,rfl⟩;exact ⟨s,_,rfl⟩))))
 ·exact (ToR.seq (by kernel_rfl) (ToR.of_ToP (zs_x7ft1 s) (by kernel_rfl)) (by rintro x ⟨s,rfl⟩;exact ToR.seq (by kernel_rfl) (ToR.of_ToP (zs_x8ft1 s) (by kernel_rfl)) (by rintro x ⟨s,rfl⟩;exact (ToR.of_ToP (zs_x9ft1 s) (by kernel_rfl)).mono (by rintro x ⟨s,rfl⟩;exact ⟨s,_,rfl⟩))))
 ·exact (ToR.seq (by kernel_rfl) (ToR.of_ToP (zs_x7ft2 s) (by kernel_rfl)) (by rintro x ⟨s,rfl⟩;exact ToR.seq (by kernel_rfl) (ToR.of_ToP (zs_x8ft2 s) (by kernel_rfl)) (by rintro x ⟨s,rfl⟩;exact (ToR.of_ToP (zs_x9ft2 s) (by kernel_rfl)).mono (by rintro x ⟨s,rfl⟩;exact ⟨s,_,rfl⟩))))
 ·exact (ToR.seq (by kernel_rfl) (ToR.of_ToP (zs_x7ft3 s) (by kernel_rfl)) (by rintro x ⟨s,rfl⟩;exact ToR.seq (by kernel_rfl) (ToR.of_ToP (zs_x8ft3 s) (by kernel_rfl)) (by rintro x ⟨s,rfl⟩;exact (ToR.of_ToP (zs_x9ft3 s) (by kernel_rfl)).mono (by rintro x ⟨s,rfl⟩;exact ⟨s,_,rfl⟩))))
theorem zs_l0tf (s:Asg) {pf:Int}:ToP Tryz.prog 86 (c1 ((bodyF Tryz.prog 3))) (filS2 s ⟨[(0,.one (qS pf)),(1,.one (qB true)),(2,.one (qB false))],[],0⟩) .normal (Fil2 ⟨[(0,.one (qS pf)),(1,.one (qB true)),(2,.one (qB false))],[],0⟩):=
 ToP.run2 (z:=⟨false,false,false⟩) (n:=20000) (dec:=[]) (mask:=[]) (os:=[]) (es:=[.oi pf pf]) soundAX (fun dead=>by kernel_rfl) ae_nil (aob_cons rfl aob_nil) (fun s=>canB_ok (by kernel_rfl)) (by kernel_rfl)
theorem zs_l1tf (s:Asg) {pf:Int}:ToP Tryz.prog 86 (c1 (c2 ((bodyF Tryz.prog 3)))) (filS2 s ⟨[(0,.one (qS pf)),(1,.one (qB true)),(2,.one (qB false))],[],0⟩) .normal (Fil2 ⟨[(0,.one (qS pf)),(1,.one (qB true)),(2,.one (qB false))],[],0⟩):=
 ToP.run2 (z:=⟨false,false,false⟩) (n:=20000) (dec:=[]) (mask:=[]) (os:=[]) (es:=[.oi pf pf]) soundAX (fun dead=>by kernel_rfl) ae_nil (aob_cons rfl aob_nil) (fun s=>canB_ok (by kernel_rfl)) (by kernel_rfl)
theorem zs_l2tfa (s:Asg) {pf:Int} (h0:pf<0):ToP Tryz.prog 86 (c1 (c2 (c2 ((bodyF Tryz.prog 3))))) (filS2 s ⟨[(0,.one (qS pf)),(1,.one (qB true)),(2,.one (qB false))],[],0⟩) .ret (Fil2 ⟨[(6,.one (qB true))],[],0⟩):=
 ToP.run2 (z:=⟨false,false,false⟩) (n:=20000) (dec:=(tt 3 (nn 1 []))) (mask:=(mskO 3 [])) (os:=(ra 3 (decide (pf<0),true) [])) (es:=[]) soundAX (fun dead=>by kernel_rfl) (ra_ok (decide_eq_true (by omega)) ae_nil _) aob_nil (fun s=>canB_ok (by kernel_rfl)) (by kernel_rfl)
theorem zs_l2tfb (s:Asg) {pf:Int} (h0:¬(pf<0)) (h1:pf>3):ToP Tryz.prog 86 (c1 (c2 (c2 ((bodyF Tryz.prog 3))))) (filS2 s ⟨[(0,.one (qS pf)),(1,.one (qB true)),(2,.one (qB false))],[],0⟩) .ret (Fil2 ⟨[(6,.one (qB true))],[],0⟩):=
 ToP.run2 (z:=⟨false,false,false⟩) (n:=20000) (dec:=(ff 3 (tt 1 []))) (mask:=(mskO 4 [])) (os:=(ra 1 (decide (pf>3),true) (ra 3 (decide (pf<0),false) []))) (es:=[]) soundAX (fun dead=>by kernel_rfl) (ra_ok (decide_eq_true (by omega)) (ra_ok (decide_eq_false (by omega)) ae_nil _) _) aob_nil (fun s=>canB_ok (by kernel_rfl)) (by kernel_rfl)
theorem zs_l2tfc (s:Asg) {pf:Int} (h0:¬(pf<0)) (h1:¬(pf>3)):ToP Tryz.prog 86 (c1 (c2 (c2 ((bodyF Tryz.prog 3))))) (filS2 s ⟨[(0,.one (qS pf)),(1,.one (qB true)),(2,.one (qB false))],[],0⟩) .normal (Fil2 ⟨[(0,.one (qS pf)),(1,.one (qB true)),(2,.one (qB false))],[],0⟩):=
 ToP.run2 (z:=⟨false,false,false⟩) (n:=20000) (dec:=(ff 4 [])) (mask:=(mskO 4 [])) (os:=(ra 1 (decide (pf>3),false) (ra 3 (decide (pf<0),false) []))) (es:=[.oi pf pf]) soundAX (fun dead=>by kernel_rfl) (ra_ok (decide_eq_false (by omega)) (ra_ok (decide_eq_false (by omega)) ae_nil _) _) (aob_cons rfl aob_nil) (fun s=>canB_ok (by kernel_rfl)) (by kernel_rfl)
theorem zs_l3tf (s:Asg) {pf:Int} (h:PfH pf):ToP Tryz.prog 86 (c1 (c2 (c2 (c2 ((bodyF Tryz.prog 3)))))) (filS2 s ⟨[(0,.one (qS pf)),(1,.one (qB true)),(2,.one (qB false))],[],0⟩) .normal (Fil2 ⟨[(0,.one (qS pf)),(1,.one (qB true)),(2,.one (qB false)),(7,.one (qL (.ptr 30 0)))],zsM21 pf,548⟩):=
 ToP.of_ToO (n:=3) (by kernel_rfl) (by kernel_rfl) (ToO.seq (m:=2) (m':=1) (B:=Fil2 ⟨[(19,.one (qL (.ptr 30 0))),(0,.one (qS pf)),(1,.one (qB true)),(2,.one (qB false))],zsM21 pf,548⟩) (ToO.seq (m:=1) (m':=1) (B:=Fil2 ⟨[(18,.one (qS pf)),(0,.one (qS pf)),(1,.one (qB true)),(2,.one (qB false))],[],0⟩)
  (ToO.run2 (z:=⟨false,false,false⟩) (n:=20000) (dec:=[]) (mask:=[]) (os:=[]) (es:=[.oi pf pf,.oi pf pf]) soundAE (by kernel_rfl) (by kernel_rfl) (fun dead=>by kernel_rfl) ae_nil (aob_cons rfl (aob_cons rfl aob_nil)) (fun s=>canB_ok (by kernel_rfl)) (by kernel_rfl))
  (by rintro x ⟨s,rfl⟩;exact (ToO.callK (sz:=86) (A:=filS2 s ⟨[(18,.one (qS pf)),(0,.one (qS pf)),(1,.one (qB true)),(2,.one (qB false))],[],0⟩) (B:=Fil2 ⟨[(2,.one (qL (.ptr 30 0)))],zsM21 pf,548⟩) (t:=19) (f:=10) (args:=[I pf]) (e:= .ret) (v:=fun _=> .v (.one (.ptr 30 0))) soundAE [0,1,2] (fun dead=>by kernel_rfl) Tryz.func10 (by kernel_rfl) (by kernel_rfl) (by kernel_rfl) (by kernel_rfl) (zs_nAll s h) (.inr rfl) (by rintro x ⟨s,rfl⟩ dead;kernel_rfl) (by rintro x ⟨s,rfl⟩;exact canB_ok (by kernel_rfl))).mono (by rintro y ⟨x,⟨s,rfl⟩,rfl⟩;exact ⟨s,rfl⟩)))
  (by rintro x ⟨s,rfl⟩;exact ToO.run2 (z:=⟨false,false,false⟩) (n:=20000) (dec:=[]) (mask:=[]) (os:=[]) (es:=[.oi pf pf,.oi pf pf]) soundAE (by kernel_rfl) (by kernel_rfl) (fun dead=>by kernel_rfl) ae_nil (aob_cons rfl (aob_cons rfl aob_nil)) (fun s=>canB_ok (by kernel_rfl)) (by kernel_rfl)))
theorem zs_x4tf (s:Asg) {pf:Int}:ToP Tryz.prog 86 (c1 (c2 (c2 (c2 (c2 ((bodyF Tryz.prog 3))))))) (filS2 s ⟨[(0,.one (qS pf)),(1,.one (qB true)),(2,.one (qB false)),(7,.one (qL (.ptr 30 0)))],zsM21 pf,548⟩) .normal (Fil2 ⟨[(0,.one (qS pf)),(1,.one (qB true)),(2,.one (qB false)),(7,.one (qL (.ptr 30 0)))],zsM21 pf,548⟩):=
 zCl 0 2 pf (fun dead=>by kernel_rfl) (fun s=>by kernel_rfl) (by kernel_rfl)
theorem zs_x5tf (s:Asg) {pf:Int}:ToP Tryz.prog 86 (c1 (c2 (c2 (c2 (c2 (c2 ((bodyF Tryz.prog 3)))))))) (filS2 s ⟨[(0,.one (qS pf)),(1,.one (qB true)),(2,.one (qB false)),(7,.one (qL (.ptr 30 0)))],zsM21 pf,548⟩) .normal (Fil2 ⟨[(0,.one (qS pf)),(1,.one (qB true)),(2,.one (qB false)),(7,.one (qL (.ptr 30 0)))],zsM32 pf,557⟩):=
 zCl 1 2 pf (fun dead=>by kernel_rfl) (fun s=>by kernel_rfl) (by kernel_rfl)
theorem zs_x6tf (s:Asg) {pf:Int}:ToP Tryz.prog 86 (c1 (c2 (c2 (c2 (c2 (c2 (c2 ((bodyF Tryz.prog 3))))))))) (filS2 s ⟨[(0,.one (qS pf)),(1,.one (qB true)),(2,.one (qB false)),(7,.one (qL (.ptr 30 0)))],zsM32 pf,557⟩) .normal (Fil2 ⟨[(0,.one (qS pf)),(1,.one (qB true)),(2,.one (qB false)),(7,.one (qL (.ptr 30 0)))],zsM32 pf,557⟩):=
 zCl 0 2 pf (fun dead=>by kernel_rfl) (fun s=>by kernel_rfl) (by kernel_rfl)
theorem zs_x7tf0 (s:Asg):ToP Tryz.prog 86 (c1 (c2 (c2 (c2 (c2 (c2 (c2 (c2 ((bodyF Tryz.prog 3)))))))))) (filS2 s ⟨[(0,.one (qS 0)),(1,.one (qB true)),(2,.one (qB false)),(7,.one (qL (.ptr 30 0)))],zsM32 0,557⟩) .normal (Fil2 ⟨[(0,.one (qS 0)),(1,.one (qB true)),(2,.one (qB false)),(7,.one (qL (.ptr 30 0)))],zsM33 0,590⟩):=
 zCl 12 2 0 (fun dead=>by kernel_rfl) (fun s=>by kernel_rfl) (by kernel_rfl)
theorem zs_x8tf0 (s:Asg):ToP Tryz.prog 86 (c1 (c2 (c2 (c2 (c2 (c2 (c2 (c2 (c2 ((bodyF Tryz.prog 3))))))))))) (filS2 s ⟨[(0,.one (qS 0)),(1,.one (qB true)),(2,.one (qB false)),(7,.one (qL (.ptr 30 0)))],zsM33 0,590⟩) .normal (Fil2 ⟨[(0,.one (qS 0)),(1,.one (qB true)),(2,.one (qB false)),(7,.one (qL (.ptr 30 0)))],zsM34 0,608⟩):=
 zCl 12 2 0 (fun dead=>by kernel_rfl) (fun s=>by kernel_rfl) (by kernel_rfl)
theorem zs_x9tf0 (s:Asg):ToP Tryz.prog 86 (c2 (c2 (c2 (c2 (c2 (c2 (c2 (c2 (c2 ((bodyF Tryz.prog 3))))))))))) (filS2 s ⟨[(0,.one (qS 0)),(1,.one (qB true)),(2,.one (qB false)),(7,.one (qL (.ptr 30 0)))],zsM34 0,608⟩) .ret (Fil2 ⟨[(6,.one (qR (.bool true)))],[],610⟩):=
 ToP.run2 (z:=⟨false,false,false⟩) (n:=20000) (dec:=[]) (mask:=[]) (os:=[]) (es:=[.oa (.bool true) (.bool true)]) soundAE (fun dead=>by kernel_rfl) ae_nil (aob_cons rfl aob_nil) (fun s=>canB_ok (by kernel_rfl)) (by kernel_rfl)
theorem zs_x7tf1 (s:Asg):ToP Tryz.prog 86 (c1 (c2 (c2 (c2 (c2 (c2 (c2 (c2 ((bodyF Tryz.prog 3)))))))))) (filS2 s ⟨[(0,.one (qS 1)),(1,.one (qB true)),(2,.one (qB false)),(7,.one (qL (.ptr 30 0)))],zsM32 1,557⟩) .normal (Fil2 ⟨[(0,.one (qS 1)),(1,.one (qB true)),(2,.one (qB false)),(7,.one (qL (.ptr 30 0)))],zsM33 1,590⟩):=
 zCl 12 2 1 (fun dead=>by kernel_rfl) (fun s=>by kernel_rfl) (by kernel_rfl)
theorem zs_x8tf1 (s:Asg):ToP Tryz.prog 86 (c1 (c2 (c2 (c2 (c2 (c2 (c2 (c2 (c2 ((bodyF Tryz.prog 3))))))))))) (filS2 s ⟨[(0,.one (qS 1)),(1,.one (qB true)),(2,.one (qB false)),(7,.one (qL (.ptr 30 0)))],zsM33 1,590⟩) .normal (Fil2 ⟨[(0,.one (qS 1)),(1,.one (qB true)),(2,.one (qB false)),(7,.one (qL (.ptr 30 0)))],zsM34 1,608⟩):=
 zCl 12 2 1 (fun dead=>by kernel_rfl) (fun s=>by kernel_rfl) (by kernel_rfl)
theorem zs_x9tf1 (s:Asg):ToP Tryz.prog 86 (c2 (c2 (c2 (c2 (c2 (c2 (c2 (c2 (c2 ((bodyF Tryz.prog 3))))))))))) (filS2 s ⟨[(0,.one (qS 1)),(1,.one (qB true)),(2,.one (qB false)),(7,.one (qL (.ptr 30 0)))],zsM34 1,608⟩) .ret (Fil2 ⟨[(6,.one (qR (.bool true)))],[],610⟩):=
 ToP.run2 (z:=⟨false,false,false⟩) (n:=20000) (dec:=[]) (mask:=[]) (os:=[]) (es:=[.oa (.bool true) (.bool true)]) soundAE (fun dead=>by kernel_rfl) ae_nil (aob_cons rfl aob_nil) (fun s=>canB_ok (by kernel_rfl)) (by kernel_rfl)
theorem zs_x7tf2 (s:Asg):ToP Tryz.prog 86 (c1 (c2 (c2 (c2 (c2 (c2 (c2 (c2 ((bodyF Tryz.prog 3)))))))))) (filS2 s ⟨[(0,.one (qS 2)),(1,.one (qB true)),(2,.one (qB false)),(7,.one (qL (.ptr 30 0)))],zsM32 2,557⟩) .normal (Fil2 ⟨[(0,.one (qS 2)),(1,.one (qB true)),(2,.one (qB false)),(7,.one (qL (.ptr 30 0)))],zsM35 2,590⟩):=
 zCl 12 2 2 (fun dead=>by kernel_rfl) (fun s=>by kernel_rfl) (by kernel_rfl)
theorem zs_x8tf2 (s:Asg):ToP Tryz.prog 86 (c1 (c2 (c2 (c2 (c2 (c2 (c2 (c2 (c2 ((bodyF Tryz.prog 3))))))))))) (filS2 s ⟨[(0,.one (qS 2)),(1,.one (qB true)),(2,.one (qB false)),(7,.one (qL (.ptr 30 0)))],zsM35 2,590⟩) .normal (Fil2 ⟨[(0,.one (qS 2)),(1,.one (qB true)),(2,.one (qB false)),(7,.one (qL (.ptr 30 0)))],zsM36 2,608⟩):=
 zCl 12 2 2 (fun dead=>by kernel_rfl) (fun s=>by kernel_rfl) (by kernel_rfl)
theorem zs_x9tf2 (s:Asg):ToP Tryz.prog 86 (c2 (c2 (c2 (c2 (c2 (c2 (c2 (c2 (c2 ((bodyF Tryz.prog 3))))))))))) (filS2 s ⟨[(0,.one (qS 2)),(1,.one (qB true)),(2,.one (qB false)),(7,.one (qL (.ptr 30 0)))],zsM36 2,608⟩) .ret (Fil2 ⟨[(6,.one (qR (.bool true)))],[],610⟩):=
 ToP.run2 (z:=⟨false,false,false⟩) (n:=20000) (dec:=[]) (mask:=[]) (os:=[]) (es:=[.oa (.bool true) (.bool true)]) soundAE (fun dead=>by kernel_rfl) ae_nil (aob_cons rfl aob_nil) (fun s=>canB_ok (by kernel_rfl)) (by kernel_rfl)
theorem zs_x7tf3 (s:Asg):ToP Tryz.prog 86 (c1 (c2 (c2 (c2 (c2 (c2 (c2 (c2 ((bodyF Tryz.prog 3)))))))))) (filS2 s ⟨[(0,.one (qS 3)),(1,.one (qB true)),(2,.one (qB false)),(7,.one (qL (.ptr 30 0)))],zsM32 3,557⟩) .normal (Fil2 ⟨[(0,.one (qS 3)),(1,.one (qB true)),(2,.one (qB false)),(7,.one (qL (.ptr 30 0)))],zsM33 3,590⟩):=
 zCl 12 2 3 (fun dead=>by kernel_rfl) (fun s=>by kernel_rfl) (by kernel_rfl)
theorem zs_x8tf3 (s:Asg):ToP Tryz.prog 86 (c1 (c2 (c2 (c2 (c2 (c2 (c2 (c2 (c2 ((bodyF Tryz.prog 3))))))))))) (filS2 s ⟨[(0,.one (qS 3)),(1,.one (qB true)),(2,.one (qB false)),(7,.one (qL (.ptr 30 0)))],zsM33 3,590⟩) .normal (Fil2 ⟨[(0,.one (qS 3)),(1,.one (qB true)),(2,.one (qB false)),(7,.one (qL (.ptr 30 0)))],zsM34 3,608⟩):=
 zCl 12 2 3 (fun dead=>by kernel_rfl) (fun s=>by kernel_rfl) (by kernel_rfl)
theorem zs_x9tf3 (s:Asg):ToP Tryz.prog 86 (c2 (c2 (c2 (c2 (c2 (c2 (c2 (c2 (c2 ((bodyF Tryz.prog 3))))))))))) (filS2 s ⟨[(0,.one (qS 3)),(1,.one (qB true)),(2,.one (qB false)),(7,.one (qL (.ptr 30 0)))],zsM34 3,608⟩) .ret (Fil2 ⟨[(6,.one (qR (.bool true)))],[],610⟩):=
 ToP.run2 (z:=⟨false,false,false⟩) (n:=20000) (dec:=[]) (mask:=[]) (os:=[]) (es:=[.oa (.bool true) (.bool true)]) soundAE (fun dead=>by kernel_rfl) ae_nil (aob_cons rfl aob_nil) (fun s=>canB_ok (by kernel_rfl)) (by kernel_rfl)
theorem zs_lawtf (s:Asg) {pf:Int}:ToR Tryz.prog 86 0 ((bodyF Tryz.prog 3)) (filS2 s ⟨[(0,.one (qS pf)),(1,.one (qB true)),(2,.one (qB false))],[],0⟩) .ret zsF:=by
 refine ToR.seq (by kernel_rfl) (ToR.of_ToP (zs_l0tf s) (by kernel_rfl)) ?_
 rintro x ⟨s,rfl⟩
 refine ToR.seq (by kernel_rfl) (ToR.of_ToP (zs_l1tf s) (by kernel_rfl)) ?_
 rintro x ⟨s,rfl⟩
 by_cases h0:pf<0
 ·exact ToR.seq_out (by kernel_rfl) (by simp) ((ToR.of_ToP (zs_l2tfa s h0) (by kernel_rfl)).mono (by rintro x ⟨s,rfl⟩;exact ⟨s,0,rfl⟩))
 by_cases h1:pf>3
 ·exact ToR.seq_out (by kernel_rfl) (by simp) ((ToR.of_ToP (zs_l2tfb s h0 h1) (by kernel_rfl)).mono (by rintro x ⟨s,rfl⟩;exact ⟨s,0,rfl⟩))
 refine ToR.seq (by kernel_rfl) (ToR.of_ToP (zs_l2tfc s h0 h1) (by kernel_rfl)) ?_
 rintro x ⟨s,rfl⟩
 have h:PfH pf:=⟨by omega,by omega⟩
 refine ToR.seq (by kernel_rfl) (ToR.of_ToP (zs_l3tf s h) (by kernel_rfl)) ?_
 rintro x ⟨s,rfl⟩
 refine ToR.seq (by kernel_rfl) (ToR.of_ToP (zs_x4tf s) (by kernel_rfl)) ?_
 rintro x ⟨s,rfl⟩
 refine ToR.seq (by kernel_rfl) (ToR.of_ToP (zs_x5tf s) (by kernel_rfl)) ?_
 rintro x ⟨s,rfl⟩
 refine ToR.seq (by kernel_rfl) (ToR.of_ToP (zs_x6tf s) (by kernel_rfl)) ?_
 rintro x ⟨s,rfl⟩
 obtain rfl | rfl | rfl | rfl:pf=0∨pf=1∨pf=2∨pf=3:=by omega
 ·exact (ToR.seq (by kernel_rfl) (ToR.of_ToP (zs_x7tf0 s) (by kernel_rfl)) (by rintro x ⟨s,rfl⟩;exact ToR.seq (by kernel_rfl) (ToR.of_ToP (zs_x8tf0 s) (by kernel_rfl)) (by rintro x ⟨s,rfl⟩;exact (ToR.of_ToP (zs_x9tf0 s) (by kernel_rfl)).mono (by rintro x ⟨s,rfl⟩;exact ⟨s,_,rfl⟩))))
 ·exact (ToR.seq (by kernel_rfl) (ToR.of_ToP (zs_x7tf1 s) (by kernel_rfl)) (by rintro x ⟨s,rfl⟩;exact ToR.seq (by kernel_rfl) (ToR.of_ToP (zs_x8tf1 s) (by kernel_rfl)) (by rintro x ⟨s,rfl⟩;exact (ToR.of_ToP (zs_x9tf1 s) (by kernel_rfl)).mono (by rintro x ⟨s,rfl⟩;exact ⟨s,_,rfl⟩))))
 ·exact (ToR.seq (by kernel_rfl) (ToR.of_ToP (zs_x7tf2 s) (by kernel_rfl)) (by rintro x ⟨s,rfl⟩;exact ToR.seq (by kernel_rfl) (ToR.of_ToP (zs_x8tf2 s) (by kernel_rfl)) (by rintro x ⟨s,rfl⟩;exact (ToR.of_ToP (zs_x9tf2 s) (by kernel_rfl)).mono (by rintro x ⟨s,rfl⟩;exact ⟨s,_,rfl⟩))))
 ·exact (ToR.seq (by kernel_rfl) (ToR.of_ToP (zs_x7tf3 s) (by kernel_rfl)) (by rintro x ⟨s,rfl⟩;exact ToR.seq (by kernel_rfl) (ToR.of_ToP (zs_x8tf3 s) (by kernel_rfl)) (by rintro x ⟨s,rfl⟩;exact (ToR.of_ToP (zs_x9tf3 s) (by kernel_rfl)).mono (by rintro x ⟨s,rfl⟩;exact ⟨s,_,rfl⟩))))
theorem zs_l0tt (s:Asg) {pf:Int}:ToP Tryz.prog 86 (c1 ((bodyF Tryz.prog 3))) (filS2 s ⟨[(0,.one (qS pf)),(1,.one (qB true)),(2,.one (qB true))],[],0⟩) .normal (Fil2 ⟨[(0,.one (qS pf)),(1,.one (qB true)),(2,.one (qB true))],[],0⟩):=
 ToP.run2 (z:=⟨false,false,false⟩) (n:=20000) (dec:=[]) (mask:=[]) (os:=[]) (es:=[.oi pf pf]) soundAX (fun dead=>by kernel_rfl) ae_nil (aob_cons rfl aob_nil) (fun s=>canB_ok (by kernel_rfl)) (by kernel_rfl)
theorem zs_l1tt (s:Asg) {pf:Int}:ToP Tryz.prog 86 (c1 (c2 ((bodyF Tryz.prog 3)))) (filS2 s ⟨[(0,.one (qS pf)),(1,.one (qB true)),(2,.one (qB true))],[],0⟩) .normal (Fil2 ⟨[(0,.one (qS pf)),(1,.one (qB true)),(2,.one (qB true))],[],0⟩):=
 ToP.run2 (z:=⟨false,false,false⟩) (n:=20000) (dec:=[]) (mask:=[]) (os:=[]) (es:=[.oi pf pf]) soundAX (fun dead=>by kernel_rfl) ae_nil (aob_cons rfl aob_nil) (fun s=>canB_ok (by kernel_rfl)) (by kernel_rfl)
theorem zs_l2tta (s:Asg) {pf:Int} (h0:pf<0):ToP Tryz.prog 86 (c1 (c2 (c2 ((bodyF Tryz.prog 3))))) (filS2 s ⟨[(0,.one (qS pf)),(1,.one (qB true)),(2,.one (qB true))],[],0⟩) .ret (Fil2 ⟨[(6,.one (qB true))],[],0⟩):=
 ToP.run2 (z:=⟨false,false,false⟩) (n:=20000) (dec:=(tt 3 (nn 1 []))) (mask:=(mskO 3 [])) (os:=(ra 3 (decide (pf<0),true) [])) (es:=[]) soundAX (fun dead=>by kernel_rfl) (ra_ok (decide_eq_true (by omega)) ae_nil _) aob_nil (fun s=>canB_ok (by kernel_rfl)) (by kernel_rfl)
theorem zs_l2ttb (s:Asg) {pf:Int} (h0:¬(pf<0)) (h1:pf>3):ToP Tryz.prog 86 (c1 (c2 (c2 ((bodyF Tryz.prog 3))))) (filS2 s ⟨[(0,.one (qS pf)),(1,.one (qB true)),(2,.one (qB true))],[],0⟩) .ret (Fil2 ⟨[(6,.one (qB true))],[],0⟩):=
 ToP.run2 (z:=⟨false,false,false⟩) (n:=20000) (dec:=(ff 3 (tt 1 []))) (mask:=(mskO 4 [])) (os:=(ra 1 (decide (pf>3),true) (ra 3 (decide (pf<0),false) []))) (es:=[]) soundAX (fun dead=>by kernel_rfl) (ra_ok (decide_eq_true (by omega)) (ra_ok (decide_eq_false (by omega)) ae_nil _) _) aob_nil (fun s=>canB_ok (by kernel_rfl)) (by kernel_rfl)
theorem zs_l2ttc (s:Asg) {pf:Int} (h0:¬(pf<0)) (h1:¬(pf>3)):ToP Tryz.prog 86 (c1 (c2 (c2 ((bodyF Tryz.prog 3))))) (filS2 s ⟨[(0,.one (qS pf)),(1,.one (qB true)),(2,.one (qB true))],[],0⟩) .normal (Fil2 ⟨[(0,.one (qS pf)),(1,.one (qB true)),(2,.one (qB true))],[],0⟩):=
 ToP.run2 (z:=⟨false,false,false⟩) (n:=20000) (dec:=(ff 4 [])) (mask:=(mskO 4 [])) (os:=(ra 1 (decide (pf>3),false) (ra 3 (decide (pf<0),false) []))) (es:=[.oi pf pf]) soundAX (fun dead=>by kernel_rfl) (ra_ok (decide_eq_false (by omega)) (ra_ok (decide_eq_false (by omega)) ae_nil _) _) (aob_cons rfl aob_nil) (fun s=>canB_ok (by kernel_rfl)) (by kernel_rfl)
theorem zs_l3tt (s:Asg) {pf:Int} (h:PfH pf):ToP Tryz.prog 86 (c1 (c2 (c2 (c2 ((bodyF Tryz.prog 3)))))) (filS2 s ⟨[(0,.one (qS pf)),(1,.one (qB true)),(2,.one (qB true))],[],0⟩) .normal (Fil2 ⟨[(0,.one (qS pf)),(1,.one (qB true)),(2,.one (qB true)),(7,.one (qL (.ptr 30 0)))],zsM21 pf,548⟩):=
 ToP.of_ToO (n:=3) (by kernel_rfl) (by kernel_rfl) (ToO.seq (m:=2) (m':=1) (B:=Fil2 ⟨[(19,.one (qL (.ptr 30 0))),(0,.one (qS pf)),(1,.one (qB true)),(2,.one (qB true))],zsM21 pf,548⟩) (ToO.seq (m:=1) (m':=1) (B:=Fil2 ⟨[(18,.one (qS pf)),(0,.one (qS pf)),(1,.one (qB true)),(2,.one (qB true))],[],0⟩)
  (ToO.run2 (z:=⟨false,false,false⟩) (n:=20000) (dec:=[]) (mask:=[]) (os:=[]) (es:=[.oi pf pf,.oi pf pf]) soundAE (by kernel_rfl) (by kernel_rfl) (fun dead=>by kernel_rfl) ae_nil (aob_cons rfl (aob_cons rfl aob_nil)) (fun s=>canB_ok (by kernel_rfl)) (by kernel_rfl))
  (by rintro x ⟨s,rfl⟩;exact (ToO.callK (sz:=86) (A:=filS2 s ⟨[(18,.one (qS pf)),(0,.one (qS pf)),(1,.one (qB true)),(2,.one (qB true))],[],0⟩) (B:=Fil2 ⟨[(2,.one (qL (.ptr 30 0)))],zsM21 pf,548⟩) (t:=19) (f:=10) (args:=[I pf]) (e:= .ret) (v:=fun _=> .v (.one (.ptr 30 0))) soundAE [0,1,2] (fun dead=>by kernel_rfl) Tryz.func10 (by kernel_rfl) (by kernel_rfl) (by kernel_rfl) (by kernel_rfl) (zs_nAll s h) (.inr rfl) (by rintro x ⟨s,rfl⟩ dead;kernel_rfl) (by rintro x ⟨s,rfl⟩;exact canB_ok (by kernel_rfl))).mono (by rintro y ⟨x,⟨s,rfl⟩,rfl⟩;exact ⟨s,rfl⟩)))
  (by rintro x ⟨s,rfl⟩;exact ToO.run2 (z:=⟨false,false,false⟩) (n:=20000) (dec:=[]) (mask:=[]) (os:=[]) (es:=[.oi pf pf,.oi pf pf]) soundAE (by kernel_rfl) (by kernel_rfl) (fun dead=>by kernel_rfl) ae_nil (aob_cons rfl (aob_cons rfl aob_nil)) (fun s=>canB_ok (by kernel_rfl)) (by kernel_rfl)))
theorem zs_x4tt (s:Asg) {pf:Int}:ToP Tryz.prog 86 (c1 (c2 (c2 (c2 (c2 ((bodyF Tryz.prog 3))))))) (filS2 s ⟨[(0,.one (qS pf)),(1,.one (qB true)),(2,.one (qB true)),(7,.one (qL (.ptr 30 0)))],zsM21 pf,548⟩) .normal (Fil2 ⟨[(0,.one (qS pf)),(1,.one (qB true)),(2,.one (qB true)),(7,.one (qL (.ptr 30 0)))],zsM21 pf,548⟩):=
 zCl 0 2 pf (fun dead=>by kernel_rfl) (fun s=>by kernel_rfl) (by kernel_rfl)
theorem zs_x5tt (s:Asg) {pf:Int}:ToP Tryz.prog 86 (c1 (c2 (c2 (c2 (c2 (c2 ((bodyF Tryz.prog 3)))))))) (filS2 s ⟨[(0,.one (qS pf)),(1,.one (qB true)),(2,.one (qB true)),(7,.one (qL (.ptr 30 0)))],zsM21 pf,548⟩) .normal (Fil2 ⟨[(0,.one (qS pf)),(1,.one (qB true)),(2,.one (qB true)),(7,.one (qL (.ptr 30 0)))],zsM32 pf,557⟩):=
 zCl 1 2 pf (fun dead=>by kernel_rfl) (fun s=>by kernel_rfl) (by kernel_rfl)
theorem zs_x6tt (s:Asg) {pf:Int}:ToP Tryz.prog 86 (c1 (c2 (c2 (c2 (c2 (c2 (c2 ((bodyF Tryz.prog 3))))))))) (filS2 s ⟨[(0,.one (qS pf)),(1,.one (qB true)),(2,.one (qB true)),(7,.one (qL (.ptr 30 0)))],zsM32 pf,557⟩) .normal (Fil2 ⟨[(0,.one (qS pf)),(1,.one (qB true)),(2,.one (qB true)),(7,.one (qL (.ptr 30 0)))],zsM37 pf,567⟩):=
 zCl 1 2 pf (fun dead=>by kernel_rfl) (fun s=>by kernel_rfl) (by kernel_rfl)
theorem zs_x7tt0 (s:Asg):ToP Tryz.prog 86 (c1 (c2 (c2 (c2 (c2 (c2 (c2 (c2 ((bodyF Tryz.prog 3)))))))))) (filS2 s ⟨[(0,.one (qS 0)),(1,.one (qB true)),(2,.one (qB true)),(7,.one (qL (.ptr 30 0)))],zsM37 0,567⟩) .normal (Fil2 ⟨[(0,.one (qS 0)),(1,.one (qB true)),(2,.one (qB true)),(7,.one (qL (.ptr 30 0)))],zsM38 0,621⟩):=
 zCl 13 2 0 (fun dead=>by kernel_rfl) (fun s=>by kernel_rfl) (by kernel_rfl)
theorem zs_x8tt0 (s:Asg):ToP Tryz.prog 86 (c1 (c2 (c2 (c2 (c2 (c2 (c2 (c2 (c2 ((bodyF Tryz.prog 3))))))))))) (filS2 s ⟨[(0,.one (qS 0)),(1,.one (qB true)),(2,.one (qB true)),(7,.one (qL (.ptr 30 0)))],zsM38 0,621⟩) .normal (Fil2 ⟨[(0,.one (qS 0)),(1,.one (qB true)),(2,.one (qB true)),(7,.one (qL (.ptr 30 0)))],zsM39 0,640⟩):=
 zCl 12 2 0 (fun dead=>by kernel_rfl) (fun s=>by kernel_rfl) (by kernel_rfl)
theorem zs_x9tt0 (s:Asg):ToP Tryz.prog 86 (c2 (c2 (c2 (c2 (c2 (c2 (c2 (c2 (c2 ((bodyF Tryz.prog 3))))))))))) (filS2 s ⟨[(0,.one (qS 0)),(1,.one (qB true)),(2,.one (qB true)),(7,.one (qL (.ptr 30 0)))],zsM39 0,640⟩) .ret (Fil2 ⟨[(6,.one (qR (.bool true)))],[],642⟩):=
 ToP.run2 (z:=⟨false,false,false⟩) (n:=20000) (dec:=[]) (mask:=[]) (os:=[]) (es:=[.oa (.bool true) (.bool true)]) soundAE (fun dead=>by kernel_rfl) ae_nil (aob_cons rfl aob_nil) (fun s=>canB_ok (by kernel_rfl)) (by kernel_rfl)
theorem zs_x7tt1 (s:Asg):ToP Tryz.prog 86 (c1 (c2 (c2 (c2 (c2 (c2 (c2 (c2 ((bodyF Tryz.prog 3)))))))))) (filS2 s ⟨[(0,.one (qS 1)),(1,.one (qB true)),(2,.one (qB true)),(7,.one (qL (.ptr 30 0)))],zsM37 1,567⟩) .normal (Fil2 ⟨[(0,.one (qS 1)),(1,.one (qB true)),(2,.one (qB true)),(7,.one (qL (.ptr 30 0)))],zsM38 1,621⟩):=
 zCl 13 2 1 (fun dead=>by kernel_rfl) (fun s=>by kernel_rfl) (by kernel_rfl)
theorem zs_x8tt1 (s:Asg):ToP Tryz.prog 86 (c1 (c2 (c2 (c2 (c2 (c2 (c2 (c2 (c2 ((bodyF Tryz.prog 3))))))))))) (filS2 s ⟨[(0,.one (qS 1)),(1,.one (qB true)),(2,.one (qB true)),(7,.one (qL (.ptr 30 0)))],zsM38 1,621⟩) .normal (Fil2 ⟨[(0,.one (qS 1)),(1,.one (qB true)),(2,.one (qB true)),(7,.one (qL (.ptr 30 0)))],zsM39 1,640⟩):=
 zCl 12 2 1 (fun dead=>by kernel_rfl) (fun s=>by kernel_rfl) (by kernel_rfl)
theorem zs_x9tt1 (s:Asg):ToP Tryz.prog 86 (c2 (c2 (c2 (c2 (c2 (c2 (c2 (c2 (c2 ((bodyF Tryz.prog 3))))))))))) (filS2 s ⟨[(0,.one (qS 1)),(1,.one (qB true)),(2,.one (qB true)),(7,.one (qL (.ptr 30 0)))],zsM39 1,640⟩) .ret (Fil2 ⟨[(6,.one (qR (.bool true)))],[],642⟩):=
 ToP.run2 (z:=⟨false,false,false⟩) (n:=20000) (dec:=[]) (mask:=[]) (os:=[]) (es:=[.oa (.bool true) (.bool true)]) soundAE (fun dead=>by kernel_rfl) ae_nil (aob_cons rfl aob_nil) (fun s=>canB_ok (by kernel_rfl)) (by kernel_rfl)
theorem zs_x7tt2 (s:Asg):ToP Tryz.prog 86 (c1 (c2 (c2 (c2 (c2 (c2 (c2 (c2 ((bodyF Tryz.prog 3)))))))))) (filS2 s ⟨[(0,.one (qS 2)),(1,.one (qB true)),(2,.one (qB true)),(7,.one (qL (.ptr 30 0)))],zsM37 2,567⟩) .normal (Fil2 ⟨[(0,.one (qS 2)),(1,.one (qB true)),(2,.one (qB true)),(7,.one (qL (.ptr 30 0)))],zsM40 2,621⟩):=
 zCl 13 2 2 (fun dead=>by kernel_rfl) (fun s=>by kernel_rfl) (by kernel_rfl)
theorem zs_x8tt2 (s:Asg):ToP Tryz.prog 86 (c1 (c2 (c2 (c2 (c2 (c2 (c2 (c2 (c2 ((bodyF Tryz.prog 3))))))))))) (filS2 s ⟨[(0,.one (qS 2)),(1,.one (qB true)),(2,.one (qB true)),(7,.one (qL (.ptr 30 0)))],zsM40 2,621⟩) .normal (Fil2 ⟨[(0,.one (qS 2)),(1,.one (qB true)),(2,.one (qB true)),(7,.one (qL (.ptr 30 0)))],zsM41 2,640⟩):=
 zCl 12 2 2 (fun dead=>by kernel_rfl) (fun s=>by kernel_rfl) (by kernel_rfl)
theorem zs_x9tt2 (s:Asg):ToP Tryz.prog 86 (c2 (c2 (c2 (c2 (c2 (c2 (c2 (c2 (c2 ((bodyF Tryz.prog 3))))))))))) (filS2 s ⟨[(0,.one (qS 2)),(1,.one (qB true)),(2,.one (qB true)),(7,.one (qL (.ptr 30 0)))],zsM41 2,640⟩) .ret (Fil2 ⟨[(6,.one (qR (.bool true)))],[],642⟩):=
 ToP.run2 (z:=⟨false,false,false⟩) (n:=20000) (dec:=[]) (mask:=[]) (os:=[]) (es:=[.oa (.bool true) (.bool true)]) soundAE (fun dead=>by kernel_rfl) ae_nil (aob_cons rfl aob_nil) (fun s=>canB_ok (by kernel_rfl)) (by kernel_rfl)
theorem zs_x7tt3 (s:Asg):ToP Tryz.prog 86 (c1 (c2 (c2 (c2 (c2 (c2 (c2 (c2 ((bodyF Tryz.prog 3)))))))))) (filS2 s ⟨[(0,.one (qS 3)),(1,.one (qB true)),(2,.one (qB true)),(7,.one (qL (.ptr 30 0)))],zsM37 3,567⟩) .normal (Fil2 ⟨[(0,.one (qS 3)),(1,.one (qB true)),(2,.one (qB true)),(7,.one (qL (.ptr 30 0)))],zsM42 3,621⟩):=
 zCl 13 2 3 (fun dead=>by kernel_rfl) (fun s=>by kernel_rfl) (by kernel_rfl)
theorem zs_x8tt3 (s:Asg):ToP Tryz.prog 86 (c1 (c2 (c2 (c2 (c2 (c2 (c2 (c2 (c2 ((bodyF Tryz.prog 3))))))))))) (filS2 s ⟨[(0,.one (qS 3)),(1,.one (qB true)),(2,.one (qB true)),(7,.one (qL (.ptr 30 0)))],zsM42 3,621⟩) .normal (Fil2 ⟨[(0,.one (qS 3)),(1,.one (qB true)),(2,.one (qB true)),(7,.one (qL (.ptr 30 0)))],zsM43 3,640⟩):=
 zCl 12 2 3 (fun dead=>by kernel_rfl) (fun s=>by kernel_rfl) (by kernel_rfl)
theorem zs_x9tt3 (s:Asg):ToP Tryz.prog 86 (c2 (c2 (c2 (c2 (c2 (c2 (c2 (c2 (c2 ((bodyF Tryz.prog 3))))))))))) (filS2 s ⟨[(0,.one (qS 3)),(1,.one (qB true)),(2,.one (qB true)),(7,.one (qL (.ptr 30 0)))],zsM43 3,640⟩) .ret (Fil2 ⟨[(6,.one (qR (.bool true)))],[],642⟩):=
 ToP.run2 (z:=⟨false,false,false⟩) (n:=20000) (dec:=[]) (mask:=[]) (os:=[]) (es:=[.oa (.bool true) (.bool true)]) soundAE (fun dead=>by kernel_rfl) ae_nil (aob_cons rfl aob_nil) (fun s=>canB_ok (by kernel_rfl)) (by kernel_rfl)
theorem zs_lawtt (s:Asg) {pf:Int}:ToR Tryz.prog 86 0 ((bodyF Tryz.prog 3)) (filS2 s ⟨[(0,.one (qS pf)),(1,.one (qB true)),(2,.one (qB true))],[],0⟩) .ret zsF:=by
 refine ToR.seq (by kernel_rfl) (ToR.of_ToP (zs_l0tt s) (by kernel_rfl)) ?_
 rintro x ⟨s,rfl⟩
 refine ToR.seq (by kernel_rfl) (ToR.of_ToP (zs_l1tt s) (by kernel_rfl)) ?_
 rintro x ⟨s,rfl⟩
 by_cases h0:pf<0
 ·exact ToR.seq_out (by kernel_rfl) (by simp) ((ToR.of_ToP (zs_l2tta s h0) (by kernel_rfl)).mono (by rintro x ⟨s,rfl⟩;exact ⟨s,0,rfl⟩))
 by_cases h1:pf>3
 ·exact ToR.seq_out (by kernel_rfl) (by simp) ((ToR.of_ToP (zs_l2ttb s h0 h1) (by kernel_rfl)).mono (by rintro x ⟨s,rfl⟩;exact ⟨s,0,rfl⟩))
 refine ToR.seq (by kernel_rfl) (ToR.of_ToP (zs_l2ttc s h0 h1) (by kernel_rfl)) ?_
 rintro x ⟨s,rfl⟩
 have h:PfH pf:=⟨by omega,by omega⟩
 refine ToR.seq (by kernel_rfl) (ToR.of_ToP (zs_l3tt s h) (by kernel_rfl)) ?_
 rintro x ⟨s,rfl⟩
 refine ToR.seq (by kernel_rfl) (ToR.of_ToP (zs_x4tt s) (by kernel_rfl)) ?_
 rintro x ⟨s,rfl⟩
 refine ToR.seq (by kernel_rfl) (ToR.of_ToP (zs_x5tt s) (by kernel_rfl)) ?_
 rintro x ⟨s,rfl⟩
 refine ToR.seq (by kernel_rfl) (ToR.of_ToP (zs_x6tt s) (by kernel_rfl)) ?_
 rintro x ⟨s,rfl⟩
 obtain rfl | rfl | rfl | rfl:pf=0∨pf=1∨pf=2∨pf=3:=by omega
 ·exact (ToR.seq (by kernel_rfl) (ToR.of_ToP (zs_x7tt0 s) (by kernel_rfl)) (by rintro x ⟨s,rfl⟩;exact ToR.seq (by kernel_rfl) (ToR.of_ToP (zs_x8tt0 s) (by kernel_rfl)) (by rintro x ⟨s,rfl⟩;exact (ToR.of_ToP (zs_x9tt0 s) (by kernel_rfl)).mono (by rintro x ⟨s,rfl⟩;exact ⟨s,_,rfl⟩))))
 ·exact (ToR.seq (by kernel_rfl) (ToR.of_ToP (zs_x7tt1 s) (by kernel_rfl)) (by rintro x ⟨s,rfl⟩;exact ToR.seq (by kernel_rfl) (ToR.of_ToP (zs_x8tt1 s) (by kernel_rfl)) (by rintro x ⟨s,rfl⟩;exact (ToR.of_ToP (zs_x9tt1 s) (by kernel_rfl)).mono (by rintro x ⟨s,rfl⟩;exact ⟨s,_,rfl⟩))))
 ·exact (ToR.seq (by kernel_rfl) (ToR.of_ToP (zs_x7tt2 s) (by kernel_rfl)) (by rintro x ⟨s,rfl⟩;exact ToR.seq (by kernel_rfl) (ToR.of_ToP (zs_x8tt2 s) (by kernel_rfl)) (by rintro x ⟨s,rfl⟩;exact (ToR.of_ToP (zs_x9tt2 s) (by kernel_rfl)).mono (by rintro x ⟨s,rfl⟩;exact ⟨s,_,rfl⟩))))
 ·exact (ToR.seq (by kernel_rfl) (ToR.of_ToP (zs_x7tt3 s) (by kernel_rfl)) (by rintro x ⟨s,rfl⟩;exact ToR.seq (by kernel_rfl) (ToR.of_ToP (zs_x8tt3 s) (by kernel_rfl)) (by rintro x ⟨s,rfl⟩;exact (ToR.of_ToP (zs_x9tt3 s) (by kernel_rfl)).mono (by rintro x ⟨s,rfl⟩;exact ⟨s,_,rfl⟩))))
def zs00:Asg:=⟨fun _ _=>0,fun _ _=>false,fun _ _=>0,fun _ _=>false⟩
theorem lawTopSources (pf:Int) (b l:Bool) (w:Go.World):Go.Calls Tryz.prog 3 ([I pf,.v (.one (.bool b)),.v (.one (.bool l))].map (LV.den E0)).toArray w fun e w'=>e = .returned (.bool true)∧Go.RowKit.Below w.heap.size w w':=by
 have h:ToR Tryz.prog 86 0 ((bodyF Tryz.prog 3)) ⟨argsL 0 [I pf,.v (.one (.bool b)),.v (.one (.bool l))],[],0⟩ .ret zsF:=by
  cases b <;> cases l
  ·exact zs_lawff (pf:=pf) zs00
  ·exact zs_lawft (pf:=pf) zs00
  ·exact zs_lawtf (pf:=pf) zs00
  ·exact zs_lawtt (pf:=pf) zs00
 refine law_ToR (args:=[I pf,.v (.one (.bool b)),.v (.one (.bool l))]) (m:=[]) (nb:=0) (N:=0) (v:= .v (.one (.bool true))) Tryz.func3 (by kernel_rfl) (Nat.le_of_ble_eq_true (by kernel_rfl)) (Nat.le_of_ble_eq_true (by kernel_rfl)) ?_ rfl ?_ ?_ ?_ h ?_ rfl E0 w ⟨fun i b h=>by simp [getM] at h,fun i j h=>by simp [getM] at h⟩
 ·intro u hu;simp at hu;rcases hu with rfl | rfl | rfl <;> rfl
 ·exact fun i b h=>by simp [getM] at h
 ·exact fun i b h=>by simp [getM] at h
 ·exact fun i b h=>by simp [getM] at h
 ·rintro x ⟨s,j,rfl⟩
  exact ⟨fun dead=>by kernel_rfl,fun i b h=>by simp [getM] at h⟩
end Go.Proofs.YtnlhpaidmiogbaaGreat
