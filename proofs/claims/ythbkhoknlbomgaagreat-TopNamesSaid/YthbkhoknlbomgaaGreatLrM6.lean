/- Joined texts. What each part proves stands ahead of it; no condition. -/
import Derived.Test.YthbkhoknlbomgaaGreatLrM5
import Derived.Test.YthbkhoknlbomgaaGreatLrM3

/- tri.U, tri.Set: their summaries. -/
namespace Go.Proofs.YthbkhoknlbomgaaGreat
open Go.Lr
set_option linter.unusedVariables false
set_option linter.unusedSimpArgs false
set_option maxRecDepth 20000
theorem plV_int {i j : Int} (h0 : 0 ≤ i) (h1 : i < j) (h2 : j < 24) : 0 ≤ plV i j ∧ plV i j < 276 := by
  obtain ⟨a, rfl⟩ := Int.eq_ofNat_of_zero_le h0
  obtain ⟨b, rfl⟩ := Int.eq_ofNat_of_zero_le (show 0 ≤ j by omega)
  obtain ⟨e1, e2⟩ := plV_nat a b (by omega) (by omega)
  show 0 ≤ plV (a : Int) (b : Int) ∧ plV (a : Int) (b : Int) < 276
  rw [e1]; omega
theorem triU0 (dead : Nat → Value) (l : List At) (i j : Int) : projS [1, 2, 3] [0] (execL Tryz.prog KA0 Zl 400 (spineL 1 (bodyF Tryz.prog 186)) (Kst.st ⟨argsL 0 [.v (.agg (intsAt l 0 300)), I i, I j], [], 0⟩ 32 dead [])) = some (.normal, [I i, I j, PP 0], [some ⟨62, (0, 0), 0, intsAt l 0 300⟩], []) := by kernel_rfl
theorem triU1 (dead : Nat → Value) (l : List At) (i j : Int) : projS [6] [0] (exec Tryz.prog KA0 Za 400 (.code (c2 (bodyF Tryz.prog 186))) (Kst.st ⟨[(1, I i), (2, I j), (3, PX 0)], [(0, ⟨62, (0, 0), 0, l⟩)], 1⟩ 32 dead [some true])) = some (Ex.ret, [I 1073741824], [some ⟨62, (0, 0), 0, l⟩], [(decide (i < 24), true), (decide (i ≥ 0), true), (decide (i ≥ 0), true), (decide (i ≥ 0), true), (i == j, true), (i == j, true), (i == j, true)]) := by kernel_rfl
theorem triU2 (dead : Nat → Value) (l : List At) (i j : Int) : projS [6] [0] (exec Tryz.prog KA0 Zl 400 (.code (c2 (bodyF Tryz.prog 186))) (Kst.st ⟨[(1, I i), (2, I j), (3, PX 0)], [(0, ⟨62, (0, 0), 0, l⟩)], 1⟩ 32 dead [some false, some false, some false])) = some (Ex.ret, [I (intAt l (0 + 0 + (plV i j).toNat * 1))], [some ⟨62, (0, 0), 0, l⟩], [(isIntAt IntKind.i64 l (0 + 0 + (plV i j).toNat * 1), true), (decide (0 ≤ plV i j) && decide (plV i j < 276), true), (decide (0 ≤ i), true), (decide (i < j), true), (decide (j < 24), true), (i == j, false), (i == j, false), (i == j, false)]) := by kernel_rfl
def triUS : List LV → Option (LV × List (Bool × Bool))
  | [.v (.agg l), .v (.one (.int .i64 i)), .v (.one (.int .i64 j))] => match allIB l 300 with
    | true => some (I (bif i == j then 1073741824 else intAt l (0 + 0 + (plV i j).toNat * 1)), [(decide (0 ≤ i), true), (decide (i ≤ j), true), (decide (j < 24), true)])
    | false => none
  | _ => none
theorem m1OK {l : List At} (hl : AllI l 300) : memOKb 1 [(0, ⟨62, (0, 0), 0, l⟩)] = true := memOKc (Nat.lt_of_sub_eq_succ rfl) (hl.okb _) rfl memOK0
theorem sumTriU : SumOK Tryz.prog 186 (pureSum triUS) := by
  refine pureSum_ok' fun args v cs hF hc hp hv w => ?_
  unfold triUS at hF
  split at hF
  · rename_i l i j
    split at hF
    · rename_i hl
      have hl := allIB_ok hl
      cases hF
      have h1 : 0 ≤ i := of_decide_eq_true (hd_of hc)
      have h2 : i ≤ j := of_decide_eq_true (hd_of (tl_of hc))
      have h3 : j < 24 := of_decide_eq_true (hd_of (tl_of (tl_of hc)))
      have hp0 := AllI.ints l 0 300
      have e0 : intAt l = intAt (intsAt l 0 300) := by rw [← hl.eq]
      have key : ∃ e, (e = Ex.ret) ∧ To Tryz.prog 32 (bodyF Tryz.prog 186) ⟨argsL 0 [.v (.agg (intsAt l 0 300)), I i, I j], [], 0⟩ e ⟨[6].zip [I (bif i == j then 1073741824 else intAt (intsAt l 0 300) (0 + 0 + (plV i j).toNat * 1))], [0].zip [⟨62, (0, 0), 0, intsAt l 0 300⟩], 1⟩ := by
        refine ⟨_, rfl, To.spine (z := Zl) soundKA0 (k := 1) (slots := [1, 2, 3]) (blks := [0]) (vs := [I i, I j, PP 0]) (bs := [⟨62, (0, 0), 0, intsAt l 0 300⟩]) (nbB := 1) (by kernel_rfl) (fun dead => triU0 dead l i j) ae_nil (kstOK_of rfl (m1OK hp0)) (Nat.zero_le _) ?_⟩
        refine To.pre (B := ⟨[(1, I i), (2, I j), (3, PX 0)], [(0, ⟨62, (0, 0), 0, intsAt l 0 300⟩)], 1⟩) ?_ (kstOK_of rfl (m1OK hp0)) (fun q hq => ?_) rfl rfl
        · rcases bool_cases (i == j) with he | he
          · rw [he]
            have hij : i = j := by simpa using he
            exact To.exec (z := Za) soundKA0 (slots := [6]) (blks := [0]) (vs := [I 1073741824]) (bs := [⟨62, (0, 0), 0, intsAt l 0 300⟩]) (nbB := 1) (fun dead => triU1 dead _ i j) (by
              have a1 : decide (i < 24) = true := decide_eq_true (by omega)
              have a2 : decide (i ≥ 0) = true := decide_eq_true h1
              exact ae_cons a1 (ae_cons a2 (ae_cons a2 (ae_cons a2 (ae_cons he (ae_cons he (ae_cons he ae_nil))))))) (kstOK_of rfl (m1OK hp0)) (Nat.le_refl _)
          · rw [he]
            have hij : i ≠ j := by simpa using he
            obtain ⟨b1, b2⟩ := plV_int h1 (show i < j by omega) h3
            exact To.exec (z := Zl) soundKA0 (slots := [6]) (blks := [0]) (vs := [I (intAt (intsAt l 0 300) (0 + 0 + (plV i j).toNat * 1))]) (bs := [⟨62, (0, 0), 0, intsAt l 0 300⟩]) (nbB := 1) (fun dead => triU2 dead _ i j) (by
              refine ae_cons (hp0.ats _ (by omega)) (ae_cons (by simp only [Bool.and_eq_true, decide_eq_true_eq]; omega) (ae_cons (decide_eq_true h1) (ae_cons (decide_eq_true (by omega)) (ae_cons (decide_eq_true h3) (ae_cons he (ae_cons he (ae_cons he ae_nil)))))))) (kstOK_of rfl (m1OK hp0)) (Nat.le_refl _)
        · simp only [List.zip_cons_cons, List.zip_nil_right, List.mem_cons, List.not_mem_nil, or_false] at hq
          rcases hq with rfl | rfl | rfl
          · exact ⟨I i, by simp, fun _ => rfl⟩
          · exact ⟨I j, by simp, fun _ => rfl⟩
          · exact ⟨PP 0, by simp, fun _ => rfl⟩
      obtain ⟨e, he, hT⟩ := key
      rw [e0]
      have := pure_of_To (own_of soundKA0 Tryz.func186 (by kernel_rfl)) Tryz.func186 (c := bodyF Tryz.prog 186) (by kernel_rfl) (Nat.le_of_ble_eq_true (by kernel_rfl)) (Nat.le_of_ble_eq_true (by kernel_rfl)) (plainVs_iff.2 fun u hu => by
        simp only [List.mem_cons, List.not_mem_nil, or_false] at hu
        rcases hu with rfl | rfl | rfl
        · exact hp0.ok
        · rfl
        · rfl) hT (.inr he) (v := I (bif i == j then 1073741824 else intAt (intsAt l 0 300) (0 + 0 + (plV i j).toNat * 1))) (fun dead => by kernel_rfl) rfl w
      have hle : ([LV.v (V1.agg l), LV.v (V1.one (At.int .i64 i)), LV.v (V1.one (At.int .i64 j))] : List LV) = [.v (.agg (intsAt l 0 300)), I i, I j] := by rw [← hl.eq]; rfl
      rw [hle]
      exact this
    · cases hF
  · cases hF
theorem triS0 (dead : Nat → Value) (l : List At) (i j v : Int) : projS [1, 2, 3, 4, 8] [0, 1] (execL Tryz.prog KA0 Zl 400 (spineL 1 (bodyF Tryz.prog 148)) (Kst.st ⟨argsL 0 [.v (.agg (intsAt l 0 300)), I i, I j, I v], [], 0⟩ 23 dead [])) = some (.normal, [I i, I j, I v, PP 0, PP 1], [some ⟨62, (0, 0), 0, intsAt l 0 300⟩, some ⟨62, (0, 0), 0, zc 62⟩], []) := by kernel_rfl
theorem triS1 (dead : Nat → Value) (l : List At) (i j v : Int) : projS [4, 8] [0, 1] (exec Tryz.prog KA0 Zl 400 (.code (c1 (c2 (bodyF Tryz.prog 148)))) (Kst.st ⟨[(1, I i), (2, I j), (3, I v), (4, PX 0), (8, PP 1)], [(0, ⟨62, (0, 0), 0, l⟩), (1, ⟨62, (0, 0), 0, zc 62⟩)], 2⟩ 23 dead [])) = some (Ex.normal, [PX 0, PP 1], [some ⟨62, (0, 0), 0, l.set (0 + 0 + (plV i j).toNat * 1) (.int .i64 v)⟩, some ⟨62, (0, 0), 0, zc 62⟩], [(decide (0 + 0 + (plV i j).toNat * 1 < l.length), true), (decide (0 ≤ plV i j) && decide (plV i j < 276), true), (decide (0 ≤ i), true), (decide (i < j), true), (decide (j < 24), true)]) := by kernel_rfl
theorem triS2 (dead : Nat → Value) (l : List At) : projS [8] [1] (exec Tryz.prog KA0 Zl 400 (.code (c2 (c2 (bodyF Tryz.prog 148)))) (Kst.st ⟨[(4, PX 0), (8, PP 1)], [(0, ⟨62, (0, 0), 0, l⟩), (1, ⟨62, (0, 0), 0, zc 62⟩)], 2⟩ 23 dead [])) = some (Ex.ret, [PP 1], [some ⟨62, (0, 0), 0, intsAt l 0 300⟩], [(areInts l 0 300 && decide (300 ≠ 0), true)]) := by kernel_rfl
def triSS : List LV → Option (LV × List (Bool × Bool))
  | [.v (.agg l), .v (.one (.int .i64 i)), .v (.one (.int .i64 j)), .v (.one (.int .i64 v))] => match allIB l 300 with
    | true => some (.v (.agg (intsAt (l.set (0 + 0 + (plV i j).toNat * 1) (.int .i64 v)) 0 300)), [(decide (0 ≤ i), true), (decide (i < j), true), (decide (j < 24), true)])
    | false => none
  | _ => none
theorem m2OK {l z : List At} (hl : AllI l 300) (hz : AllI z 300) : memOKb 2 [(0, ⟨62, (0, 0), 0, l⟩), (1, ⟨62, (0, 0), 0, z⟩)] = true := memOKc (Nat.lt_of_sub_eq_succ rfl) (hl.okb _) rfl (memOKc (Nat.lt_of_sub_eq_succ rfl) (hz.okb _) rfl memOK0)
theorem sumTriS : SumOK Tryz.prog 148 (pureSum triSS) := by
  refine pureSum_ok' fun args v cs hF hc hp hv w => ?_
  unfold triSS at hF
  split at hF
  · rename_i l i j x
    split at hF
    · rename_i hl
      have hl := allIB_ok hl
      cases hF
      have h1 : 0 ≤ i := of_decide_eq_true (hd_of hc)
      have h2 : i < j := of_decide_eq_true (hd_of (tl_of hc))
      have h3 : j < 24 := of_decide_eq_true (hd_of (tl_of (tl_of hc)))
      have hp0 := AllI.ints l 0 300
      have hp1 := hp0.set (0 + 0 + (plV i j).toNat * 1) x
      have e0 : l.set (0 + 0 + (plV i j).toNat * 1) (.int .i64 x) = (intsAt l 0 300).set (0 + 0 + (plV i j).toNat * 1) (.int .i64 x) := by rw [← hl.eq]
      obtain ⟨b1, b2⟩ := plV_int h1 h2 h3
      have hlen := hp0.len
      have hT : To Tryz.prog 23 (bodyF Tryz.prog 148) ⟨argsL 0 [.v (.agg (intsAt l 0 300)), I i, I j, I x], [], 0⟩ .ret ⟨[8].zip [PP 1], [1].zip [⟨62, (0, 0), 0, intsAt ((intsAt l 0 300).set (0 + 0 + (plV i j).toNat * 1) (.int .i64 x)) 0 300⟩], 2⟩ := by
        refine To.spine (z := Zl) soundKA0 (k := 1) (slots := [1, 2, 3, 4, 8]) (blks := [0, 1]) (vs := [I i, I j, I x, PP 0, PP 1]) (bs := [⟨62, (0, 0), 0, intsAt l 0 300⟩, ⟨62, (0, 0), 0, zc 62⟩]) (nbB := 2) (by kernel_rfl) (fun dead => triS0 dead l i j x) ae_nil (kstOK_of rfl (m2OK hp0 zcCov)) (Nat.zero_le _) ?_
        refine To.pre (B := ⟨[(1, I i), (2, I j), (3, I x), (4, PX 0), (8, PP 1)], [(0, ⟨62, (0, 0), 0, intsAt l 0 300⟩), (1, ⟨62, (0, 0), 0, zc 62⟩)], 2⟩) ?_ (kstOK_of rfl (m2OK hp0 zcCov)) (fun q hq => ?_) rfl rfl
        · refine To.seq (by kernel_rfl) (To.exec (z := Zl) soundKA0 (slots := [4, 8]) (blks := [0, 1]) (vs := [PX 0, PP 1]) (bs := [⟨62, (0, 0), 0, (intsAt l 0 300).set (0 + 0 + (plV i j).toNat * 1) (.int .i64 x)⟩, ⟨62, (0, 0), 0, zc 62⟩]) (nbB := 2) (fun dead => triS1 dead _ i j x) (by
            refine ae_cons (decide_eq_true (by omega)) (ae_cons (by simp only [Bool.and_eq_true, decide_eq_true_eq]; omega) (ae_cons (decide_eq_true h1) (ae_cons (decide_eq_true h2) (ae_cons (decide_eq_true h3) ae_nil))))) (kstOK_of rfl (m2OK hp1 zcCov)) (Nat.le_refl _)) ?_
          exact To.exec (z := Zl) soundKA0 (slots := [8]) (blks := [1]) (vs := [PP 1]) (bs := [⟨62, (0, 0), 0, intsAt ((intsAt l 0 300).set (0 + 0 + (plV i j).toNat * 1) (.int .i64 x)) 0 300⟩]) (nbB := 2) (fun dead => triS2 dead _) (ae_cons (by rw [hp1.areI 300 0 (Nat.le_refl _)]; rfl) ae_nil) (kstOK_of rfl (memOKc (Nat.lt_of_sub_eq_succ rfl) ((AllI.ints _ 0 300).okb _) rfl memOK0)) (Nat.le_refl _)
        · simp only [List.zip_cons_cons, List.zip_nil_right, List.mem_cons, List.not_mem_nil, or_false] at hq
          rcases hq with rfl | rfl | rfl | rfl | rfl
          · exact ⟨I i, by simp, fun _ => rfl⟩
          · exact ⟨I j, by simp, fun _ => rfl⟩
          · exact ⟨I x, by simp, fun _ => rfl⟩
          · exact ⟨PP 0, by simp, fun _ => rfl⟩
          · exact ⟨PP 1, by simp, fun _ => rfl⟩
      rw [e0]
      generalize (intsAt l 0 300).set (0 + 0 + (plV i j).toNat * 1) (At.int .i64 x) = L at hT hp1 ⊢
      have := pure_of_To (own_of soundKA0 Tryz.func148 (by kernel_rfl)) Tryz.func148 (c := bodyF Tryz.prog 148) (by kernel_rfl) (Nat.le_of_ble_eq_true (by kernel_rfl)) (Nat.le_of_ble_eq_true (by kernel_rfl)) (plainVs_iff.2 fun u hu => by
        simp only [List.mem_cons, List.not_mem_nil, or_false] at hu
        rcases hu with rfl | rfl | rfl | rfl
        · exact hp0.ok
        · rfl
        · rfl
        · rfl) hT (.inr rfl) (v := .v (.agg (intsAt L 0 300))) (fun dead => by kernel_rfl) (AllI.ints L 0 300).ok w
      have hle : ([LV.v (V1.agg l), LV.v (V1.one (At.int .i64 i)), LV.v (V1.one (At.int .i64 j)), LV.v (V1.one (At.int .i64 x))] : List LV) = [.v (.agg (intsAt l 0 300)), I i, I j, I x] := by rw [← hl.eq]; rfl
      rw [hle]
      exact this
    · cases hF
  · cases hF
noncomputable def KA1 : FuncId → Option SumK := more (more KA0 186 (pureSum triUS)) 148 (pureSum triSS)
theorem soundKA1 : Sound Tryz.prog KA1 := (soundKA0.more sumTriU).more sumTriS
end Go.Proofs.YthbkhoknlbomgaaGreat

/- thornton.rows: the rounds of its loops. -/
namespace Go.Proofs.YthbkhoknlbomgaaGreat
open Go.Lr
set_option linter.unusedVariables false
set_option linter.unusedSimpArgs false
set_option maxRecDepth 20000
theorem rwMR (dead : Nat → Value) (h : Bool) (f p w y : List At) (k m : Nat) : projS [0, 2, 4, 7, 8, 9, 13, 17, 18] [0, 2, 6, 7, 8] (exec Tryz.prog KA1 Zl 400 (.code (c1 (c1 (c2 (c1 (c2 (c2 (c1 (c1 (c2 (c2 (c1 (c1 (c2 (c1 (c2 (c2 (bodyF Tryz.prog 147)))))))))))))))))) (Kst.st ⟨[(0, A0), (2, PX 2), (4, PX 6), (7, PX 7), (8, IK k), (9, PX 8), (13, IK k), (17, IK (k + 1)), (18, IK m)], [(0, flag 58 h), (2, ⟨190, (0, 0), 0, f⟩), (6, ⟨62, (0, 0), 0, p⟩), (7, ⟨315, (0, 0), 0, w⟩), (8, ⟨29, (0, 0), 0, y⟩)], 9⟩ 54 dead [some true])) = some (Ex.normal, [LV.v (V1.one (At.ptr 0 0)), LV.v (V1.one (At.ptx 2 0)), LV.v (V1.one (At.ptx 6 0)), LV.v (V1.one (At.ptx 7 0)), LV.v (V1.one (At.int IntKind.i64 (k : Int))), LV.v (V1.one (At.ptx 8 0)), LV.v (V1.one (At.int IntKind.i64 (k : Int))), LV.v (V1.one (At.int IntKind.i64 ((k + 1 : Nat) : Int))), LV.v (V1.one (At.int IntKind.i64 (wr IntKind.i64 ((m : Int) + 1))))], [some { ty := 58, fr := (0, 0), es := 0, cells := [At.bool h] }, some { ty := 190, fr := (0, 0), es := 0, cells := f }, some { ty := 62, fr := (0, 0), es := 0, cells := p }, some { ty := 315, fr := (0, 0), es := 0, cells := w }, some { ty := 29, fr := (0, 0), es := 0, cells := (List.set y) (0 + (m : Int).toNat * 1) (At.int IntKind.i64 (bif (m : Int) == (k : Int) then 1073741824 else intAt (intsAt p 0 300) (0 + 0 + (plV (m : Int) (k : Int)).toNat * 1))) }], [(decide (0 + (m : Int).toNat * 1 < y.length), true), (decide (0 ≤ (m : Int)) && decide ((m : Int) < 24), true), (decide (0 ≤ (m : Int)), true), (decide ((m : Int) ≤ (k : Int)), true), (decide ((k : Int) < 24), true), (areInts p 0 300 && true, true), (decide ((m : Int) < ((k + 1 : Nat) : Int)), true)]) := by kernel_rfl
theorem rwM (h : Bool) (f p w y : List At) (k m : Nat) (hf : AllI f 576) (hp : AllI p 300) (hw : AllI w 1152) (hy : AllI y 24) (hk : k < 24) (hm : m < k + 1) : ∃  (h' : Bool) (f' p' w' y' : List At), AllI f' 576 ∧ AllI p' 300 ∧ AllI w' 1152 ∧ AllI y' 24 ∧ To Tryz.prog 54 (c1 (c1 (c2 (c1 (c2 (c2 (c1 (c1 (c2 (c2 (c1 (c1 (c2 (c1 (c2 (c2 (bodyF Tryz.prog 147))))))))))))))))) ⟨[(0, A0), (2, PX 2), (4, PX 6), (7, PX 7), (8, IK k), (9, PX 8), (13, IK k), (17, IK (k + 1)), (18, IK m)], [(0, flag 58 h), (2, ⟨190, (0, 0), 0, f⟩), (6, ⟨62, (0, 0), 0, p⟩), (7, ⟨315, (0, 0), 0, w⟩), (8, ⟨29, (0, 0), 0, y⟩)], 9⟩ .normal ⟨[(0, A0), (2, PX 2), (4, PX 6), (7, PX 7), (8, IK k), (9, PX 8), (13, IK k), (17, IK (k + 1)), (18, IK (m + 1))], [(0, flag 58 h'), (2, ⟨190, (0, 0), 0, f'⟩), (6, ⟨62, (0, 0), 0, p'⟩), (7, ⟨315, (0, 0), 0, w'⟩), (8, ⟨29, (0, 0), 0, y'⟩)], 9⟩ := by
  refine ⟨(h), (f), (p), (w), ((List.set y) (0 + (m : Int).toNat * 1) (At.int IntKind.i64 (bif (m : Int) == (k : Int) then 1073741824 else intAt (intsAt p 0 300) (0 + 0 + (plV (m : Int) (k : Int)).toNat * 1)))), (by repeat' first | assumption | apply AllI.set | exact AllI.ints _ _ _ | exact AllI.mkF _ _ _ | exact zc24I | exact zc48I | exact zcWI | exact zcCov), (by repeat' first | assumption | apply AllI.set | exact AllI.ints _ _ _ | exact AllI.mkF _ _ _ | exact zc24I | exact zc48I | exact zcWI | exact zcCov), (by repeat' first | assumption | apply AllI.set | exact AllI.ints _ _ _ | exact AllI.mkF _ _ _ | exact zc24I | exact zc48I | exact zcWI | exact zcCov), (by repeat' first | assumption | apply AllI.set | exact AllI.ints _ _ _ | exact AllI.mkF _ _ _ | exact zc24I | exact zc48I | exact zcWI | exact zcCov), To.run (z := Zl) soundKA1 (slots := [0, 2, 4, 7, 8, 9, 13, 17, 18]) (blks := [0, 2, 6, 7, 8]) (vs := [A0, PX 2, PX 6, PX 7, IK k, PX 8, IK k, IK (k + 1), IK (m + 1)]) (bs := [flag 58 (h), ⟨190, (0, 0), 0, f⟩, ⟨62, (0, 0), 0, p⟩, ⟨315, (0, 0), 0, w⟩, ⟨29, (0, 0), 0, (List.set y) (0 + (m : Int).toNat * 1) (At.int IntKind.i64 (bif (m : Int) == (k : Int) then 1073741824 else intAt (intsAt p 0 300) (0 + 0 + (plV (m : Int) (k : Int)).toNat * 1)))⟩]) (nbB := 9) (fun dead => rwMR dead h f p w y k m) rfl (by rw [wk m (by omega)]; rfl) rfl ?_ (kstOK_of rfl (memOKc (Nat.lt_of_sub_eq_succ rfl) rfl rfl (memOKc (Nat.lt_of_sub_eq_succ rfl) (AllI.okb (n := 576) (by repeat' first | assumption | apply AllI.set | exact AllI.ints _ _ _ | exact AllI.mkF _ _ _ | exact zc24I | exact zc48I | exact zcWI | exact zcCov) _) rfl (memOKc (Nat.lt_of_sub_eq_succ rfl) (AllI.okb (n := 300) (by repeat' first | assumption | apply AllI.set | exact AllI.ints _ _ _ | exact AllI.mkF _ _ _ | exact zc24I | exact zc48I | exact zcWI | exact zcCov) _) rfl (memOKc (Nat.lt_of_sub_eq_succ rfl) (AllI.okb (n := 1152) (by repeat' first | assumption | apply AllI.set | exact AllI.ints _ _ _ | exact AllI.mkF _ _ _ | exact zc24I | exact zc48I | exact zcWI | exact zcCov) _) rfl (memOKc (Nat.lt_of_sub_eq_succ rfl) (AllI.okb (n := 24) (by repeat' first | assumption | apply AllI.set | exact AllI.ints _ _ _ | exact AllI.mkF _ _ _ | exact zc24I | exact zc48I | exact zcWI | exact zcCov) _) rfl memOK0)))))) (Nat.le_refl _)⟩
  have lnf := hf.len
  have lnp := hp.len
  have lnw := hw.len
  have lny := hy.len
  repeat' first | exact ae_nil | apply ae_cons
  all_goals first
    | (with_reducible refine decide_eq_true ?_; (try simp only [Int.toNat_natCast, List.length_set]); omega)
    | (with_reducible refine decide_eq_false ?_; omega)
    | (with_reducible refine AllI.ats (by assumption) _ ?_; simp only [Int.toNat_natCast]; omega)
    | (rw [hf.areI 576 0 (Nat.le_refl _)]; rfl)
    | (rw [hp.areI 300 0 (Nat.le_refl _)]; rfl)
    | (rw [hw.areI 1152 0 (Nat.le_refl _)]; rfl)
    | (rw [hy.areI 24 0 (Nat.le_refl _)]; rfl)
    | (simp only [Bool.and_eq_true, hf.part, hf.ok, hp.part, hp.ok, hw.part, hw.ok, hy.part, hy.ok, decide_eq_true_eq, true_and, and_true]; omega)
theorem rwMeR (dead : Nat → Value) (h : Bool) (f p w y : List At) (k : Nat) : projS [0, 2, 4, 7, 8, 9, 13] [0, 2, 6, 7, 8] (exec Tryz.prog KA1 Zl 400 (.code (c1 (c1 (c2 (c1 (c2 (c2 (c1 (c1 (c2 (c2 (c1 (c1 (c2 (c1 (c2 (c2 (bodyF Tryz.prog 147)))))))))))))))))) (Kst.st ⟨[(0, A0), (2, PX 2), (4, PX 6), (7, PX 7), (8, IK k), (9, PX 8), (13, IK k), (17, IK (k + 1)), (18, IK (k + 1))], [(0, flag 58 h), (2, ⟨190, (0, 0), 0, f⟩), (6, ⟨62, (0, 0), 0, p⟩), (7, ⟨315, (0, 0), 0, w⟩), (8, ⟨29, (0, 0), 0, y⟩)], 9⟩ 54 dead [some false])) = some (Ex.exit 2, [LV.v (V1.one (At.ptr 0 0)), LV.v (V1.one (At.ptx 2 0)), LV.v (V1.one (At.ptx 6 0)), LV.v (V1.one (At.ptx 7 0)), LV.v (V1.one (At.int IntKind.i64 (k : Int))), LV.v (V1.one (At.ptx 8 0)), LV.v (V1.one (At.int IntKind.i64 (k : Int)))], [some { ty := 58, fr := (0, 0), es := 0, cells := [At.bool h] }, some { ty := 190, fr := (0, 0), es := 0, cells := f }, some { ty := 62, fr := (0, 0), es := 0, cells := p }, some { ty := 315, fr := (0, 0), es := 0, cells := w }, some { ty := 29, fr := (0, 0), es := 0, cells := y }], [(decide (((k + 1 : Nat) : Int) < ((k + 1 : Nat) : Int)), false)]) := by kernel_rfl
theorem rwMe (h : Bool) (f p w y : List At) (k : Nat) (hf : AllI f 576) (hp : AllI p 300) (hw : AllI w 1152) (hy : AllI y 24) : ∃  (h' : Bool) (f' p' w' y' : List At), AllI f' 576 ∧ AllI p' 300 ∧ AllI w' 1152 ∧ AllI y' 24 ∧ To Tryz.prog 54 (c1 (c1 (c2 (c1 (c2 (c2 (c1 (c1 (c2 (c2 (c1 (c1 (c2 (c1 (c2 (c2 (bodyF Tryz.prog 147))))))))))))))))) ⟨[(0, A0), (2, PX 2), (4, PX 6), (7, PX 7), (8, IK k), (9, PX 8), (13, IK k), (17, IK (k + 1)), (18, IK (k + 1))], [(0, flag 58 h), (2, ⟨190, (0, 0), 0, f⟩), (6, ⟨62, (0, 0), 0, p⟩), (7, ⟨315, (0, 0), 0, w⟩), (8, ⟨29, (0, 0), 0, y⟩)], 9⟩ (.exit 2) ⟨[(0, A0), (2, PX 2), (4, PX 6), (7, PX 7), (8, IK k), (9, PX 8), (13, IK k)], [(0, flag 58 h'), (2, ⟨190, (0, 0), 0, f'⟩), (6, ⟨62, (0, 0), 0, p'⟩), (7, ⟨315, (0, 0), 0, w'⟩), (8, ⟨29, (0, 0), 0, y'⟩)], 9⟩ := by
  refine ⟨(h), (f), (p), (w), (y), (by repeat' first | assumption | apply AllI.set | exact AllI.ints _ _ _ | exact AllI.mkF _ _ _ | exact zc24I | exact zc48I | exact zcWI | exact zcCov), (by repeat' first | assumption | apply AllI.set | exact AllI.ints _ _ _ | exact AllI.mkF _ _ _ | exact zc24I | exact zc48I | exact zcWI | exact zcCov), (by repeat' first | assumption | apply AllI.set | exact AllI.ints _ _ _ | exact AllI.mkF _ _ _ | exact zc24I | exact zc48I | exact zcWI | exact zcCov), (by repeat' first | assumption | apply AllI.set | exact AllI.ints _ _ _ | exact AllI.mkF _ _ _ | exact zc24I | exact zc48I | exact zcWI | exact zcCov), To.run (z := Zl) soundKA1 (slots := [0, 2, 4, 7, 8, 9, 13]) (blks := [0, 2, 6, 7, 8]) (vs := [A0, PX 2, PX 6, PX 7, IK k, PX 8, IK k]) (bs := [flag 58 (h), ⟨190, (0, 0), 0, f⟩, ⟨62, (0, 0), 0, p⟩, ⟨315, (0, 0), 0, w⟩, ⟨29, (0, 0), 0, y⟩]) (nbB := 9) (fun dead => rwMeR dead h f p w y k) rfl rfl rfl ?_ (kstOK_of rfl (memOKc (Nat.lt_of_sub_eq_succ rfl) rfl rfl (memOKc (Nat.lt_of_sub_eq_succ rfl) (AllI.okb (n := 576) (by repeat' first | assumption | apply AllI.set | exact AllI.ints _ _ _ | exact AllI.mkF _ _ _ | exact zc24I | exact zc48I | exact zcWI | exact zcCov) _) rfl (memOKc (Nat.lt_of_sub_eq_succ rfl) (AllI.okb (n := 300) (by repeat' first | assumption | apply AllI.set | exact AllI.ints _ _ _ | exact AllI.mkF _ _ _ | exact zc24I | exact zc48I | exact zcWI | exact zcCov) _) rfl (memOKc (Nat.lt_of_sub_eq_succ rfl) (AllI.okb (n := 1152) (by repeat' first | assumption | apply AllI.set | exact AllI.ints _ _ _ | exact AllI.mkF _ _ _ | exact zc24I | exact zc48I | exact zcWI | exact zcCov) _) rfl (memOKc (Nat.lt_of_sub_eq_succ rfl) (AllI.okb (n := 24) (by repeat' first | assumption | apply AllI.set | exact AllI.ints _ _ _ | exact AllI.mkF _ _ _ | exact zc24I | exact zc48I | exact zcWI | exact zcCov) _) rfl memOK0)))))) (Nat.le_refl _)⟩
  have lnf := hf.len
  have lnp := hp.len
  have lnw := hw.len
  have lny := hy.len
  repeat' first | exact ae_nil | apply ae_cons
  all_goals first
    | (with_reducible refine decide_eq_true ?_; (try simp only [Int.toNat_natCast, List.length_set]); omega)
    | (with_reducible refine decide_eq_false ?_; omega)
    | (with_reducible refine AllI.ats (by assumption) _ ?_; simp only [Int.toNat_natCast]; omega)
    | (rw [hf.areI 576 0 (Nat.le_refl _)]; rfl)
    | (rw [hp.areI 300 0 (Nat.le_refl _)]; rfl)
    | (rw [hw.areI 1152 0 (Nat.le_refl _)]; rfl)
    | (rw [hy.areI 24 0 (Nat.le_refl _)]; rfl)
    | (simp only [Bool.and_eq_true, hf.part, hf.ok, hp.part, hp.ok, hw.part, hw.ok, hy.part, hy.ok, decide_eq_true_eq, true_and, and_true]; omega)
theorem rwIR (dead : Nat → Value) (h : Bool) (f p w y : List At) (k i : Nat) : projS [0, 2, 4, 7, 8, 9, 13, 28] [0, 2, 6, 7, 8] (exec Tryz.prog KA1 Zl 400 (.code (c1 (c1 (c2 (c2 (c2 (c2 (c1 (c1 (c2 (c2 (c1 (c1 (c2 (c1 (c2 (c2 (bodyF Tryz.prog 147)))))))))))))))))) (Kst.st ⟨[(0, A0), (2, PX 2), (4, PX 6), (7, PX 7), (8, IK k), (9, PX 8), (13, IK k), (28, IK i)], [(0, flag 58 h), (2, ⟨190, (0, 0), 0, f⟩), (6, ⟨62, (0, 0), 0, p⟩), (7, ⟨315, (0, 0), 0, w⟩), (8, ⟨29, (0, 0), 0, y⟩)], 9⟩ 54 dead [some true])) = some (Ex.normal, [LV.v (V1.one (At.ptr 0 0)), LV.v (V1.one (At.ptx 2 0)), LV.v (V1.one (At.ptx 6 0)), LV.v (V1.one (At.ptx 7 0)), LV.v (V1.one (At.int IntKind.i64 (k : Int))), LV.v (V1.one (At.ptx 8 0)), LV.v (V1.one (At.int IntKind.i64 (k : Int))), LV.v (V1.one (At.int IntKind.i64 (wr IntKind.i64 ((i : Int) + 1))))], [some { ty := 58, fr := (0, 0), es := 0, cells := [At.bool (h || dotH 30 (intL (List.take ((24 - 0) * 1) (List.drop (0 + (i : Int).toNat * 24 + 0 * 1) f))) (intL (List.take ((24 - 0) * 1) (List.drop (0 + 0 * 1) y))))] }, some { ty := 190, fr := (0, 0), es := 0, cells := f }, some { ty := 62, fr := (0, 0), es := 0, cells := p }, some { ty := 315, fr := (0, 0), es := 0, cells := (List.set w) (0 + (i : Int).toNat * 48 + (k : Int).toNat * 1) (At.int IntKind.i64 (dotV 30 (intL (List.take ((24 - 0) * 1) (List.drop (0 + (i : Int).toNat * 24 + 0 * 1) f))) (intL (List.take ((24 - 0) * 1) (List.drop (0 + 0 * 1) y))))) }, some { ty := 29, fr := (0, 0), es := 0, cells := y }], [(decide (0 + (i : Int).toNat * 48 + (k : Int).toNat * 1 < w.length), true), (decide (0 ≤ (k : Int)) && decide ((k : Int) < 48), true), (decide (0 ≤ (i : Int)) && decide ((i : Int) < 24), true), (isIntL (List.take ((24 - 0) * 1) (List.drop (0 + (i : Int).toNat * 24 + 0 * 1) f)) && (okL noP f && (decide (0 + (i : Int).toNat * 24 + 0 * 1 + (24 - 0) * 1 ≤ f.length) && true)), true), (isIntL (List.take ((24 - 0) * 1) (List.drop (0 + 0 * 1) y)) && (okL noP y && (decide (0 + 0 * 1 + (24 - 0) * 1 ≤ y.length) && true)), true), (decide (0 ≤ (i : Int)) && decide ((i : Int) < 24), true), (decide ((i : Int) < 24), true)]) := by kernel_rfl
theorem rwI (h : Bool) (f p w y : List At) (k i : Nat) (hf : AllI f 576) (hp : AllI p 300) (hw : AllI w 1152) (hy : AllI y 24) (hk : k < 24) (hi : i < 24) : ∃  (h' : Bool) (f' p' w' y' : List At), AllI f' 576 ∧ AllI p' 300 ∧ AllI w' 1152 ∧ AllI y' 24 ∧ To Tryz.prog 54 (c1 (c1 (c2 (c2 (c2 (c2 (c1 (c1 (c2 (c2 (c1 (c1 (c2 (c1 (c2 (c2 (bodyF Tryz.prog 147))))))))))))))))) ⟨[(0, A0), (2, PX 2), (4, PX 6), (7, PX 7), (8, IK k), (9, PX 8), (13, IK k), (28, IK i)], [(0, flag 58 h), (2, ⟨190, (0, 0), 0, f⟩), (6, ⟨62, (0, 0), 0, p⟩), (7, ⟨315, (0, 0), 0, w⟩), (8, ⟨29, (0, 0), 0, y⟩)], 9⟩ .normal ⟨[(0, A0), (2, PX 2), (4, PX 6), (7, PX 7), (8, IK k), (9, PX 8), (13, IK k), (28, IK (i + 1))], [(0, flag 58 h'), (2, ⟨190, (0, 0), 0, f'⟩), (6, ⟨62, (0, 0), 0, p'⟩), (7, ⟨315, (0, 0), 0, w'⟩), (8, ⟨29, (0, 0), 0, y'⟩)], 9⟩ := by
  refine ⟨((h || dotH 30 (intL (List.take ((24 - 0) * 1) (List.drop (0 + (i : Int).toNat * 24 + 0 * 1) f))) (intL (List.take ((24 - 0) * 1) (List.drop (0 + 0 * 1) y))))), (f), (p), ((List.set w) (0 + (i : Int).toNat * 48 + (k : Int).toNat * 1) (At.int IntKind.i64 (dotV 30 (intL (List.take ((24 - 0) * 1) (List.drop (0 + (i : Int).toNat * 24 + 0 * 1) f))) (intL (List.take ((24 - 0) * 1) (List.drop (0 + 0 * 1) y)))))), (y), (by repeat' first | assumption | apply AllI.set | exact AllI.ints _ _ _ | exact AllI.mkF _ _ _ | exact zc24I | exact zc48I | exact zcWI | exact zcCov), (by repeat' first | assumption | apply AllI.set | exact AllI.ints _ _ _ | exact AllI.mkF _ _ _ | exact zc24I | exact zc48I | exact zcWI | exact zcCov), (by repeat' first | assumption | apply AllI.set | exact AllI.ints _ _ _ | exact AllI.mkF _ _ _ | exact zc24I | exact zc48I | exact zcWI | exact zcCov), (by repeat' first | assumption | apply AllI.set | exact AllI.ints _ _ _ | exact AllI.mkF _ _ _ | exact zc24I | exact zc48I | exact zcWI | exact zcCov), To.run (z := Zl) soundKA1 (slots := [0, 2, 4, 7, 8, 9, 13, 28]) (blks := [0, 2, 6, 7, 8]) (vs := [A0, PX 2, PX 6, PX 7, IK k, PX 8, IK k, IK (i + 1)]) (bs := [flag 58 ((h || dotH 30 (intL (List.take ((24 - 0) * 1) (List.drop (0 + (i : Int).toNat * 24 + 0 * 1) f))) (intL (List.take ((24 - 0) * 1) (List.drop (0 + 0 * 1) y))))), ⟨190, (0, 0), 0, f⟩, ⟨62, (0, 0), 0, p⟩, ⟨315, (0, 0), 0, (List.set w) (0 + (i : Int).toNat * 48 + (k : Int).toNat * 1) (At.int IntKind.i64 (dotV 30 (intL (List.take ((24 - 0) * 1) (List.drop (0 + (i : Int).toNat * 24 + 0 * 1) f))) (intL (List.take ((24 - 0) * 1) (List.drop (0 + 0 * 1) y)))))⟩, ⟨29, (0, 0), 0, y⟩]) (nbB := 9) (fun dead => rwIR dead h f p w y k i) rfl (by rw [wk i (by omega)]; rfl) rfl ?_ (kstOK_of rfl (memOKc (Nat.lt_of_sub_eq_succ rfl) rfl rfl (memOKc (Nat.lt_of_sub_eq_succ rfl) (AllI.okb (n := 576) (by repeat' first | assumption | apply AllI.set | exact AllI.ints _ _ _ | exact AllI.mkF _ _ _ | exact zc24I | exact zc48I | exact zcWI | exact zcCov) _) rfl (memOKc (Nat.lt_of_sub_eq_succ rfl) (AllI.okb (n := 300) (by repeat' first | assumption | apply AllI.set | exact AllI.ints _ _ _ | exact AllI.mkF _ _ _ | exact zc24I | exact zc48I | exact zcWI | exact zcCov) _) rfl (memOKc (Nat.lt_of_sub_eq_succ rfl) (AllI.okb (n := 1152) (by repeat' first | assumption | apply AllI.set | exact AllI.ints _ _ _ | exact AllI.mkF _ _ _ | exact zc24I | exact zc48I | exact zcWI | exact zcCov) _) rfl (memOKc (Nat.lt_of_sub_eq_succ rfl) (AllI.okb (n := 24) (by repeat' first | assumption | apply AllI.set | exact AllI.ints _ _ _ | exact AllI.mkF _ _ _ | exact zc24I | exact zc48I | exact zcWI | exact zcCov) _) rfl memOK0)))))) (Nat.le_refl _)⟩
  have lnf := hf.len
  have lnp := hp.len
  have lnw := hw.len
  have lny := hy.len
  repeat' first | exact ae_nil | apply ae_cons
  all_goals first
    | (with_reducible refine decide_eq_true ?_; (try simp only [Int.toNat_natCast, List.length_set]); omega)
    | (with_reducible refine decide_eq_false ?_; omega)
    | (with_reducible refine AllI.ats (by assumption) _ ?_; simp only [Int.toNat_natCast]; omega)
    | (rw [hf.areI 576 0 (Nat.le_refl _)]; rfl)
    | (rw [hp.areI 300 0 (Nat.le_refl _)]; rfl)
    | (rw [hw.areI 1152 0 (Nat.le_refl _)]; rfl)
    | (rw [hy.areI 24 0 (Nat.le_refl _)]; rfl)
    | (simp only [Bool.and_eq_true, hf.part, hf.ok, hp.part, hp.ok, hw.part, hw.ok, hy.part, hy.ok, decide_eq_true_eq, true_and, and_true]; omega)
theorem rwIeR (dead : Nat → Value) (h : Bool) (f p w y : List At) (k : Nat) : projS [0, 2, 4, 7, 8, 9, 13] [0, 2, 6, 7, 8] (exec Tryz.prog KA1 Zl 400 (.code (c1 (c1 (c2 (c2 (c2 (c2 (c1 (c1 (c2 (c2 (c1 (c1 (c2 (c1 (c2 (c2 (bodyF Tryz.prog 147)))))))))))))))))) (Kst.st ⟨[(0, A0), (2, PX 2), (4, PX 6), (7, PX 7), (8, IK k), (9, PX 8), (13, IK k), (28, IK 24)], [(0, flag 58 h), (2, ⟨190, (0, 0), 0, f⟩), (6, ⟨62, (0, 0), 0, p⟩), (7, ⟨315, (0, 0), 0, w⟩), (8, ⟨29, (0, 0), 0, y⟩)], 9⟩ 54 dead [])) = some (Ex.exit 4, [LV.v (V1.one (At.ptr 0 0)), LV.v (V1.one (At.ptx 2 0)), LV.v (V1.one (At.ptx 6 0)), LV.v (V1.one (At.ptx 7 0)), LV.v (V1.one (At.int IntKind.i64 (k : Int))), LV.v (V1.one (At.ptx 8 0)), LV.v (V1.one (At.int IntKind.i64 (k : Int)))], [some { ty := 58, fr := (0, 0), es := 0, cells := [At.bool h] }, some { ty := 190, fr := (0, 0), es := 0, cells := f }, some { ty := 62, fr := (0, 0), es := 0, cells := p }, some { ty := 315, fr := (0, 0), es := 0, cells := w }, some { ty := 29, fr := (0, 0), es := 0, cells := y }], []) := by kernel_rfl
theorem rwIe (h : Bool) (f p w y : List At) (k : Nat) (hf : AllI f 576) (hp : AllI p 300) (hw : AllI w 1152) (hy : AllI y 24) : ∃  (h' : Bool) (f' p' w' y' : List At), AllI f' 576 ∧ AllI p' 300 ∧ AllI w' 1152 ∧ AllI y' 24 ∧ To Tryz.prog 54 (c1 (c1 (c2 (c2 (c2 (c2 (c1 (c1 (c2 (c2 (c1 (c1 (c2 (c1 (c2 (c2 (bodyF Tryz.prog 147))))))))))))))))) ⟨[(0, A0), (2, PX 2), (4, PX 6), (7, PX 7), (8, IK k), (9, PX 8), (13, IK k), (28, IK 24)], [(0, flag 58 h), (2, ⟨190, (0, 0), 0, f⟩), (6, ⟨62, (0, 0), 0, p⟩), (7, ⟨315, (0, 0), 0, w⟩), (8, ⟨29, (0, 0), 0, y⟩)], 9⟩ (.exit 4) ⟨[(0, A0), (2, PX 2), (4, PX 6), (7, PX 7), (8, IK k), (9, PX 8), (13, IK k)], [(0, flag 58 h'), (2, ⟨190, (0, 0), 0, f'⟩), (6, ⟨62, (0, 0), 0, p'⟩), (7, ⟨315, (0, 0), 0, w'⟩), (8, ⟨29, (0, 0), 0, y'⟩)], 9⟩ := by
  refine ⟨(h), (f), (p), (w), (y), (by repeat' first | assumption | apply AllI.set | exact AllI.ints _ _ _ | exact AllI.mkF _ _ _ | exact zc24I | exact zc48I | exact zcWI | exact zcCov), (by repeat' first | assumption | apply AllI.set | exact AllI.ints _ _ _ | exact AllI.mkF _ _ _ | exact zc24I | exact zc48I | exact zcWI | exact zcCov), (by repeat' first | assumption | apply AllI.set | exact AllI.ints _ _ _ | exact AllI.mkF _ _ _ | exact zc24I | exact zc48I | exact zcWI | exact zcCov), (by repeat' first | assumption | apply AllI.set | exact AllI.ints _ _ _ | exact AllI.mkF _ _ _ | exact zc24I | exact zc48I | exact zcWI | exact zcCov), To.run (z := Zl) soundKA1 (slots := [0, 2, 4, 7, 8, 9, 13]) (blks := [0, 2, 6, 7, 8]) (vs := [A0, PX 2, PX 6, PX 7, IK k, PX 8, IK k]) (bs := [flag 58 (h), ⟨190, (0, 0), 0, f⟩, ⟨62, (0, 0), 0, p⟩, ⟨315, (0, 0), 0, w⟩, ⟨29, (0, 0), 0, y⟩]) (nbB := 9) (fun dead => rwIeR dead h f p w y k) rfl rfl rfl ?_ (kstOK_of rfl (memOKc (Nat.lt_of_sub_eq_succ rfl) rfl rfl (memOKc (Nat.lt_of_sub_eq_succ rfl) (AllI.okb (n := 576) (by repeat' first | assumption | apply AllI.set | exact AllI.ints _ _ _ | exact AllI.mkF _ _ _ | exact zc24I | exact zc48I | exact zcWI | exact zcCov) _) rfl (memOKc (Nat.lt_of_sub_eq_succ rfl) (AllI.okb (n := 300) (by repeat' first | assumption | apply AllI.set | exact AllI.ints _ _ _ | exact AllI.mkF _ _ _ | exact zc24I | exact zc48I | exact zcWI | exact zcCov) _) rfl (memOKc (Nat.lt_of_sub_eq_succ rfl) (AllI.okb (n := 1152) (by repeat' first | assumption | apply AllI.set | exact AllI.ints _ _ _ | exact AllI.mkF _ _ _ | exact zc24I | exact zc48I | exact zcWI | exact zcCov) _) rfl (memOKc (Nat.lt_of_sub_eq_succ rfl) (AllI.okb (n := 24) (by repeat' first | assumption | apply AllI.set | exact AllI.ints _ _ _ | exact AllI.mkF _ _ _ | exact zc24I | exact zc48I | exact zcWI | exact zcCov) _) rfl memOK0)))))) (Nat.le_refl _)⟩
  have lnf := hf.len
  have lnp := hp.len
  have lnw := hw.len
  have lny := hy.len
  repeat' first | exact ae_nil | apply ae_cons
  all_goals first
    | (with_reducible refine decide_eq_true ?_; (try simp only [Int.toNat_natCast, List.length_set]); omega)
    | (with_reducible refine decide_eq_false ?_; omega)
    | (with_reducible refine AllI.ats (by assumption) _ ?_; simp only [Int.toNat_natCast]; omega)
    | (rw [hf.areI 576 0 (Nat.le_refl _)]; rfl)
    | (rw [hp.areI 300 0 (Nat.le_refl _)]; rfl)
    | (rw [hw.areI 1152 0 (Nat.le_refl _)]; rfl)
    | (rw [hy.areI 24 0 (Nat.le_refl _)]; rfl)
    | (simp only [Bool.and_eq_true, hf.part, hf.ok, hp.part, hp.ok, hw.part, hw.ok, hy.part, hy.ok, decide_eq_true_eq, true_and, and_true]; omega)
theorem rwDR (dead : Nat → Value) (h : Bool) (f p w : List At) (i : Nat) : projS [0, 2, 4, 7, 45] [0, 2, 6, 7] (exec Tryz.prog KA1 Zl 400 (.code (c1 (c1 (c2 (c1 (c2 (c2 (c2 (bodyF Tryz.prog 147))))))))) (Kst.st ⟨[(0, A0), (2, PX 2), (4, PX 6), (7, PX 7), (45, IK i)], [(0, flag 58 h), (2, ⟨190, (0, 0), 0, f⟩), (6, ⟨62, (0, 0), 0, p⟩), (7, ⟨315, (0, 0), 0, w⟩)], 8⟩ 54 dead [some true])) = some (Ex.normal, [LV.v (V1.one (At.ptr 0 0)), LV.v (V1.one (At.ptx 2 0)), LV.v (V1.one (At.ptx 6 0)), LV.v (V1.one (At.ptx 7 0)), LV.v (V1.one (At.int IntKind.i64 (wr IntKind.i64 ((i : Int) + 1))))], [some { ty := 58, fr := (0, 0), es := 0, cells := [At.bool h] }, some { ty := 190, fr := (0, 0), es := 0, cells := f }, some { ty := 62, fr := (0, 0), es := 0, cells := p }, some { ty := 315, fr := (0, 0), es := 0, cells := (List.set w) (0 + (i : Int).toNat * 48 + (wr IntKind.i64 (24 + (i : Int))).toNat * 1) (At.int IntKind.i64 1073741824) }], [(decide (0 + (i : Int).toNat * 48 + (wr IntKind.i64 (24 + (i : Int))).toNat * 1 < w.length), true), (decide (0 ≤ wr IntKind.i64 (24 + (i : Int))) && decide (wr IntKind.i64 (24 + (i : Int)) < 48), true), (decide (0 ≤ (i : Int)) && decide ((i : Int) < 24), true), (decide ((i : Int) < 24), true)]) := by kernel_rfl
theorem rwD (h : Bool) (f p w : List At) (i : Nat) (hf : AllI f 576) (hp : AllI p 300) (hw : AllI w 1152) (hi : i < 24) : ∃  (h' : Bool) (f' p' w' : List At), AllI f' 576 ∧ AllI p' 300 ∧ AllI w' 1152 ∧ To Tryz.prog 54 (c1 (c1 (c2 (c1 (c2 (c2 (c2 (bodyF Tryz.prog 147)))))))) ⟨[(0, A0), (2, PX 2), (4, PX 6), (7, PX 7), (45, IK i)], [(0, flag 58 h), (2, ⟨190, (0, 0), 0, f⟩), (6, ⟨62, (0, 0), 0, p⟩), (7, ⟨315, (0, 0), 0, w⟩)], 8⟩ .normal ⟨[(0, A0), (2, PX 2), (4, PX 6), (7, PX 7), (45, IK (i + 1))], [(0, flag 58 h'), (2, ⟨190, (0, 0), 0, f'⟩), (6, ⟨62, (0, 0), 0, p'⟩), (7, ⟨315, (0, 0), 0, w'⟩)], 8⟩ := by
  refine ⟨(h), (f), (p), ((List.set w) (0 + (i : Int).toNat * 48 + (wr IntKind.i64 (24 + (i : Int))).toNat * 1) (At.int IntKind.i64 1073741824)), (by repeat' first | assumption | apply AllI.set | exact AllI.ints _ _ _ | exact AllI.mkF _ _ _ | exact zc24I | exact zc48I | exact zcWI | exact zcCov), (by repeat' first | assumption | apply AllI.set | exact AllI.ints _ _ _ | exact AllI.mkF _ _ _ | exact zc24I | exact zc48I | exact zcWI | exact zcCov), (by repeat' first | assumption | apply AllI.set | exact AllI.ints _ _ _ | exact AllI.mkF _ _ _ | exact zc24I | exact zc48I | exact zcWI | exact zcCov), To.run (z := Zl) soundKA1 (slots := [0, 2, 4, 7, 45]) (blks := [0, 2, 6, 7]) (vs := [A0, PX 2, PX 6, PX 7, IK (i + 1)]) (bs := [flag 58 (h), ⟨190, (0, 0), 0, f⟩, ⟨62, (0, 0), 0, p⟩, ⟨315, (0, 0), 0, (List.set w) (0 + (i : Int).toNat * 48 + (wr IntKind.i64 (24 + (i : Int))).toNat * 1) (At.int IntKind.i64 1073741824)⟩]) (nbB := 8) (fun dead => rwDR dead h f p w i) rfl (by rw [wk i (by omega)]; rfl) rfl ?_ (kstOK_of rfl (memOKc (Nat.lt_of_sub_eq_succ rfl) rfl rfl (memOKc (Nat.lt_of_sub_eq_succ rfl) (AllI.okb (n := 576) (by repeat' first | assumption | apply AllI.set | exact AllI.ints _ _ _ | exact AllI.mkF _ _ _ | exact zc24I | exact zc48I | exact zcWI | exact zcCov) _) rfl (memOKc (Nat.lt_of_sub_eq_succ rfl) (AllI.okb (n := 300) (by repeat' first | assumption | apply AllI.set | exact AllI.ints _ _ _ | exact AllI.mkF _ _ _ | exact zc24I | exact zc48I | exact zcWI | exact zcCov) _) rfl (memOKc (Nat.lt_of_sub_eq_succ rfl) (AllI.okb (n := 1152) (by repeat' first | assumption | apply AllI.set | exact AllI.ints _ _ _ | exact AllI.mkF _ _ _ | exact zc24I | exact zc48I | exact zcWI | exact zcCov) _) rfl memOK0))))) (Nat.le_refl _)⟩
  have lnf := hf.len
  have lnp := hp.len
  have lnw := hw.len
  have e24 : wr .i64 (24 + (i : Int)) = ((24 + i : Nat) : Int) := by
    show w64 (24 + (i : Int)) = _
    rw [w64_in (by omega) (by omega)]; omega
  simp only [e24]
  repeat' first | exact ae_nil | apply ae_cons
  all_goals first
    | (with_reducible refine decide_eq_true ?_; (try simp only [Int.toNat_natCast, List.length_set]); omega)
    | (with_reducible refine decide_eq_false ?_; omega)
    | (with_reducible refine AllI.ats (by assumption) _ ?_; simp only [Int.toNat_natCast]; omega)
    | (rw [hf.areI 576 0 (Nat.le_refl _)]; rfl)
    | (rw [hp.areI 300 0 (Nat.le_refl _)]; rfl)
    | (rw [hw.areI 1152 0 (Nat.le_refl _)]; rfl)
    | (simp only [Bool.and_eq_true, hf.part, hf.ok, hp.part, hp.ok, hw.part, hw.ok, decide_eq_true_eq, true_and, and_true]; omega)
theorem rwDeR (dead : Nat → Value) (h : Bool) (f p w : List At) : projS [0, 2, 4, 7] [0, 2, 6, 7] (exec Tryz.prog KA1 Zl 400 (.code (c1 (c1 (c2 (c1 (c2 (c2 (c2 (bodyF Tryz.prog 147))))))))) (Kst.st ⟨[(0, A0), (2, PX 2), (4, PX 6), (7, PX 7), (45, IK 24)], [(0, flag 58 h), (2, ⟨190, (0, 0), 0, f⟩), (6, ⟨62, (0, 0), 0, p⟩), (7, ⟨315, (0, 0), 0, w⟩)], 8⟩ 54 dead [])) = some (Ex.exit 6, [LV.v (V1.one (At.ptr 0 0)), LV.v (V1.one (At.ptx 2 0)), LV.v (V1.one (At.ptx 6 0)), LV.v (V1.one (At.ptx 7 0))], [some { ty := 58, fr := (0, 0), es := 0, cells := [At.bool h] }, some { ty := 190, fr := (0, 0), es := 0, cells := f }, some { ty := 62, fr := (0, 0), es := 0, cells := p }, some { ty := 315, fr := (0, 0), es := 0, cells := w }], []) := by kernel_rfl
theorem rwDe (h : Bool) (f p w : List At) (hf : AllI f 576) (hp : AllI p 300) (hw : AllI w 1152) : ∃  (h' : Bool) (f' p' w' : List At), AllI f' 576 ∧ AllI p' 300 ∧ AllI w' 1152 ∧ To Tryz.prog 54 (c1 (c1 (c2 (c1 (c2 (c2 (c2 (bodyF Tryz.prog 147)))))))) ⟨[(0, A0), (2, PX 2), (4, PX 6), (7, PX 7), (45, IK 24)], [(0, flag 58 h), (2, ⟨190, (0, 0), 0, f⟩), (6, ⟨62, (0, 0), 0, p⟩), (7, ⟨315, (0, 0), 0, w⟩)], 8⟩ (.exit 6) ⟨[(0, A0), (2, PX 2), (4, PX 6), (7, PX 7)], [(0, flag 58 h'), (2, ⟨190, (0, 0), 0, f'⟩), (6, ⟨62, (0, 0), 0, p'⟩), (7, ⟨315, (0, 0), 0, w'⟩)], 8⟩ := by
  refine ⟨(h), (f), (p), (w), (by repeat' first | assumption | apply AllI.set | exact AllI.ints _ _ _ | exact AllI.mkF _ _ _ | exact zc24I | exact zc48I | exact zcWI | exact zcCov), (by repeat' first | assumption | apply AllI.set | exact AllI.ints _ _ _ | exact AllI.mkF _ _ _ | exact zc24I | exact zc48I | exact zcWI | exact zcCov), (by repeat' first | assumption | apply AllI.set | exact AllI.ints _ _ _ | exact AllI.mkF _ _ _ | exact zc24I | exact zc48I | exact zcWI | exact zcCov), To.run (z := Zl) soundKA1 (slots := [0, 2, 4, 7]) (blks := [0, 2, 6, 7]) (vs := [A0, PX 2, PX 6, PX 7]) (bs := [flag 58 (h), ⟨190, (0, 0), 0, f⟩, ⟨62, (0, 0), 0, p⟩, ⟨315, (0, 0), 0, w⟩]) (nbB := 8) (fun dead => rwDeR dead h f p w) rfl rfl rfl ?_ (kstOK_of rfl (memOKc (Nat.lt_of_sub_eq_succ rfl) rfl rfl (memOKc (Nat.lt_of_sub_eq_succ rfl) (AllI.okb (n := 576) (by repeat' first | assumption | apply AllI.set | exact AllI.ints _ _ _ | exact AllI.mkF _ _ _ | exact zc24I | exact zc48I | exact zcWI | exact zcCov) _) rfl (memOKc (Nat.lt_of_sub_eq_succ rfl) (AllI.okb (n := 300) (by repeat' first | assumption | apply AllI.set | exact AllI.ints _ _ _ | exact AllI.mkF _ _ _ | exact zc24I | exact zc48I | exact zcWI | exact zcCov) _) rfl (memOKc (Nat.lt_of_sub_eq_succ rfl) (AllI.okb (n := 1152) (by repeat' first | assumption | apply AllI.set | exact AllI.ints _ _ _ | exact AllI.mkF _ _ _ | exact zc24I | exact zc48I | exact zcWI | exact zcCov) _) rfl memOK0))))) (Nat.le_refl _)⟩
  have lnf := hf.len
  have lnp := hp.len
  have lnw := hw.len
  repeat' first | exact ae_nil | apply ae_cons
  all_goals first
    | (with_reducible refine decide_eq_true ?_; (try simp only [Int.toNat_natCast, List.length_set]); omega)
    | (with_reducible refine decide_eq_false ?_; omega)
    | (with_reducible refine AllI.ats (by assumption) _ ?_; simp only [Int.toNat_natCast]; omega)
    | (rw [hf.areI 576 0 (Nat.le_refl _)]; rfl)
    | (rw [hp.areI 300 0 (Nat.le_refl _)]; rfl)
    | (rw [hw.areI 1152 0 (Nat.le_refl _)]; rfl)
    | (simp only [Bool.and_eq_true, hf.part, hf.ok, hp.part, hp.ok, hw.part, hw.ok, decide_eq_true_eq, true_and, and_true]; omega)
theorem rwHR (dead : Nat → Value) (h : Bool) (f p w : List At) (k : Nat) : projS [0, 2, 4, 7, 13] [0, 2, 6, 7] (execL Tryz.prog KA1 Zl 400 (spineL 2 (c1 (c1 (c2 (c1 (c2 (c2 (bodyF Tryz.prog 147)))))))) (Kst.st ⟨[(0, A0), (2, PX 2), (4, PX 6), (7, PX 7), (13, IK k)], [(0, flag 58 h), (2, ⟨190, (0, 0), 0, f⟩), (6, ⟨62, (0, 0), 0, p⟩), (7, ⟨315, (0, 0), 0, w⟩)], 8⟩ 54 dead [some true])) = some (Ex.normal, [LV.v (V1.one (At.ptr 0 0)), LV.v (V1.one (At.ptx 2 0)), LV.v (V1.one (At.ptx 6 0)), LV.v (V1.one (At.ptx 7 0)), LV.v (V1.one (At.int IntKind.i64 (k : Int)))], [some { ty := 58, fr := (0, 0), es := 0, cells := [At.bool h] }, some { ty := 190, fr := (0, 0), es := 0, cells := f }, some { ty := 62, fr := (0, 0), es := 0, cells := p }, some { ty := 315, fr := (0, 0), es := 0, cells := w }], [(decide ((k : Int) < 24), true)]) := by kernel_rfl
theorem rwH (h : Bool) (f p w : List At) (k : Nat) (hf : AllI f 576) (hp : AllI p 300) (hw : AllI w 1152) (hk : k < 24) : ∃  (h' : Bool) (f' p' w' : List At), AllI f' 576 ∧ AllI p' 300 ∧ AllI w' 1152 ∧ ∀ (e : Ex) (C : Kst), To Tryz.prog 54 (dropC 2 (c1 (c1 (c2 (c1 (c2 (c2 (bodyF Tryz.prog 147)))))))) ⟨[(0, A0), (2, PX 2), (4, PX 6), (7, PX 7), (13, IK k)], [(0, flag 58 h'), (2, ⟨190, (0, 0), 0, f'⟩), (6, ⟨62, (0, 0), 0, p'⟩), (7, ⟨315, (0, 0), 0, w'⟩)], 8⟩ e C → To Tryz.prog 54 (c1 (c1 (c2 (c1 (c2 (c2 (bodyF Tryz.prog 147))))))) ⟨[(0, A0), (2, PX 2), (4, PX 6), (7, PX 7), (13, IK k)], [(0, flag 58 h), (2, ⟨190, (0, 0), 0, f⟩), (6, ⟨62, (0, 0), 0, p⟩), (7, ⟨315, (0, 0), 0, w⟩)], 8⟩ e C := by
  refine ⟨(h), (f), (p), (w), (by repeat' first | assumption | apply AllI.set | exact AllI.ints _ _ _ | exact AllI.mkF _ _ _ | exact zc24I | exact zc48I | exact zcWI | exact zcCov), (by repeat' first | assumption | apply AllI.set | exact AllI.ints _ _ _ | exact AllI.mkF _ _ _ | exact zc24I | exact zc48I | exact zcWI | exact zcCov), (by repeat' first | assumption | apply AllI.set | exact AllI.ints _ _ _ | exact AllI.mkF _ _ _ | exact zc24I | exact zc48I | exact zcWI | exact zcCov), fun e C hC => To.spineR (k := 2) (z := Zl) soundKA1 (slots := [0, 2, 4, 7, 13]) (blks := [0, 2, 6, 7]) (vs := [A0, PX 2, PX 6, PX 7, IK k]) (bs := [flag 58 (h), ⟨190, (0, 0), 0, f⟩, ⟨62, (0, 0), 0, p⟩, ⟨315, (0, 0), 0, w⟩]) (nbB := 8) (by kernel_rfl) (fun dead => rwHR dead h f p w k) rfl rfl rfl ?_ (kstOK_of rfl (memOKc (Nat.lt_of_sub_eq_succ rfl) rfl rfl (memOKc (Nat.lt_of_sub_eq_succ rfl) (AllI.okb (n := 576) (by repeat' first | assumption | apply AllI.set | exact AllI.ints _ _ _ | exact AllI.mkF _ _ _ | exact zc24I | exact zc48I | exact zcWI | exact zcCov) _) rfl (memOKc (Nat.lt_of_sub_eq_succ rfl) (AllI.okb (n := 300) (by repeat' first | assumption | apply AllI.set | exact AllI.ints _ _ _ | exact AllI.mkF _ _ _ | exact zc24I | exact zc48I | exact zcWI | exact zcCov) _) rfl (memOKc (Nat.lt_of_sub_eq_succ rfl) (AllI.okb (n := 1152) (by repeat' first | assumption | apply AllI.set | exact AllI.ints _ _ _ | exact AllI.mkF _ _ _ | exact zc24I | exact zc48I | exact zcWI | exact zcCov) _) rfl memOK0))))) (Nat.le_refl _) hC⟩
  have lnf := hf.len
  have lnp := hp.len
  have lnw := hw.len
  repeat' first | exact ae_nil | apply ae_cons
  all_goals first
    | (with_reducible refine decide_eq_true ?_; (try simp only [Int.toNat_natCast, List.length_set]); omega)
    | (with_reducible refine decide_eq_false ?_; omega)
    | (with_reducible refine AllI.ats (by assumption) _ ?_; simp only [Int.toNat_natCast]; omega)
    | (rw [hf.areI 576 0 (Nat.le_refl _)]; rfl)
    | (rw [hp.areI 300 0 (Nat.le_refl _)]; rfl)
    | (rw [hw.areI 1152 0 (Nat.le_refl _)]; rfl)
    | (simp only [Bool.and_eq_true, hf.part, hf.ok, hp.part, hp.ok, hw.part, hw.ok, decide_eq_true_eq, true_and, and_true]; omega)
theorem rwHeR (dead : Nat → Value) (h : Bool) (f p w : List At) : projS [0, 2, 4, 7] [0, 2, 6, 7] (exec Tryz.prog KA1 Zl 400 (.code (c1 (c1 (c2 (c1 (c2 (c2 (bodyF Tryz.prog 147)))))))) (Kst.st ⟨[(0, A0), (2, PX 2), (4, PX 6), (7, PX 7), (13, IK 24)], [(0, flag 58 h), (2, ⟨190, (0, 0), 0, f⟩), (6, ⟨62, (0, 0), 0, p⟩), (7, ⟨315, (0, 0), 0, w⟩)], 8⟩ 54 dead [])) = some (Ex.exit 0, [LV.v (V1.one (At.ptr 0 0)), LV.v (V1.one (At.ptx 2 0)), LV.v (V1.one (At.ptx 6 0)), LV.v (V1.one (At.ptx 7 0))], [some { ty := 58, fr := (0, 0), es := 0, cells := [At.bool h] }, some { ty := 190, fr := (0, 0), es := 0, cells := f }, some { ty := 62, fr := (0, 0), es := 0, cells := p }, some { ty := 315, fr := (0, 0), es := 0, cells := w }], []) := by kernel_rfl
theorem rwHe (h : Bool) (f p w : List At) (hf : AllI f 576) (hp : AllI p 300) (hw : AllI w 1152) : ∃  (h' : Bool) (f' p' w' : List At), AllI f' 576 ∧ AllI p' 300 ∧ AllI w' 1152 ∧ To Tryz.prog 54 (c1 (c1 (c2 (c1 (c2 (c2 (bodyF Tryz.prog 147))))))) ⟨[(0, A0), (2, PX 2), (4, PX 6), (7, PX 7), (13, IK 24)], [(0, flag 58 h), (2, ⟨190, (0, 0), 0, f⟩), (6, ⟨62, (0, 0), 0, p⟩), (7, ⟨315, (0, 0), 0, w⟩)], 8⟩ (.exit 0) ⟨[(0, A0), (2, PX 2), (4, PX 6), (7, PX 7)], [(0, flag 58 h'), (2, ⟨190, (0, 0), 0, f'⟩), (6, ⟨62, (0, 0), 0, p'⟩), (7, ⟨315, (0, 0), 0, w'⟩)], 8⟩ := by
  refine ⟨(h), (f), (p), (w), (by repeat' first | assumption | apply AllI.set | exact AllI.ints _ _ _ | exact AllI.mkF _ _ _ | exact zc24I | exact zc48I | exact zcWI | exact zcCov), (by repeat' first | assumption | apply AllI.set | exact AllI.ints _ _ _ | exact AllI.mkF _ _ _ | exact zc24I | exact zc48I | exact zcWI | exact zcCov), (by repeat' first | assumption | apply AllI.set | exact AllI.ints _ _ _ | exact AllI.mkF _ _ _ | exact zc24I | exact zc48I | exact zcWI | exact zcCov), To.run (z := Zl) soundKA1 (slots := [0, 2, 4, 7]) (blks := [0, 2, 6, 7]) (vs := [A0, PX 2, PX 6, PX 7]) (bs := [flag 58 (h), ⟨190, (0, 0), 0, f⟩, ⟨62, (0, 0), 0, p⟩, ⟨315, (0, 0), 0, w⟩]) (nbB := 8) (fun dead => rwHeR dead h f p w) rfl rfl rfl ?_ (kstOK_of rfl (memOKc (Nat.lt_of_sub_eq_succ rfl) rfl rfl (memOKc (Nat.lt_of_sub_eq_succ rfl) (AllI.okb (n := 576) (by repeat' first | assumption | apply AllI.set | exact AllI.ints _ _ _ | exact AllI.mkF _ _ _ | exact zc24I | exact zc48I | exact zcWI | exact zcCov) _) rfl (memOKc (Nat.lt_of_sub_eq_succ rfl) (AllI.okb (n := 300) (by repeat' first | assumption | apply AllI.set | exact AllI.ints _ _ _ | exact AllI.mkF _ _ _ | exact zc24I | exact zc48I | exact zcWI | exact zcCov) _) rfl (memOKc (Nat.lt_of_sub_eq_succ rfl) (AllI.okb (n := 1152) (by repeat' first | assumption | apply AllI.set | exact AllI.ints _ _ _ | exact AllI.mkF _ _ _ | exact zc24I | exact zc48I | exact zcWI | exact zcCov) _) rfl memOK0))))) (Nat.le_refl _)⟩
  have lnf := hf.len
  have lnp := hp.len
  have lnw := hw.len
  repeat' first | exact ae_nil | apply ae_cons
  all_goals first
    | (with_reducible refine decide_eq_true ?_; (try simp only [Int.toNat_natCast, List.length_set]); omega)
    | (with_reducible refine decide_eq_false ?_; omega)
    | (with_reducible refine AllI.ats (by assumption) _ ?_; simp only [Int.toNat_natCast]; omega)
    | (rw [hf.areI 576 0 (Nat.le_refl _)]; rfl)
    | (rw [hp.areI 300 0 (Nat.le_refl _)]; rfl)
    | (rw [hw.areI 1152 0 (Nat.le_refl _)]; rfl)
    | (simp only [Bool.and_eq_true, hf.part, hf.ok, hp.part, hp.ok, hw.part, hw.ok, decide_eq_true_eq, true_and, and_true]; omega)
theorem rwAR (dead : Nat → Value) (h : Bool) (f p w : List At) (k : Nat) : projS [0, 2, 4, 7, 8, 9, 13] [0, 2, 6, 7, 8] (execL Tryz.prog KA1 Zl 400 (spineL 2 (c1 (c1 (c2 (c2 (c1 (c1 (c2 (c1 (c2 (c2 (bodyF Tryz.prog 147)))))))))))) (Kst.st ⟨[(0, A0), (2, PX 2), (4, PX 6), (7, PX 7), (13, IK k)], [(0, flag 58 h), (2, ⟨190, (0, 0), 0, f⟩), (6, ⟨62, (0, 0), 0, p⟩), (7, ⟨315, (0, 0), 0, w⟩)], 8⟩ 54 dead [])) = some (Ex.normal, [LV.v (V1.one (At.ptr 0 0)), LV.v (V1.one (At.ptx 2 0)), LV.v (V1.one (At.ptx 6 0)), LV.v (V1.one (At.ptx 7 0)), LV.v (V1.one (At.int IntKind.i64 (k : Int))), LV.v (V1.one (At.ptr 8 0)), LV.v (V1.one (At.int IntKind.i64 (k : Int)))], [some { ty := 58, fr := (0, 0), es := 0, cells := [At.bool h] }, some { ty := 190, fr := (0, 0), es := 0, cells := f }, some { ty := 62, fr := (0, 0), es := 0, cells := p }, some { ty := 315, fr := (0, 0), es := 0, cells := w }, some ⟨29, (0, 0), 0, zc 29⟩], []) := by kernel_rfl
theorem rwA (h : Bool) (f p w : List At) (k : Nat) (hf : AllI f 576) (hp : AllI p 300) (hw : AllI w 1152) : ∃  (h' : Bool) (f' p' w' y' : List At), AllI f' 576 ∧ AllI p' 300 ∧ AllI w' 1152 ∧ AllI y' 24 ∧ ∀ (e : Ex) (C : Kst), To Tryz.prog 54 (dropC 2 (c1 (c1 (c2 (c2 (c1 (c1 (c2 (c1 (c2 (c2 (bodyF Tryz.prog 147)))))))))))) ⟨[(0, A0), (2, PX 2), (4, PX 6), (7, PX 7), (8, IK k), (9, PP 8), (13, IK k)], [(0, flag 58 h'), (2, ⟨190, (0, 0), 0, f'⟩), (6, ⟨62, (0, 0), 0, p'⟩), (7, ⟨315, (0, 0), 0, w'⟩), (8, ⟨29, (0, 0), 0, y'⟩)], 9⟩ e C → To Tryz.prog 54 (c1 (c1 (c2 (c2 (c1 (c1 (c2 (c1 (c2 (c2 (bodyF Tryz.prog 147))))))))))) ⟨[(0, A0), (2, PX 2), (4, PX 6), (7, PX 7), (13, IK k)], [(0, flag 58 h), (2, ⟨190, (0, 0), 0, f⟩), (6, ⟨62, (0, 0), 0, p⟩), (7, ⟨315, (0, 0), 0, w⟩)], 8⟩ e C := by
  refine ⟨(h), (f), (p), (w), (zc 29), (by repeat' first | assumption | apply AllI.set | exact AllI.ints _ _ _ | exact AllI.mkF _ _ _ | exact zc24I | exact zc48I | exact zcWI | exact zcCov), (by repeat' first | assumption | apply AllI.set | exact AllI.ints _ _ _ | exact AllI.mkF _ _ _ | exact zc24I | exact zc48I | exact zcWI | exact zcCov), (by repeat' first | assumption | apply AllI.set | exact AllI.ints _ _ _ | exact AllI.mkF _ _ _ | exact zc24I | exact zc48I | exact zcWI | exact zcCov), (by repeat' first | assumption | apply AllI.set | exact AllI.ints _ _ _ | exact AllI.mkF _ _ _ | exact zc24I | exact zc48I | exact zcWI | exact zcCov), fun e C hC => To.spineR (k := 2) (z := Zl) soundKA1 (slots := [0, 2, 4, 7, 8, 9, 13]) (blks := [0, 2, 6, 7, 8]) (vs := [A0, PX 2, PX 6, PX 7, IK k, PP 8, IK k]) (bs := [flag 58 (h), ⟨190, (0, 0), 0, f⟩, ⟨62, (0, 0), 0, p⟩, ⟨315, (0, 0), 0, w⟩, ⟨29, (0, 0), 0, zc 29⟩]) (nbB := 9) (by kernel_rfl) (fun dead => rwAR dead h f p w k) rfl rfl rfl ?_ (kstOK_of rfl (memOKc (Nat.lt_of_sub_eq_succ rfl) rfl rfl (memOKc (Nat.lt_of_sub_eq_succ rfl) (AllI.okb (n := 576) (by repeat' first | assumption | apply AllI.set | exact AllI.ints _ _ _ | exact AllI.mkF _ _ _ | exact zc24I | exact zc48I | exact zcWI | exact zcCov) _) rfl (memOKc (Nat.lt_of_sub_eq_succ rfl) (AllI.okb (n := 300) (by repeat' first | assumption | apply AllI.set | exact AllI.ints _ _ _ | exact AllI.mkF _ _ _ | exact zc24I | exact zc48I | exact zcWI | exact zcCov) _) rfl (memOKc (Nat.lt_of_sub_eq_succ rfl) (AllI.okb (n := 1152) (by repeat' first | assumption | apply AllI.set | exact AllI.ints _ _ _ | exact AllI.mkF _ _ _ | exact zc24I | exact zc48I | exact zcWI | exact zcCov) _) rfl (memOKc (Nat.lt_of_sub_eq_succ rfl) (AllI.okb (n := 24) (by repeat' first | assumption | apply AllI.set | exact AllI.ints _ _ _ | exact AllI.mkF _ _ _ | exact zc24I | exact zc48I | exact zcWI | exact zcCov) _) rfl memOK0)))))) (Nat.le_of_ble_eq_true rfl) hC⟩
  have lnf := hf.len
  have lnp := hp.len
  have lnw := hw.len
  repeat' first | exact ae_nil | apply ae_cons
  all_goals first
    | (with_reducible refine decide_eq_true ?_; (try simp only [Int.toNat_natCast, List.length_set]); omega)
    | (with_reducible refine decide_eq_false ?_; omega)
    | (with_reducible refine AllI.ats (by assumption) _ ?_; simp only [Int.toNat_natCast]; omega)
    | (rw [hf.areI 576 0 (Nat.le_refl _)]; rfl)
    | (rw [hp.areI 300 0 (Nat.le_refl _)]; rfl)
    | (rw [hw.areI 1152 0 (Nat.le_refl _)]; rfl)
    | (simp only [Bool.and_eq_true, hf.part, hf.ok, hp.part, hp.ok, hw.part, hw.ok, decide_eq_true_eq, true_and, and_true]; omega)
theorem rwSR (dead : Nat → Value) (h : Bool) (f p w y : List At) (k : Nat) : projS [0, 2, 4, 7, 8, 9, 13, 17, 18] [0, 2, 6, 7, 8] (exec Tryz.prog KA1 Zl 400 (.code (c1 (c1 (c2 (c2 (c1 (c1 (c2 (c2 (c1 (c1 (c2 (c1 (c2 (c2 (bodyF Tryz.prog 147)))))))))))))))) (Kst.st ⟨[(0, A0), (2, PX 2), (4, PX 6), (7, PX 7), (8, IK k), (9, PX 8), (13, IK k)], [(0, flag 58 h), (2, ⟨190, (0, 0), 0, f⟩), (6, ⟨62, (0, 0), 0, p⟩), (7, ⟨315, (0, 0), 0, w⟩), (8, ⟨29, (0, 0), 0, y⟩)], 9⟩ 54 dead [])) = some (Ex.normal, [LV.v (V1.one (At.ptr 0 0)), LV.v (V1.one (At.ptx 2 0)), LV.v (V1.one (At.ptx 6 0)), LV.v (V1.one (At.ptx 7 0)), LV.v (V1.one (At.int IntKind.i64 (k : Int))), LV.v (V1.one (At.ptx 8 0)), LV.v (V1.one (At.int IntKind.i64 (k : Int))), LV.v (V1.one (At.int IntKind.i64 (wr IntKind.i64 ((k : Int) + 1)))), LV.v (V1.one (At.int IntKind.i64 0))], [some { ty := 58, fr := (0, 0), es := 0, cells := [At.bool h] }, some { ty := 190, fr := (0, 0), es := 0, cells := f }, some { ty := 62, fr := (0, 0), es := 0, cells := p }, some { ty := 315, fr := (0, 0), es := 0, cells := w }, some { ty := 29, fr := (0, 0), es := 0, cells := y }], []) := by kernel_rfl
theorem rwS (h : Bool) (f p w y : List At) (k : Nat) (hf : AllI f 576) (hp : AllI p 300) (hw : AllI w 1152) (hy : AllI y 24) (hk : k < 24) : ∃  (h' : Bool) (f' p' w' y' : List At), AllI f' 576 ∧ AllI p' 300 ∧ AllI w' 1152 ∧ AllI y' 24 ∧ To Tryz.prog 54 (c1 (c1 (c2 (c2 (c1 (c1 (c2 (c2 (c1 (c1 (c2 (c1 (c2 (c2 (bodyF Tryz.prog 147))))))))))))))) ⟨[(0, A0), (2, PX 2), (4, PX 6), (7, PX 7), (8, IK k), (9, PX 8), (13, IK k)], [(0, flag 58 h), (2, ⟨190, (0, 0), 0, f⟩), (6, ⟨62, (0, 0), 0, p⟩), (7, ⟨315, (0, 0), 0, w⟩), (8, ⟨29, (0, 0), 0, y⟩)], 9⟩ .normal ⟨[(0, A0), (2, PX 2), (4, PX 6), (7, PX 7), (8, IK k), (9, PX 8), (13, IK k), (17, IK (k + 1)), (18, IK 0)], [(0, flag 58 h'), (2, ⟨190, (0, 0), 0, f'⟩), (6, ⟨62, (0, 0), 0, p'⟩), (7, ⟨315, (0, 0), 0, w'⟩), (8, ⟨29, (0, 0), 0, y'⟩)], 9⟩ := by
  refine ⟨(h), (f), (p), (w), (y), (by repeat' first | assumption | apply AllI.set | exact AllI.ints _ _ _ | exact AllI.mkF _ _ _ | exact zc24I | exact zc48I | exact zcWI | exact zcCov), (by repeat' first | assumption | apply AllI.set | exact AllI.ints _ _ _ | exact AllI.mkF _ _ _ | exact zc24I | exact zc48I | exact zcWI | exact zcCov), (by repeat' first | assumption | apply AllI.set | exact AllI.ints _ _ _ | exact AllI.mkF _ _ _ | exact zc24I | exact zc48I | exact zcWI | exact zcCov), (by repeat' first | assumption | apply AllI.set | exact AllI.ints _ _ _ | exact AllI.mkF _ _ _ | exact zc24I | exact zc48I | exact zcWI | exact zcCov), To.run (z := Zl) soundKA1 (slots := [0, 2, 4, 7, 8, 9, 13, 17, 18]) (blks := [0, 2, 6, 7, 8]) (vs := [A0, PX 2, PX 6, PX 7, IK k, PX 8, IK k, IK (k + 1), IK 0]) (bs := [flag 58 (h), ⟨190, (0, 0), 0, f⟩, ⟨62, (0, 0), 0, p⟩, ⟨315, (0, 0), 0, w⟩, ⟨29, (0, 0), 0, y⟩]) (nbB := 9) (fun dead => rwSR dead h f p w y k) rfl (by rw [wk k (by omega)]; rfl) rfl ?_ (kstOK_of rfl (memOKc (Nat.lt_of_sub_eq_succ rfl) rfl rfl (memOKc (Nat.lt_of_sub_eq_succ rfl) (AllI.okb (n := 576) (by repeat' first | assumption | apply AllI.set | exact AllI.ints _ _ _ | exact AllI.mkF _ _ _ | exact zc24I | exact zc48I | exact zcWI | exact zcCov) _) rfl (memOKc (Nat.lt_of_sub_eq_succ rfl) (AllI.okb (n := 300) (by repeat' first | assumption | apply AllI.set | exact AllI.ints _ _ _ | exact AllI.mkF _ _ _ | exact zc24I | exact zc48I | exact zcWI | exact zcCov) _) rfl (memOKc (Nat.lt_of_sub_eq_succ rfl) (AllI.okb (n := 1152) (by repeat' first | assumption | apply AllI.set | exact AllI.ints _ _ _ | exact AllI.mkF _ _ _ | exact zc24I | exact zc48I | exact zcWI | exact zcCov) _) rfl (memOKc (Nat.lt_of_sub_eq_succ rfl) (AllI.okb (n := 24) (by repeat' first | assumption | apply AllI.set | exact AllI.ints _ _ _ | exact AllI.mkF _ _ _ | exact zc24I | exact zc48I | exact zcWI | exact zcCov) _) rfl memOK0)))))) (Nat.le_refl _)⟩
  have lnf := hf.len
  have lnp := hp.len
  have lnw := hw.len
  have lny := hy.len
  repeat' first | exact ae_nil | apply ae_cons
  all_goals first
    | (with_reducible refine decide_eq_true ?_; (try simp only [Int.toNat_natCast, List.length_set]); omega)
    | (with_reducible refine decide_eq_false ?_; omega)
    | (with_reducible refine AllI.ats (by assumption) _ ?_; simp only [Int.toNat_natCast]; omega)
    | (rw [hf.areI 576 0 (Nat.le_refl _)]; rfl)
    | (rw [hp.areI 300 0 (Nat.le_refl _)]; rfl)
    | (rw [hw.areI 1152 0 (Nat.le_refl _)]; rfl)
    | (rw [hy.areI 24 0 (Nat.le_refl _)]; rfl)
    | (simp only [Bool.and_eq_true, hf.part, hf.ok, hp.part, hp.ok, hw.part, hw.ok, hy.part, hy.ok, decide_eq_true_eq, true_and, and_true]; omega)
theorem rwS2R (dead : Nat → Value) (h : Bool) (f p w y : List At) (k : Nat) : projS [0, 2, 4, 7, 8, 9, 13, 28] [0, 2, 6, 7, 8] (exec Tryz.prog KA1 Zl 400 (.code (c1 (c2 (c2 (c2 (c1 (c1 (c2 (c2 (c1 (c1 (c2 (c1 (c2 (c2 (bodyF Tryz.prog 147)))))))))))))))) (Kst.st ⟨[(0, A0), (2, PX 2), (4, PX 6), (7, PX 7), (8, IK k), (9, PX 8), (13, IK k)], [(0, flag 58 h), (2, ⟨190, (0, 0), 0, f⟩), (6, ⟨62, (0, 0), 0, p⟩), (7, ⟨315, (0, 0), 0, w⟩), (8, ⟨29, (0, 0), 0, y⟩)], 9⟩ 54 dead [])) = some (Ex.normal, [LV.v (V1.one (At.ptr 0 0)), LV.v (V1.one (At.ptx 2 0)), LV.v (V1.one (At.ptx 6 0)), LV.v (V1.one (At.ptx 7 0)), LV.v (V1.one (At.int IntKind.i64 (k : Int))), LV.v (V1.one (At.ptx 8 0)), LV.v (V1.one (At.int IntKind.i64 (k : Int))), LV.v (V1.one (At.int IntKind.i64 0))], [some { ty := 58, fr := (0, 0), es := 0, cells := [At.bool h] }, some { ty := 190, fr := (0, 0), es := 0, cells := f }, some { ty := 62, fr := (0, 0), es := 0, cells := p }, some { ty := 315, fr := (0, 0), es := 0, cells := w }, some { ty := 29, fr := (0, 0), es := 0, cells := y }], []) := by kernel_rfl
theorem rwS2 (h : Bool) (f p w y : List At) (k : Nat) (hf : AllI f 576) (hp : AllI p 300) (hw : AllI w 1152) (hy : AllI y 24) : ∃  (h' : Bool) (f' p' w' y' : List At), AllI f' 576 ∧ AllI p' 300 ∧ AllI w' 1152 ∧ AllI y' 24 ∧ To Tryz.prog 54 (c1 (c2 (c2 (c2 (c1 (c1 (c2 (c2 (c1 (c1 (c2 (c1 (c2 (c2 (bodyF Tryz.prog 147))))))))))))))) ⟨[(0, A0), (2, PX 2), (4, PX 6), (7, PX 7), (8, IK k), (9, PX 8), (13, IK k)], [(0, flag 58 h), (2, ⟨190, (0, 0), 0, f⟩), (6, ⟨62, (0, 0), 0, p⟩), (7, ⟨315, (0, 0), 0, w⟩), (8, ⟨29, (0, 0), 0, y⟩)], 9⟩ .normal ⟨[(0, A0), (2, PX 2), (4, PX 6), (7, PX 7), (8, IK k), (9, PX 8), (13, IK k), (28, IK 0)], [(0, flag 58 h'), (2, ⟨190, (0, 0), 0, f'⟩), (6, ⟨62, (0, 0), 0, p'⟩), (7, ⟨315, (0, 0), 0, w'⟩), (8, ⟨29, (0, 0), 0, y'⟩)], 9⟩ := by
  refine ⟨(h), (f), (p), (w), (y), (by repeat' first | assumption | apply AllI.set | exact AllI.ints _ _ _ | exact AllI.mkF _ _ _ | exact zc24I | exact zc48I | exact zcWI | exact zcCov), (by repeat' first | assumption | apply AllI.set | exact AllI.ints _ _ _ | exact AllI.mkF _ _ _ | exact zc24I | exact zc48I | exact zcWI | exact zcCov), (by repeat' first | assumption | apply AllI.set | exact AllI.ints _ _ _ | exact AllI.mkF _ _ _ | exact zc24I | exact zc48I | exact zcWI | exact zcCov), (by repeat' first | assumption | apply AllI.set | exact AllI.ints _ _ _ | exact AllI.mkF _ _ _ | exact zc24I | exact zc48I | exact zcWI | exact zcCov), To.run (z := Zl) soundKA1 (slots := [0, 2, 4, 7, 8, 9, 13, 28]) (blks := [0, 2, 6, 7, 8]) (vs := [A0, PX 2, PX 6, PX 7, IK k, PX 8, IK k, IK 0]) (bs := [flag 58 (h), ⟨190, (0, 0), 0, f⟩, ⟨62, (0, 0), 0, p⟩, ⟨315, (0, 0), 0, w⟩, ⟨29, (0, 0), 0, y⟩]) (nbB := 9) (fun dead => rwS2R dead h f p w y k) rfl rfl rfl ?_ (kstOK_of rfl (memOKc (Nat.lt_of_sub_eq_succ rfl) rfl rfl (memOKc (Nat.lt_of_sub_eq_succ rfl) (AllI.okb (n := 576) (by repeat' first | assumption | apply AllI.set | exact AllI.ints _ _ _ | exact AllI.mkF _ _ _ | exact zc24I | exact zc48I | exact zcWI | exact zcCov) _) rfl (memOKc (Nat.lt_of_sub_eq_succ rfl) (AllI.okb (n := 300) (by repeat' first | assumption | apply AllI.set | exact AllI.ints _ _ _ | exact AllI.mkF _ _ _ | exact zc24I | exact zc48I | exact zcWI | exact zcCov) _) rfl (memOKc (Nat.lt_of_sub_eq_succ rfl) (AllI.okb (n := 1152) (by repeat' first | assumption | apply AllI.set | exact AllI.ints _ _ _ | exact AllI.mkF _ _ _ | exact zc24I | exact zc48I | exact zcWI | exact zcCov) _) rfl (memOKc (Nat.lt_of_sub_eq_succ rfl) (AllI.okb (n := 24) (by repeat' first | assumption | apply AllI.set | exact AllI.ints _ _ _ | exact AllI.mkF _ _ _ | exact zc24I | exact zc48I | exact zcWI | exact zcCov) _) rfl memOK0)))))) (Nat.le_refl _)⟩
  have lnf := hf.len
  have lnp := hp.len
  have lnw := hw.len
  have lny := hy.len
  repeat' first | exact ae_nil | apply ae_cons
  all_goals first
    | (with_reducible refine decide_eq_true ?_; (try simp only [Int.toNat_natCast, List.length_set]); omega)
    | (with_reducible refine decide_eq_false ?_; omega)
    | (with_reducible refine AllI.ats (by assumption) _ ?_; simp only [Int.toNat_natCast]; omega)
    | (rw [hf.areI 576 0 (Nat.le_refl _)]; rfl)
    | (rw [hp.areI 300 0 (Nat.le_refl _)]; rfl)
    | (rw [hw.areI 1152 0 (Nat.le_refl _)]; rfl)
    | (rw [hy.areI 24 0 (Nat.le_refl _)]; rfl)
    | (simp only [Bool.and_eq_true, hf.part, hf.ok, hp.part, hp.ok, hw.part, hw.ok, hy.part, hy.ok, decide_eq_true_eq, true_and, and_true]; omega)
theorem rwNR (dead : Nat → Value) (h : Bool) (f p w y : List At) (k : Nat) : projS [0, 2, 4, 7, 13] [0, 2, 6, 7] (exec Tryz.prog KA1 Zl 400 (.code (c2 (c2 (c2 (c1 (c1 (c2 (c1 (c2 (c2 (bodyF Tryz.prog 147))))))))))) (Kst.st ⟨[(0, A0), (2, PX 2), (4, PX 6), (7, PX 7), (8, IK k), (9, PX 8), (13, IK k)], [(0, flag 58 h), (2, ⟨190, (0, 0), 0, f⟩), (6, ⟨62, (0, 0), 0, p⟩), (7, ⟨315, (0, 0), 0, w⟩), (8, ⟨29, (0, 0), 0, y⟩)], 9⟩ 54 dead [])) = some (Ex.normal, [LV.v (V1.one (At.ptr 0 0)), LV.v (V1.one (At.ptx 2 0)), LV.v (V1.one (At.ptx 6 0)), LV.v (V1.one (At.ptx 7 0)), LV.v (V1.one (At.int IntKind.i64 (wr IntKind.i64 ((k : Int) + 1))))], [some { ty := 58, fr := (0, 0), es := 0, cells := [At.bool h] }, some { ty := 190, fr := (0, 0), es := 0, cells := f }, some { ty := 62, fr := (0, 0), es := 0, cells := p }, some { ty := 315, fr := (0, 0), es := 0, cells := w }], []) := by kernel_rfl
theorem rwN (h : Bool) (f p w y : List At) (k : Nat) (hf : AllI f 576) (hp : AllI p 300) (hw : AllI w 1152) (hy : AllI y 24) (hk : k < 24) : ∃  (h' : Bool) (f' p' w' : List At), AllI f' 576 ∧ AllI p' 300 ∧ AllI w' 1152 ∧ To Tryz.prog 54 (c2 (c2 (c2 (c1 (c1 (c2 (c1 (c2 (c2 (bodyF Tryz.prog 147)))))))))) ⟨[(0, A0), (2, PX 2), (4, PX 6), (7, PX 7), (8, IK k), (9, PX 8), (13, IK k)], [(0, flag 58 h), (2, ⟨190, (0, 0), 0, f⟩), (6, ⟨62, (0, 0), 0, p⟩), (7, ⟨315, (0, 0), 0, w⟩), (8, ⟨29, (0, 0), 0, y⟩)], 9⟩ .normal ⟨[(0, A0), (2, PX 2), (4, PX 6), (7, PX 7), (13, IK (k + 1))], [(0, flag 58 h'), (2, ⟨190, (0, 0), 0, f'⟩), (6, ⟨62, (0, 0), 0, p'⟩), (7, ⟨315, (0, 0), 0, w'⟩)], 9⟩ := by
  refine ⟨(h), (f), (p), (w), (by repeat' first | assumption | apply AllI.set | exact AllI.ints _ _ _ | exact AllI.mkF _ _ _ | exact zc24I | exact zc48I | exact zcWI | exact zcCov), (by repeat' first | assumption | apply AllI.set | exact AllI.ints _ _ _ | exact AllI.mkF _ _ _ | exact zc24I | exact zc48I | exact zcWI | exact zcCov), (by repeat' first | assumption | apply AllI.set | exact AllI.ints _ _ _ | exact AllI.mkF _ _ _ | exact zc24I | exact zc48I | exact zcWI | exact zcCov), To.run (z := Zl) soundKA1 (slots := [0, 2, 4, 7, 13]) (blks := [0, 2, 6, 7]) (vs := [A0, PX 2, PX 6, PX 7, IK (k + 1)]) (bs := [flag 58 (h), ⟨190, (0, 0), 0, f⟩, ⟨62, (0, 0), 0, p⟩, ⟨315, (0, 0), 0, w⟩]) (nbB := 9) (fun dead => rwNR dead h f p w y k) rfl (by rw [wk k (by omega)]; rfl) rfl ?_ (kstOK_of rfl (memOKc (Nat.lt_of_sub_eq_succ rfl) rfl rfl (memOKc (Nat.lt_of_sub_eq_succ rfl) (AllI.okb (n := 576) (by repeat' first | assumption | apply AllI.set | exact AllI.ints _ _ _ | exact AllI.mkF _ _ _ | exact zc24I | exact zc48I | exact zcWI | exact zcCov) _) rfl (memOKc (Nat.lt_of_sub_eq_succ rfl) (AllI.okb (n := 300) (by repeat' first | assumption | apply AllI.set | exact AllI.ints _ _ _ | exact AllI.mkF _ _ _ | exact zc24I | exact zc48I | exact zcWI | exact zcCov) _) rfl (memOKc (Nat.lt_of_sub_eq_succ rfl) (AllI.okb (n := 1152) (by repeat' first | assumption | apply AllI.set | exact AllI.ints _ _ _ | exact AllI.mkF _ _ _ | exact zc24I | exact zc48I | exact zcWI | exact zcCov) _) rfl memOK0))))) (Nat.le_refl _)⟩
  have lnf := hf.len
  have lnp := hp.len
  have lnw := hw.len
  have lny := hy.len
  repeat' first | exact ae_nil | apply ae_cons
  all_goals first
    | (with_reducible refine decide_eq_true ?_; (try simp only [Int.toNat_natCast, List.length_set]); omega)
    | (with_reducible refine decide_eq_false ?_; omega)
    | (with_reducible refine AllI.ats (by assumption) _ ?_; simp only [Int.toNat_natCast]; omega)
    | (rw [hf.areI 576 0 (Nat.le_refl _)]; rfl)
    | (rw [hp.areI 300 0 (Nat.le_refl _)]; rfl)
    | (rw [hw.areI 1152 0 (Nat.le_refl _)]; rfl)
    | (rw [hy.areI 24 0 (Nat.le_refl _)]; rfl)
    | (simp only [Bool.and_eq_true, hf.part, hf.ok, hp.part, hp.ok, hw.part, hw.ok, hy.part, hy.ok, decide_eq_true_eq, true_and, and_true]; omega)
theorem rwF0R (dead : Nat → Value) (h : Bool) (f p w : List At) : projS [0, 2, 4, 7, 45] [0, 2, 6, 7] (exec Tryz.prog KA1 Zl 400 (.code (c1 (c1 (c2 (c2 (c2 (bodyF Tryz.prog 147))))))) (Kst.st ⟨[(0, A0), (2, PX 2), (4, PX 6), (7, PX 7)], [(0, flag 58 h), (2, ⟨190, (0, 0), 0, f⟩), (6, ⟨62, (0, 0), 0, p⟩), (7, ⟨315, (0, 0), 0, w⟩)], 8⟩ 54 dead [])) = some (Ex.normal, [LV.v (V1.one (At.ptr 0 0)), LV.v (V1.one (At.ptx 2 0)), LV.v (V1.one (At.ptx 6 0)), LV.v (V1.one (At.ptx 7 0)), LV.v (V1.one (At.int IntKind.i64 0))], [some { ty := 58, fr := (0, 0), es := 0, cells := [At.bool h] }, some { ty := 190, fr := (0, 0), es := 0, cells := f }, some { ty := 62, fr := (0, 0), es := 0, cells := p }, some { ty := 315, fr := (0, 0), es := 0, cells := w }], []) := by kernel_rfl
theorem rwF0 (h : Bool) (f p w : List At) (hf : AllI f 576) (hp : AllI p 300) (hw : AllI w 1152) : ∃  (h' : Bool) (f' p' w' : List At), AllI f' 576 ∧ AllI p' 300 ∧ AllI w' 1152 ∧ To Tryz.prog 54 (c1 (c1 (c2 (c2 (c2 (bodyF Tryz.prog 147)))))) ⟨[(0, A0), (2, PX 2), (4, PX 6), (7, PX 7)], [(0, flag 58 h), (2, ⟨190, (0, 0), 0, f⟩), (6, ⟨62, (0, 0), 0, p⟩), (7, ⟨315, (0, 0), 0, w⟩)], 8⟩ .normal ⟨[(0, A0), (2, PX 2), (4, PX 6), (7, PX 7), (45, IK 0)], [(0, flag 58 h'), (2, ⟨190, (0, 0), 0, f'⟩), (6, ⟨62, (0, 0), 0, p'⟩), (7, ⟨315, (0, 0), 0, w'⟩)], 8⟩ := by
  refine ⟨(h), (f), (p), (w), (by repeat' first | assumption | apply AllI.set | exact AllI.ints _ _ _ | exact AllI.mkF _ _ _ | exact zc24I | exact zc48I | exact zcWI | exact zcCov), (by repeat' first | assumption | apply AllI.set | exact AllI.ints _ _ _ | exact AllI.mkF _ _ _ | exact zc24I | exact zc48I | exact zcWI | exact zcCov), (by repeat' first | assumption | apply AllI.set | exact AllI.ints _ _ _ | exact AllI.mkF _ _ _ | exact zc24I | exact zc48I | exact zcWI | exact zcCov), To.run (z := Zl) soundKA1 (slots := [0, 2, 4, 7, 45]) (blks := [0, 2, 6, 7]) (vs := [A0, PX 2, PX 6, PX 7, IK 0]) (bs := [flag 58 (h), ⟨190, (0, 0), 0, f⟩, ⟨62, (0, 0), 0, p⟩, ⟨315, (0, 0), 0, w⟩]) (nbB := 8) (fun dead => rwF0R dead h f p w) rfl rfl rfl ?_ (kstOK_of rfl (memOKc (Nat.lt_of_sub_eq_succ rfl) rfl rfl (memOKc (Nat.lt_of_sub_eq_succ rfl) (AllI.okb (n := 576) (by repeat' first | assumption | apply AllI.set | exact AllI.ints _ _ _ | exact AllI.mkF _ _ _ | exact zc24I | exact zc48I | exact zcWI | exact zcCov) _) rfl (memOKc (Nat.lt_of_sub_eq_succ rfl) (AllI.okb (n := 300) (by repeat' first | assumption | apply AllI.set | exact AllI.ints _ _ _ | exact AllI.mkF _ _ _ | exact zc24I | exact zc48I | exact zcWI | exact zcCov) _) rfl (memOKc (Nat.lt_of_sub_eq_succ rfl) (AllI.okb (n := 1152) (by repeat' first | assumption | apply AllI.set | exact AllI.ints _ _ _ | exact AllI.mkF _ _ _ | exact zc24I | exact zc48I | exact zcWI | exact zcCov) _) rfl memOK0))))) (Nat.le_refl _)⟩
  have lnf := hf.len
  have lnp := hp.len
  have lnw := hw.len
  repeat' first | exact ae_nil | apply ae_cons
  all_goals first
    | (with_reducible refine decide_eq_true ?_; (try simp only [Int.toNat_natCast, List.length_set]); omega)
    | (with_reducible refine decide_eq_false ?_; omega)
    | (with_reducible refine AllI.ats (by assumption) _ ?_; simp only [Int.toNat_natCast]; omega)
    | (rw [hf.areI 576 0 (Nat.le_refl _)]; rfl)
    | (rw [hp.areI 300 0 (Nat.le_refl _)]; rfl)
    | (rw [hw.areI 1152 0 (Nat.le_refl _)]; rfl)
    | (simp only [Bool.and_eq_true, hf.part, hf.ok, hp.part, hp.ok, hw.part, hw.ok, decide_eq_true_eq, true_and, and_true]; omega)
theorem rwO0R (dead : Nat → Value) (h : Bool) (f p w : List At) : projS [0, 2, 4, 7, 13] [0, 2, 6, 7] (exec Tryz.prog KA1 Zl 400 (.code (c1 (c1 (c2 (c2 (bodyF Tryz.prog 147)))))) (Kst.st ⟨[(0, A0), (2, PX 2), (4, PX 6), (7, PX 7)], [(0, flag 58 h), (2, ⟨190, (0, 0), 0, f⟩), (6, ⟨62, (0, 0), 0, p⟩), (7, ⟨315, (0, 0), 0, w⟩)], 8⟩ 54 dead [])) = some (Ex.normal, [LV.v (V1.one (At.ptr 0 0)), LV.v (V1.one (At.ptx 2 0)), LV.v (V1.one (At.ptx 6 0)), LV.v (V1.one (At.ptx 7 0)), LV.v (V1.one (At.int IntKind.i64 0))], [some { ty := 58, fr := (0, 0), es := 0, cells := [At.bool h] }, some { ty := 190, fr := (0, 0), es := 0, cells := f }, some { ty := 62, fr := (0, 0), es := 0, cells := p }, some { ty := 315, fr := (0, 0), es := 0, cells := w }], []) := by kernel_rfl
theorem rwO0 (h : Bool) (f p w : List At) (hf : AllI f 576) (hp : AllI p 300) (hw : AllI w 1152) : ∃  (h' : Bool) (f' p' w' : List At), AllI f' 576 ∧ AllI p' 300 ∧ AllI w' 1152 ∧ To Tryz.prog 54 (c1 (c1 (c2 (c2 (bodyF Tryz.prog 147))))) ⟨[(0, A0), (2, PX 2), (4, PX 6), (7, PX 7)], [(0, flag 58 h), (2, ⟨190, (0, 0), 0, f⟩), (6, ⟨62, (0, 0), 0, p⟩), (7, ⟨315, (0, 0), 0, w⟩)], 8⟩ .normal ⟨[(0, A0), (2, PX 2), (4, PX 6), (7, PX 7), (13, IK 0)], [(0, flag 58 h'), (2, ⟨190, (0, 0), 0, f'⟩), (6, ⟨62, (0, 0), 0, p'⟩), (7, ⟨315, (0, 0), 0, w'⟩)], 8⟩ := by
  refine ⟨(h), (f), (p), (w), (by repeat' first | assumption | apply AllI.set | exact AllI.ints _ _ _ | exact AllI.mkF _ _ _ | exact zc24I | exact zc48I | exact zcWI | exact zcCov), (by repeat' first | assumption | apply AllI.set | exact AllI.ints _ _ _ | exact AllI.mkF _ _ _ | exact zc24I | exact zc48I | exact zcWI | exact zcCov), (by repeat' first | assumption | apply AllI.set | exact AllI.ints _ _ _ | exact AllI.mkF _ _ _ | exact zc24I | exact zc48I | exact zcWI | exact zcCov), To.run (z := Zl) soundKA1 (slots := [0, 2, 4, 7, 13]) (blks := [0, 2, 6, 7]) (vs := [A0, PX 2, PX 6, PX 7, IK 0]) (bs := [flag 58 (h), ⟨190, (0, 0), 0, f⟩, ⟨62, (0, 0), 0, p⟩, ⟨315, (0, 0), 0, w⟩]) (nbB := 8) (fun dead => rwO0R dead h f p w) rfl rfl rfl ?_ (kstOK_of rfl (memOKc (Nat.lt_of_sub_eq_succ rfl) rfl rfl (memOKc (Nat.lt_of_sub_eq_succ rfl) (AllI.okb (n := 576) (by repeat' first | assumption | apply AllI.set | exact AllI.ints _ _ _ | exact AllI.mkF _ _ _ | exact zc24I | exact zc48I | exact zcWI | exact zcCov) _) rfl (memOKc (Nat.lt_of_sub_eq_succ rfl) (AllI.okb (n := 300) (by repeat' first | assumption | apply AllI.set | exact AllI.ints _ _ _ | exact AllI.mkF _ _ _ | exact zc24I | exact zc48I | exact zcWI | exact zcCov) _) rfl (memOKc (Nat.lt_of_sub_eq_succ rfl) (AllI.okb (n := 1152) (by repeat' first | assumption | apply AllI.set | exact AllI.ints _ _ _ | exact AllI.mkF _ _ _ | exact zc24I | exact zc48I | exact zcWI | exact zcCov) _) rfl memOK0))))) (Nat.le_refl _)⟩
  have lnf := hf.len
  have lnp := hp.len
  have lnw := hw.len
  repeat' first | exact ae_nil | apply ae_cons
  all_goals first
    | (with_reducible refine decide_eq_true ?_; (try simp only [Int.toNat_natCast, List.length_set]); omega)
    | (with_reducible refine decide_eq_false ?_; omega)
    | (with_reducible refine AllI.ats (by assumption) _ ?_; simp only [Int.toNat_natCast]; omega)
    | (rw [hf.areI 576 0 (Nat.le_refl _)]; rfl)
    | (rw [hp.areI 300 0 (Nat.le_refl _)]; rfl)
    | (rw [hw.areI 1152 0 (Nat.le_refl _)]; rfl)
    | (simp only [Bool.and_eq_true, hf.part, hf.ok, hp.part, hp.ok, hw.part, hw.ok, decide_eq_true_eq, true_and, and_true]; omega)
theorem rwML (h : Bool) (f p w y : List At) (k : Nat) (hf : AllI f 576) (hp : AllI p 300) (hw : AllI w 1152) (hy : AllI y 24) (hk : k < 24) : ∃ (h' : Bool) (f' p' w' y' : List At), AllI f' 576 ∧ AllI p' 300 ∧ AllI w' 1152 ∧ AllI y' 24 ∧ To Tryz.prog 54 (c2 (c1 (c2 (c2 (c1 (c1 (c2 (c2 (c1 (c1 (c2 (c1 (c2 (c2 (bodyF Tryz.prog 147))))))))))))))) ⟨[(0, A0), (2, PX 2), (4, PX 6), (7, PX 7), (8, IK k), (9, PX 8), (13, IK k), (17, IK (k + 1)), (18, IK 0)], [(0, flag 58 h), (2, ⟨190, (0, 0), 0, f⟩), (6, ⟨62, (0, 0), 0, p⟩), (7, ⟨315, (0, 0), 0, w⟩), (8, ⟨29, (0, 0), 0, y⟩)], 9⟩ .normal ⟨[(0, A0), (2, PX 2), (4, PX 6), (7, PX 7), (8, IK k), (9, PX 8), (13, IK k)], [(0, flag 58 h'), (2, ⟨190, (0, 0), 0, f'⟩), (6, ⟨62, (0, 0), 0, p'⟩), (7, ⟨315, (0, 0), 0, w'⟩), (8, ⟨29, (0, 0), 0, y'⟩)], 9⟩ := by
  have round : ∀ (m : Nat) (s : Bool × List At × List At × List At × List At), m < k + 1 → (AllI s.2.1 576 ∧ AllI s.2.2.1 300 ∧ AllI s.2.2.2.1 1152 ∧ AllI s.2.2.2.2 24) → ∃ s' : Bool × List At × List At × List At × List At, (AllI s'.2.1 576 ∧ AllI s'.2.2.1 300 ∧ AllI s'.2.2.2.1 1152 ∧ AllI s'.2.2.2.2 24) ∧ To Tryz.prog 54 (c1 (c1 (c2 (c1 (c2 (c2 (c1 (c1 (c2 (c2 (c1 (c1 (c2 (c1 (c2 (c2 (bodyF Tryz.prog 147))))))))))))))))) ((fun (m : Nat) (s : Bool × List At × List At × List At × List At) => (⟨[(0, A0), (2, PX 2), (4, PX 6), (7, PX 7), (8, IK k), (9, PX 8), (13, IK k), (17, IK (k + 1)), (18, IK m)], [(0, flag 58 s.1), (2, ⟨190, (0, 0), 0, s.2.1⟩), (6, ⟨62, (0, 0), 0, s.2.2.1⟩), (7, ⟨315, (0, 0), 0, s.2.2.2.1⟩), (8, ⟨29, (0, 0), 0, s.2.2.2.2⟩)], 9⟩ : Kst)) m s) .normal ((fun (m : Nat) (s : Bool × List At × List At × List At × List At) => (⟨[(0, A0), (2, PX 2), (4, PX 6), (7, PX 7), (8, IK k), (9, PX 8), (13, IK k), (17, IK (k + 1)), (18, IK m)], [(0, flag 58 s.1), (2, ⟨190, (0, 0), 0, s.2.1⟩), (6, ⟨62, (0, 0), 0, s.2.2.1⟩), (7, ⟨315, (0, 0), 0, s.2.2.2.1⟩), (8, ⟨29, (0, 0), 0, s.2.2.2.2⟩)], 9⟩ : Kst)) (m + 1) s') := by
    rintro m ⟨h, f, p, w, y⟩ hlt ⟨k0, k1, k2, k3⟩
    obtain ⟨h', f', p', w', y', q0, q1, q2, q3, hT⟩ := rwM h f p w y k m k0 k1 k2 k3 hk hlt
    exact ⟨(h', f', p', w', y'), ⟨q0, q1, q2, q3⟩, hT⟩
  have last : ∀ (s : Bool × List At × List At × List At × List At), (AllI s.2.1 576 ∧ AllI s.2.2.1 300 ∧ AllI s.2.2.2.1 1152 ∧ AllI s.2.2.2.2 24) → ∃ s' : Bool × List At × List At × List At × List At, (AllI s'.2.1 576 ∧ AllI s'.2.2.1 300 ∧ AllI s'.2.2.2.1 1152 ∧ AllI s'.2.2.2.2 24) ∧ To Tryz.prog 54 (c1 (c1 (c2 (c1 (c2 (c2 (c1 (c1 (c2 (c2 (c1 (c1 (c2 (c1 (c2 (c2 (bodyF Tryz.prog 147))))))))))))))))) ((fun (m : Nat) (s : Bool × List At × List At × List At × List At) => (⟨[(0, A0), (2, PX 2), (4, PX 6), (7, PX 7), (8, IK k), (9, PX 8), (13, IK k), (17, IK (k + 1)), (18, IK m)], [(0, flag 58 s.1), (2, ⟨190, (0, 0), 0, s.2.1⟩), (6, ⟨62, (0, 0), 0, s.2.2.1⟩), (7, ⟨315, (0, 0), 0, s.2.2.2.1⟩), (8, ⟨29, (0, 0), 0, s.2.2.2.2⟩)], 9⟩ : Kst)) (k + 1) s) (.exit 2) ((fun (s : Bool × List At × List At × List At × List At) => (⟨[(0, A0), (2, PX 2), (4, PX 6), (7, PX 7), (8, IK k), (9, PX 8), (13, IK k)], [(0, flag 58 s.1), (2, ⟨190, (0, 0), 0, s.2.1⟩), (6, ⟨62, (0, 0), 0, s.2.2.1⟩), (7, ⟨315, (0, 0), 0, s.2.2.2.1⟩), (8, ⟨29, (0, 0), 0, s.2.2.2.2⟩)], 9⟩ : Kst)) s') := by
    rintro ⟨h, f, p, w, y⟩ ⟨k0, k1, k2, k3⟩
    obtain ⟨h', f', p', w', y', q0, q1, q2, q3, hT⟩ := rwMe h f p w y k k0 k1 k2 k3 
    exact ⟨(h', f', p', w', y'), ⟨q0, q1, q2, q3⟩, hT⟩
  obtain ⟨⟨h', f', p', w', y'⟩, ⟨q0, q1, q2, q3⟩, hT⟩ := loop_upE (id := 2) (by kernel_rfl) (by kernel_rfl) round last (h, f, p, w, y) ⟨hf, hp, hw, hy⟩
  exact ⟨h', f', p', w', y', q0, q1, q2, q3, hT⟩
theorem rwIL (h : Bool) (f p w y : List At) (k : Nat) (hf : AllI f 576) (hp : AllI p 300) (hw : AllI w 1152) (hy : AllI y 24) (hk : k < 24) : ∃ (h' : Bool) (f' p' w' y' : List At), AllI f' 576 ∧ AllI p' 300 ∧ AllI w' 1152 ∧ AllI y' 24 ∧ To Tryz.prog 54 (c2 (c2 (c2 (c2 (c1 (c1 (c2 (c2 (c1 (c1 (c2 (c1 (c2 (c2 (bodyF Tryz.prog 147))))))))))))))) ⟨[(0, A0), (2, PX 2), (4, PX 6), (7, PX 7), (8, IK k), (9, PX 8), (13, IK k), (28, IK 0)], [(0, flag 58 h), (2, ⟨190, (0, 0), 0, f⟩), (6, ⟨62, (0, 0), 0, p⟩), (7, ⟨315, (0, 0), 0, w⟩), (8, ⟨29, (0, 0), 0, y⟩)], 9⟩ .normal ⟨[(0, A0), (2, PX 2), (4, PX 6), (7, PX 7), (8, IK k), (9, PX 8), (13, IK k)], [(0, flag 58 h'), (2, ⟨190, (0, 0), 0, f'⟩), (6, ⟨62, (0, 0), 0, p'⟩), (7, ⟨315, (0, 0), 0, w'⟩), (8, ⟨29, (0, 0), 0, y'⟩)], 9⟩ := by
  have round : ∀ (i : Nat) (s : Bool × List At × List At × List At × List At), i < 24 → (AllI s.2.1 576 ∧ AllI s.2.2.1 300 ∧ AllI s.2.2.2.1 1152 ∧ AllI s.2.2.2.2 24) → ∃ s' : Bool × List At × List At × List At × List At, (AllI s'.2.1 576 ∧ AllI s'.2.2.1 300 ∧ AllI s'.2.2.2.1 1152 ∧ AllI s'.2.2.2.2 24) ∧ To Tryz.prog 54 (c1 (c1 (c2 (c2 (c2 (c2 (c1 (c1 (c2 (c2 (c1 (c1 (c2 (c1 (c2 (c2 (bodyF Tryz.prog 147))))))))))))))))) ((fun (i : Nat) (s : Bool × List At × List At × List At × List At) => (⟨[(0, A0), (2, PX 2), (4, PX 6), (7, PX 7), (8, IK k), (9, PX 8), (13, IK k), (28, IK i)], [(0, flag 58 s.1), (2, ⟨190, (0, 0), 0, s.2.1⟩), (6, ⟨62, (0, 0), 0, s.2.2.1⟩), (7, ⟨315, (0, 0), 0, s.2.2.2.1⟩), (8, ⟨29, (0, 0), 0, s.2.2.2.2⟩)], 9⟩ : Kst)) i s) .normal ((fun (i : Nat) (s : Bool × List At × List At × List At × List At) => (⟨[(0, A0), (2, PX 2), (4, PX 6), (7, PX 7), (8, IK k), (9, PX 8), (13, IK k), (28, IK i)], [(0, flag 58 s.1), (2, ⟨190, (0, 0), 0, s.2.1⟩), (6, ⟨62, (0, 0), 0, s.2.2.1⟩), (7, ⟨315, (0, 0), 0, s.2.2.2.1⟩), (8, ⟨29, (0, 0), 0, s.2.2.2.2⟩)], 9⟩ : Kst)) (i + 1) s') := by
    rintro i ⟨h, f, p, w, y⟩ hlt ⟨k0, k1, k2, k3⟩
    obtain ⟨h', f', p', w', y', q0, q1, q2, q3, hT⟩ := rwI h f p w y k i k0 k1 k2 k3 hk hlt
    exact ⟨(h', f', p', w', y'), ⟨q0, q1, q2, q3⟩, hT⟩
  have last : ∀ (s : Bool × List At × List At × List At × List At), (AllI s.2.1 576 ∧ AllI s.2.2.1 300 ∧ AllI s.2.2.2.1 1152 ∧ AllI s.2.2.2.2 24) → ∃ s' : Bool × List At × List At × List At × List At, (AllI s'.2.1 576 ∧ AllI s'.2.2.1 300 ∧ AllI s'.2.2.2.1 1152 ∧ AllI s'.2.2.2.2 24) ∧ To Tryz.prog 54 (c1 (c1 (c2 (c2 (c2 (c2 (c1 (c1 (c2 (c2 (c1 (c1 (c2 (c1 (c2 (c2 (bodyF Tryz.prog 147))))))))))))))))) ((fun (i : Nat) (s : Bool × List At × List At × List At × List At) => (⟨[(0, A0), (2, PX 2), (4, PX 6), (7, PX 7), (8, IK k), (9, PX 8), (13, IK k), (28, IK i)], [(0, flag 58 s.1), (2, ⟨190, (0, 0), 0, s.2.1⟩), (6, ⟨62, (0, 0), 0, s.2.2.1⟩), (7, ⟨315, (0, 0), 0, s.2.2.2.1⟩), (8, ⟨29, (0, 0), 0, s.2.2.2.2⟩)], 9⟩ : Kst)) (24) s) (.exit 4) ((fun (s : Bool × List At × List At × List At × List At) => (⟨[(0, A0), (2, PX 2), (4, PX 6), (7, PX 7), (8, IK k), (9, PX 8), (13, IK k)], [(0, flag 58 s.1), (2, ⟨190, (0, 0), 0, s.2.1⟩), (6, ⟨62, (0, 0), 0, s.2.2.1⟩), (7, ⟨315, (0, 0), 0, s.2.2.2.1⟩), (8, ⟨29, (0, 0), 0, s.2.2.2.2⟩)], 9⟩ : Kst)) s') := by
    rintro ⟨h, f, p, w, y⟩ ⟨k0, k1, k2, k3⟩
    obtain ⟨h', f', p', w', y', q0, q1, q2, q3, hT⟩ := rwIe h f p w y k k0 k1 k2 k3 
    exact ⟨(h', f', p', w', y'), ⟨q0, q1, q2, q3⟩, hT⟩
  obtain ⟨⟨h', f', p', w', y'⟩, ⟨q0, q1, q2, q3⟩, hT⟩ := loop_upE (id := 4) (by kernel_rfl) (by kernel_rfl) round last (h, f, p, w, y) ⟨hf, hp, hw, hy⟩
  exact ⟨h', f', p', w', y', q0, q1, q2, q3, hT⟩
theorem rwDL (h : Bool) (f p w : List At) (hf : AllI f 576) (hp : AllI p 300) (hw : AllI w 1152) : ∃ (h' : Bool) (f' p' w' : List At), AllI f' 576 ∧ AllI p' 300 ∧ AllI w' 1152 ∧ To Tryz.prog 54 (c2 (c1 (c2 (c2 (c2 (bodyF Tryz.prog 147)))))) ⟨[(0, A0), (2, PX 2), (4, PX 6), (7, PX 7), (45, IK 0)], [(0, flag 58 h), (2, ⟨190, (0, 0), 0, f⟩), (6, ⟨62, (0, 0), 0, p⟩), (7, ⟨315, (0, 0), 0, w⟩)], 8⟩ .normal ⟨[(0, A0), (2, PX 2), (4, PX 6), (7, PX 7)], [(0, flag 58 h'), (2, ⟨190, (0, 0), 0, f'⟩), (6, ⟨62, (0, 0), 0, p'⟩), (7, ⟨315, (0, 0), 0, w'⟩)], 8⟩ := by
  have round : ∀ (i : Nat) (s : Bool × List At × List At × List At), i < 24 → (AllI s.2.1 576 ∧ AllI s.2.2.1 300 ∧ AllI s.2.2.2 1152) → ∃ s' : Bool × List At × List At × List At, (AllI s'.2.1 576 ∧ AllI s'.2.2.1 300 ∧ AllI s'.2.2.2 1152) ∧ To Tryz.prog 54 (c1 (c1 (c2 (c1 (c2 (c2 (c2 (bodyF Tryz.prog 147)))))))) ((fun (i : Nat) (s : Bool × List At × List At × List At) => (⟨[(0, A0), (2, PX 2), (4, PX 6), (7, PX 7), (45, IK i)], [(0, flag 58 s.1), (2, ⟨190, (0, 0), 0, s.2.1⟩), (6, ⟨62, (0, 0), 0, s.2.2.1⟩), (7, ⟨315, (0, 0), 0, s.2.2.2⟩)], 8⟩ : Kst)) i s) .normal ((fun (i : Nat) (s : Bool × List At × List At × List At) => (⟨[(0, A0), (2, PX 2), (4, PX 6), (7, PX 7), (45, IK i)], [(0, flag 58 s.1), (2, ⟨190, (0, 0), 0, s.2.1⟩), (6, ⟨62, (0, 0), 0, s.2.2.1⟩), (7, ⟨315, (0, 0), 0, s.2.2.2⟩)], 8⟩ : Kst)) (i + 1) s') := by
    rintro i ⟨h, f, p, w⟩ hlt ⟨k0, k1, k2⟩
    obtain ⟨h', f', p', w', q0, q1, q2, hT⟩ := rwD h f p w  i k0 k1 k2  hlt
    exact ⟨(h', f', p', w'), ⟨q0, q1, q2⟩, hT⟩
  have last : ∀ (s : Bool × List At × List At × List At), (AllI s.2.1 576 ∧ AllI s.2.2.1 300 ∧ AllI s.2.2.2 1152) → ∃ s' : Bool × List At × List At × List At, (AllI s'.2.1 576 ∧ AllI s'.2.2.1 300 ∧ AllI s'.2.2.2 1152) ∧ To Tryz.prog 54 (c1 (c1 (c2 (c1 (c2 (c2 (c2 (bodyF Tryz.prog 147)))))))) ((fun (i : Nat) (s : Bool × List At × List At × List At) => (⟨[(0, A0), (2, PX 2), (4, PX 6), (7, PX 7), (45, IK i)], [(0, flag 58 s.1), (2, ⟨190, (0, 0), 0, s.2.1⟩), (6, ⟨62, (0, 0), 0, s.2.2.1⟩), (7, ⟨315, (0, 0), 0, s.2.2.2⟩)], 8⟩ : Kst)) (24) s) (.exit 6) ((fun (s : Bool × List At × List At × List At) => (⟨[(0, A0), (2, PX 2), (4, PX 6), (7, PX 7)], [(0, flag 58 s.1), (2, ⟨190, (0, 0), 0, s.2.1⟩), (6, ⟨62, (0, 0), 0, s.2.2.1⟩), (7, ⟨315, (0, 0), 0, s.2.2.2⟩)], 8⟩ : Kst)) s') := by
    rintro ⟨h, f, p, w⟩ ⟨k0, k1, k2⟩
    obtain ⟨h', f', p', w', q0, q1, q2, hT⟩ := rwDe h f p w  k0 k1 k2 
    exact ⟨(h', f', p', w'), ⟨q0, q1, q2⟩, hT⟩
  obtain ⟨⟨h', f', p', w'⟩, ⟨q0, q1, q2⟩, hT⟩ := loop_upE (id := 6) (by kernel_rfl) (by kernel_rfl) round last (h, f, p, w) ⟨hf, hp, hw⟩
  exact ⟨h', f', p', w', q0, q1, q2, hT⟩
end Go.Proofs.YthbkhoknlbomgaaGreat

/- A function that hands out a new block, off a walk in pieces: its summary's promise. -/
set_option linter.unusedVariables false
namespace Go.Lr
open Go.RowKit
theorem gen_new {P : Program} {f : FuncId} (ho : Own P f) {args : List LV} {seen : List Nat} {ks : List Blk} {g : Nat → Option Blk} {p : Nat → Bool} {nb : Nat} {E : Env} {w : World} {v0 : LV} {j : Nat} {bw : Blk} {B : Kst} {wr : List (Nat × Option Blk)}
    (hl : liveAll g seen = some ks) (hrel : Rel E g w) (hg : ∀ i c, g i = some c → p i = true ∧ okL p c.cells = true) (hpn : p nb = false) (hlt : ∀ i ∈ seen, i < nb)
    (hC : Calls P f (args.map (LV.den E)).toArray w fun e w' => ∃ Eo, e = .returned (v0.den Eo) ∧ MRel Eo B.ms w' ∧ Ext w E (Kst.ms ⟨argsL 0 args, zipM seen ks, nb⟩) w' Eo B.ms)
    (hv : ∀ E : Env, v0.den E = .pointer (some ⟨(E j).1, (E j).pre.length, none⟩)) (hj : getM B.mem j = some bw) (hjn : nb ≤ j) (hbw : okL noP bw.cells = true)
    (hw : ∀ i b, wrG g wr i = some b → (i ∈ seen ∧ getM B.mem i = some b ∧ okL noP b.cells = true) ∨ (i ∉ seen ∧ g i = some b)) (hw2 : ∀ i, (wrG g wr i).isSome → (g i).isSome) :
    CallOK P f (args.map (LV.den E)).toArray w fun u w' => ∃ E', u = (LV.v (.one (.ptr nb 0))).den E' ∧ Post w E g nb ⟨.v (.one (.ptr nb 0)), wr, [bw], [], []⟩ E' w' := by
  obtain ⟨fn, h1, h2, h3⟩ := ho
  refine .inl ⟨fn, h1, h2, h3, hC.mono ?_⟩
  rintro e w' ⟨Eo, rfl, hm, hx⟩
  have hgn : g nb = none := by
    cases h : g nb with
    | none => rfl
    | some c => have := (hg nb c h).1; rw [hpn] at this; cases this
  have key : ∀ q, (getM (zipM seen ks) q).isSome → q ∈ seen ∧ (g q).isSome := by
    intro q hq
    rw [getM_zipM hl] at hq
    by_cases t : q ∈ seen
    · rw [if_pos t] at hq; exact ⟨t, hq⟩
    · rw [if_neg t] at hq; cases hq
  have hagr : ∀ i, i < nb → Eo i = E i := hx.agree
  have hsrc : ∀ i, (getM B.mem i).isSome → w.heap.size ≤ (Eo i).1 ∨ ∃ q, q ∈ seen ∧ (g q).isSome ∧ (Eo i).1 = (E q).1 := by
    intro i hi
    rcases hx.src i hi with h | ⟨q, hq, he⟩
    · exact .inl h
    · exact .inr ⟨q, (key q hq).1, (key q hq).2, he⟩
  have hsz : ∀ i b, g i = some b → (E i).1 < w.heap.size := fun i b hi => by
    obtain ⟨r, u1, -⟩ := hrel.blk i b hi
    exact (Array.getElem?_eq_some_iff.1 u1).1
  refine ⟨_, rfl, fun i => if i = nb then Eo j else E i, by rw [hv]; simp [LV.den, V1.den, At.den], ?_⟩
  have hEn : ∀ i, i ≠ nb → (fun i => if i = nb then Eo j else E i) i = E i := fun i hi => by simp [hi]
  have hfar : ∀ i b, wrG g wr i = some b → (Eo j).1 ≠ (E i).1 := by
    intro i b hib he
    rcases hw i b hib with ⟨a1, a2, a3⟩ | ⟨a1, a2⟩
    · have : j = i := hm.rel.inj j i (by show (getM B.mem j).isSome; rw [hj]; rfl) (by show (getM B.mem i).isSome; rw [a2]; rfl) (by rw [hagr i (hlt i a1)]; exact he)
      have := hlt i a1
      omega
    · rcases hsrc j (by rw [hj]; rfl) with h | ⟨q, q1, q2, q3⟩
      · have := hsz i b a2; omega
      · have := hrel.inj q i q2 (by rw [a2]; rfl) (by rw [← q3, he])
        exact a1 (this ▸ q1)
  refine ⟨fun i hi => ?_, ⟨fun i b hib => ?_, fun i k hi hk he => ?_⟩, hx.os, hx.tape, hx.output, hx.size, fun b hb hne => hx.frame b hb fun i hi => ?_, fun i i1 i2 => ?_⟩
  · simp at hi
    exact hEn i (by omega)
  · simp only [nwG] at hib
    by_cases hin : i = nb
    · subst hin
      rw [if_pos rfl] at hib
      cases hib
      exact blkAt_ren (E := Eo) (i := j) hbw (by simp) (hm.rel.blk j _ hj)
    · rw [if_neg hin] at hib
      rcases hw i b hib with ⟨a1, a2, a3⟩ | ⟨a1, a2⟩
      · refine blkAt_ren (E := Eo) (i := i) a3 ?_ (hm.rel.blk i _ a2)
        rw [if_neg hin, hagr i (hlt i a1)]
      · obtain ⟨r, u1, u2, u3⟩ := hrel.blk i b a2
        refine ⟨r, ?_, u2, fun hz => by rw [hEn i hin]; exact u3 hz⟩
        rw [hEn i hin, hx.frame _ (hsz i b a2) fun q hq hqe => ?_]
        · rw [u1, denL_congr (E := E) (E' := fun i => if i = nb then Eo j else E i) (p := p) (fun t ht => hEn t fun e => by rw [e, hpn] at ht; cases ht) (hg i b a2).2]
        · obtain ⟨s1, s2⟩ := key q hq
          have := hrel.inj q i s2 (by rw [a2]; rfl) hqe
          exact a1 (this ▸ s1)
  · simp only [nwG] at hi hk
    by_cases hin : i = nb
    · by_cases hkn : k = nb
      · rw [hin, hkn]
      · rw [if_neg hkn] at hk
        obtain ⟨b, hb⟩ := Option.isSome_iff_exists.1 hk
        simp only [hin, if_true, if_neg hkn] at he
        exact absurd he (hfar k b hb)
    · rw [if_neg hin] at hi
      obtain ⟨b, hb⟩ := Option.isSome_iff_exists.1 hi
      by_cases hkn : k = nb
      · simp only [hkn, if_true, if_neg hin] at he
        exact absurd he.symm (hfar i b hb)
      · rw [if_neg hkn] at hk
        simp only [if_neg hin, if_neg hkn] at he
        exact hrel.inj i k (hw2 i hi) (hw2 k hk) he
  · exact hne i (key i hi).2
  · simp at i2
    have : i = nb := by omega
    subst this
    simp only [if_true]
    rcases hsrc j (by rw [hj]; rfl) with h | ⟨q, q1, q2, q3⟩
    · exact .inl h
    · exact .inr ⟨q, q2, q3⟩
end Go.Lr

/- thornton.rows: the whole, and its summary where thornton.Step calls it. -/
namespace Go.Proofs.YthbkhoknlbomgaaGreat
open Go.Lr
set_option linter.unusedVariables false
set_option linter.unusedSimpArgs false
set_option maxRecDepth 20000
noncomputable abbrev rwB : Code := bodyF Tryz.prog 147
theorem rwM4 {h : Bool} {f p w : List At} {nb : Nat} (hnb : 8 ≤ nb) (hf : AllI f 576) (hp : AllI p 300) (hw : AllI w 1152) : memOKb nb [(0, flag 58 h), (2, ⟨190, (0, 0), 0, f⟩), (6, ⟨62, (0, 0), 0, p⟩), (7, ⟨315, (0, 0), 0, w⟩)] = true :=
  memOKc (by omega) rfl rfl (memOKc (by omega) (hf.okb _) rfl (memOKc (by omega) (hp.okb _) rfl (memOKc (by omega) (hw.okb _) rfl memOK0)))
theorem rwM5 {h : Bool} {f p w y : List At} (hf : AllI f 576) (hp : AllI p 300) (hw : AllI w 1152) (hy : AllI y 24) : memOKb 9 [(0, flag 58 h), (2, ⟨190, (0, 0), 0, f⟩), (6, ⟨62, (0, 0), 0, p⟩), (7, ⟨315, (0, 0), 0, w⟩), (8, ⟨29, (0, 0), 0, y⟩)] = true :=
  memOKc (by omega) rfl rfl (memOKc (by omega) (hf.okb _) rfl (memOKc (by omega) (hp.okb _) rfl (memOKc (by omega) (hw.okb _) rfl (memOKc (by omega) (hy.okb _) rfl memOK0))))
theorem rwO (h : Bool) (f p w : List At) (k : Nat) (hf : AllI f 576) (hp : AllI p 300) (hw : AllI w 1152) (hk : k < 24) : ∃ (h' : Bool) (f' p' w' : List At), AllI f' 576 ∧ AllI p' 300 ∧ AllI w' 1152 ∧ To Tryz.prog 54 (c1 (c1 (c2 (c1 (c2 (c2 rwB)))))) ⟨[(0, A0), (2, PX 2), (4, PX 6), (7, PX 7), (13, IK k)], [(0, flag 58 h), (2, ⟨190, (0, 0), 0, f⟩), (6, ⟨62, (0, 0), 0, p⟩), (7, ⟨315, (0, 0), 0, w⟩)], 8⟩ .normal ⟨[(0, A0), (2, PX 2), (4, PX 6), (7, PX 7), (13, IK (k + 1))], [(0, flag 58 h'), (2, ⟨190, (0, 0), 0, f'⟩), (6, ⟨62, (0, 0), 0, p'⟩), (7, ⟨315, (0, 0), 0, w'⟩)], 8⟩ := by
  obtain ⟨h1, f1, p1, w1, a1, a2, a3, t1⟩ := rwH h f p w k hf hp hw hk
  obtain ⟨h2, f2, p2, w2, y2, b1, b2, b3, b4, t2⟩ := rwA h1 f1 p1 w1 k a1 a2 a3
  obtain ⟨h3, f3, p3, w3, y3, d1, d2, d3, d4, t3⟩ := rwS h2 f2 p2 w2 y2 k b1 b2 b3 b4 hk
  obtain ⟨h4, f4, p4, w4, y4, e1, e2, e3, e4, t4⟩ := rwML h3 f3 p3 w3 y3 k d1 d2 d3 d4 hk
  obtain ⟨h5, f5, p5, w5, y5, g1, g2, g3, g4, t5⟩ := rwS2 h4 f4 p4 w4 y4 k e1 e2 e3 e4
  obtain ⟨h6, f6, p6, w6, y6, i1, i2, i3, i4, t6⟩ := rwIL h5 f5 p5 w5 y5 k g1 g2 g3 g4 hk
  obtain ⟨h7, f7, p7, w7, j1, j2, j3, t7⟩ := rwN h6 f6 p6 w6 y6 k i1 i2 i3 i4 hk
  refine ⟨h7, f7, p7, w7, j1, j2, j3, To.lower (t1 _ _ (To.seq (by kernel_rfl) (To.block (id := 1) (by kernel_rfl) (t2 _ _ (To.pre (To.seq (by kernel_rfl) (To.seq (by kernel_rfl) t3 t4) (To.seq (by kernel_rfl) t5 t6)) (kstOK_of rfl (rwM5 b1 b2 b3 b4)) (fun q hq => ?_) rfl rfl)) (.inr rfl)) t7)) (Nat.le_refl _) (kstOK_of rfl (rwM4 (Nat.le_refl _) j1 j2 j3))⟩
  simp only [List.mem_cons, List.not_mem_nil, or_false] at hq
  rcases hq with rfl | rfl | rfl | rfl | rfl | rfl | rfl
  · exact ⟨A0, by simp, fun _ => rfl⟩
  · exact ⟨PX 2, by simp, fun _ => rfl⟩
  · exact ⟨PX 6, by simp, fun _ => rfl⟩
  · exact ⟨PX 7, by simp, fun _ => rfl⟩
  · exact ⟨IK k, by simp, fun _ => rfl⟩
  · exact ⟨PP 8, by simp, fun _ => rfl⟩
  · exact ⟨IK k, by simp, fun _ => rfl⟩
theorem rwOL (h : Bool) (f p w : List At) (hf : AllI f 576) (hp : AllI p 300) (hw : AllI w 1152) : ∃ (h' : Bool) (f' p' w' : List At), AllI f' 576 ∧ AllI p' 300 ∧ AllI w' 1152 ∧ To Tryz.prog 54 (c2 (c1 (c2 (c2 (bodyF Tryz.prog 147))))) ⟨[(0, A0), (2, PX 2), (4, PX 6), (7, PX 7), (13, IK 0)], [(0, flag 58 h), (2, ⟨190, (0, 0), 0, f⟩), (6, ⟨62, (0, 0), 0, p⟩), (7, ⟨315, (0, 0), 0, w⟩)], 8⟩ .normal ⟨[(0, A0), (2, PX 2), (4, PX 6), (7, PX 7)], [(0, flag 58 h'), (2, ⟨190, (0, 0), 0, f'⟩), (6, ⟨62, (0, 0), 0, p'⟩), (7, ⟨315, (0, 0), 0, w'⟩)], 8⟩ := by
  have round : ∀ (k : Nat) (s : Bool × List At × List At × List At), k < 24 → (AllI s.2.1 576 ∧ AllI s.2.2.1 300 ∧ AllI s.2.2.2 1152) → ∃ s' : Bool × List At × List At × List At, (AllI s'.2.1 576 ∧ AllI s'.2.2.1 300 ∧ AllI s'.2.2.2 1152) ∧ To Tryz.prog 54 (c1 (c1 (c2 (c1 (c2 (c2 (bodyF Tryz.prog 147))))))) ((fun (k : Nat) (s : Bool × List At × List At × List At) => (⟨[(0, A0), (2, PX 2), (4, PX 6), (7, PX 7), (13, IK k)], [(0, flag 58 s.1), (2, ⟨190, (0, 0), 0, s.2.1⟩), (6, ⟨62, (0, 0), 0, s.2.2.1⟩), (7, ⟨315, (0, 0), 0, s.2.2.2⟩)], 8⟩ : Kst)) k s) .normal ((fun (k : Nat) (s : Bool × List At × List At × List At) => (⟨[(0, A0), (2, PX 2), (4, PX 6), (7, PX 7), (13, IK k)], [(0, flag 58 s.1), (2, ⟨190, (0, 0), 0, s.2.1⟩), (6, ⟨62, (0, 0), 0, s.2.2.1⟩), (7, ⟨315, (0, 0), 0, s.2.2.2⟩)], 8⟩ : Kst)) (k + 1) s') := by
    rintro k ⟨h, f, p, w⟩ hlt ⟨k0, k1, k2⟩
    obtain ⟨h', f', p', w', q0, q1, q2, hT⟩ := rwO h f p w  k k0 k1 k2  hlt
    exact ⟨(h', f', p', w'), ⟨q0, q1, q2⟩, hT⟩
  have last : ∀ (s : Bool × List At × List At × List At), (AllI s.2.1 576 ∧ AllI s.2.2.1 300 ∧ AllI s.2.2.2 1152) → ∃ s' : Bool × List At × List At × List At, (AllI s'.2.1 576 ∧ AllI s'.2.2.1 300 ∧ AllI s'.2.2.2 1152) ∧ To Tryz.prog 54 (c1 (c1 (c2 (c1 (c2 (c2 (bodyF Tryz.prog 147))))))) ((fun (k : Nat) (s : Bool × List At × List At × List At) => (⟨[(0, A0), (2, PX 2), (4, PX 6), (7, PX 7), (13, IK k)], [(0, flag 58 s.1), (2, ⟨190, (0, 0), 0, s.2.1⟩), (6, ⟨62, (0, 0), 0, s.2.2.1⟩), (7, ⟨315, (0, 0), 0, s.2.2.2⟩)], 8⟩ : Kst)) (24) s) (.exit 0) ((fun (s : Bool × List At × List At × List At) => (⟨[(0, A0), (2, PX 2), (4, PX 6), (7, PX 7)], [(0, flag 58 s.1), (2, ⟨190, (0, 0), 0, s.2.1⟩), (6, ⟨62, (0, 0), 0, s.2.2.1⟩), (7, ⟨315, (0, 0), 0, s.2.2.2⟩)], 8⟩ : Kst)) s') := by
    rintro ⟨h, f, p, w⟩ ⟨k0, k1, k2⟩
    obtain ⟨h', f', p', w', q0, q1, q2, hT⟩ := rwHe h f p w  k0 k1 k2 
    exact ⟨(h', f', p', w'), ⟨q0, q1, q2⟩, hT⟩
  obtain ⟨⟨h', f', p', w'⟩, ⟨q0, q1, q2⟩, hT⟩ := loop_upE (id := 0) (by kernel_rfl) (by kernel_rfl) round last (h, f, p, w) ⟨hf, hp, hw⟩
  exact ⟨h', f', p', w', q0, q1, q2, hT⟩
theorem rwS0 (dead : Nat → Value) (h : Bool) (f p : List At) : projS [0, 2, 4, 7] [0, 2, 6, 7] (execL Tryz.prog KA1 Zl 400 (spineL 2 rwB) (Kst.st ⟨argsL 0 [A0, .v (.agg (intsAt p 0 300)), PP 2], [(2, ⟨190, (0, 0), 0, f⟩), (0, flag 58 h)], 6⟩ 54 dead [])) = some (.normal, [A0, PP 2, PP 6, PP 7], [some (flag 58 h), some ⟨190, (0, 0), 0, f⟩, some ⟨62, (0, 0), 0, intsAt p 0 300⟩, some ⟨315, (0, 0), 0, zc 315⟩], []) := by kernel_rfl
theorem rwZ (dead : Nat → Value) (h : Bool) (f p w : List At) : projS [6] [0, 2, 7] (exec Tryz.prog KA1 Zl 400 (.code (c2 (c2 (c2 (c2 rwB))))) (Kst.st ⟨[(0, A0), (2, PX 2), (4, PX 6), (7, PX 7)], [(0, flag 58 h), (2, ⟨190, (0, 0), 0, f⟩), (6, ⟨62, (0, 0), 0, p⟩), (7, ⟨315, (0, 0), 0, w⟩)], 8⟩ 54 dead [])) = some (.ret, [PX 7], [some (flag 58 h), some ⟨190, (0, 0), 0, f⟩, some ⟨315, (0, 0), 0, w⟩], []) := by kernel_rfl
theorem rwTo (h : Bool) (f p : List At) (hf : AllI f 576) (hp : AllI p 300) : ∃ (h' : Bool) (f' w' : List At), AllI f' 576 ∧ AllI w' 1152 ∧ To Tryz.prog 54 rwB ⟨argsL 0 [A0, .v (.agg (intsAt p 0 300)), PP 2], [(2, ⟨190, (0, 0), 0, f⟩), (0, flag 58 h)], 6⟩ .ret ⟨[(6, PX 7)], [(0, flag 58 h'), (2, ⟨190, (0, 0), 0, f'⟩), (7, ⟨315, (0, 0), 0, w'⟩)], 8⟩ := by
  have hp0 := AllI.ints p 0 300
  obtain ⟨h1, f1, p1, w1, a1, a2, a3, t1⟩ := rwO0 h f (intsAt p 0 300) (zc 315) hf hp0 zcWI
  obtain ⟨h2, f2, p2, w2, b1, b2, b3, t2⟩ := rwOL h1 f1 p1 w1 a1 a2 a3
  obtain ⟨h3, f3, p3, w3, d1, d2, d3, t3⟩ := rwF0 h2 f2 p2 w2 b1 b2 b3
  obtain ⟨h4, f4, p4, w4, e1, e2, e3, t4⟩ := rwDL h3 f3 p3 w3 d1 d2 d3
  refine ⟨h4, f4, w4, e1, e3, To.spine (z := Zl) soundKA1 (k := 2) (slots := [0, 2, 4, 7]) (blks := [0, 2, 6, 7]) (vs := [A0, PP 2, PP 6, PP 7]) (bs := [flag 58 h, ⟨190, (0, 0), 0, f⟩, ⟨62, (0, 0), 0, intsAt p 0 300⟩, ⟨315, (0, 0), 0, zc 315⟩]) (nbB := 8) (by kernel_rfl) (fun dead => rwS0 dead h f p) ae_nil (kstOK_of rfl (rwM4 (Nat.le_refl _) hf hp0 zcWI)) (Nat.le_of_ble_eq_true rfl) (To.pre (To.seq (by kernel_rfl) (To.seq (by kernel_rfl) t1 t2) (To.seq (by kernel_rfl) (To.seq (by kernel_rfl) t3 t4) (To.exec (z := Zl) soundKA1 (slots := [6]) (blks := [0, 2, 7]) (vs := [PX 7]) (bs := [flag 58 h4, ⟨190, (0, 0), 0, f4⟩, ⟨315, (0, 0), 0, w4⟩]) (nbB := 8) (fun dead => rwZ dead h4 f4 p4 w4) ae_nil (kstOK_of rfl (memOKc (Nat.le_of_ble_eq_true rfl) rfl rfl (memOKc (Nat.le_of_ble_eq_true rfl) (e1.okb _) rfl (memOKc (Nat.le_of_ble_eq_true rfl) (e3.okb _) rfl memOK0)))) (Nat.le_refl _)))) (kstOK_of rfl (rwM4 (Nat.le_refl _) hf hp0 zcWI)) (fun q hq => ?_) rfl rfl)⟩
  simp only [List.mem_cons, List.not_mem_nil, or_false] at hq
  rcases hq with rfl | rfl | rfl | rfl
  · exact ⟨A0, by simp, fun _ => rfl⟩
  · exact ⟨PP 2, by simp, fun _ => rfl⟩
  · exact ⟨PP 6, by simp, fun _ => rfl⟩
  · exact ⟨PP 7, by simp, fun _ => rfl⟩
end Go.Proofs.YthbkhoknlbomgaaGreat

/- thornton.rows: its summary where thornton.Step calls it. -/
namespace Go.Proofs.YthbkhoknlbomgaaGreat
open Go.Lr Go.RowKit
set_option linter.unusedVariables false
set_option linter.unusedSimpArgs false
set_option maxRecDepth 20000
def rowP (p f : List At) (h : Bool) (q : List At × List At × Bool) : Prop :=
  AllI q.1 576 ∧ AllI q.2.1 1152 ∧ To Tryz.prog 54 rwB ⟨argsL 0 [A0, .v (.agg (intsAt p 0 300)), PP 2], [(2, ⟨190, (0, 0), 0, f⟩), (0, flag 58 h)], 6⟩ .ret ⟨[(6, PX 7)], [(0, flag 58 q.2.2), (2, ⟨190, (0, 0), 0, q.1⟩), (7, ⟨315, (0, 0), 0, q.2.1⟩)], 8⟩
noncomputable def rowQ (p f : List At) (h : Bool) : List At × List At × Bool := @Classical.epsilon _ ⟨([], [], false)⟩ (rowP p f h)
theorem rowQ_ok {p f : List At} (h : Bool) (hf : AllI f 576) (hp : AllI p 300) : rowP p f h (rowQ p f h) := by
  obtain ⟨h', f', w', a1, a2, a3⟩ := rwTo h f p hf hp
  exact @Classical.epsilon_spec_aux _ ⟨([], [], false)⟩ (rowP p f h) ⟨(f', w', h'), a1, a2, a3⟩
noncomputable def rowS : List LV → List Nat → List Blk → Nat → Option Dl
  | [.v (.one (.ptr 0 0)), .v (.agg p), .v (.one (.ptr 2 0))], [2, 0], [⟨tm, (0, 0), 0, f⟩, ⟨ta, (0, 0), 0, [.bool h]⟩], 6 => match Nat.beq tm 190, Nat.beq ta 58, allIB p 300, allIB f 576 with
    | true, true, true, true => some ⟨.v (.one (.ptr 6 0)), [(2, some ⟨190, (0, 0), 0, mkI (intAt (rowQ p f h).1) 0 576⟩), (0, some (flag 58 (rowQ p f h).2.2))], [⟨315, (0, 0), 0, mkI (intAt (rowQ p f h).2.1) 0 1152⟩], [], []⟩
    | _, _, _, _ => none
  | _, _, _, _ => none
theorem genRow : GenOK Tryz.prog 147 rowS := by
  intro args seen ks g nb p' d E w hl hd hnd hc hrel hg hargs hn
  unfold rowS at hd
  split at hd
  · rename_i p tm f ta h
    split at hd
    · rename_i q1 q2 q3 q4
      cases hd
      rw [nbeq] at q1 q2
      simp only [decide_eq_true_eq] at q1 q2
      subst q1 q2
      have hp := allIB_ok q3
      have hf := allIB_ok q4
      obtain ⟨r1, r2, r3⟩ := rowQ_ok h hf hp
      generalize rowQ p f h = q at *
      obtain ⟨f', w', h'⟩ := q
      simp only at r1 r2 r3 hn ⊢
      rw [mkI_ints, mkI_ints, ← r1.eq, ← r2.eq]
      have hpn : p' 6 = false := hn 6 (Nat.le_refl _) (by simp)
      have e0 : ([LV.v (.one (.ptr 0 0)), .v (.agg p), .v (.one (.ptr 2 0))] : List LV) = [A0, .v (.agg (intsAt p 0 300)), PP 2] := by rw [← hp.eq]; rfl
      have hz : zipM [2, 0] [⟨190, (0, 0), 0, f⟩, ⟨58, (0, 0), 0, [.bool h]⟩] = [(2, ⟨190, (0, 0), 0, f⟩), (0, flag 58 h)] := rfl
      have hrelM : Rel E (getM [(2, ⟨190, (0, 0), 0, f⟩), (0, flag 58 h)]) w := by
        rw [← hz]
        refine hrel.sub fun i b hib => ?_
        rw [getM_zipM hl] at hib
        split at hib
        · exact hib
        · cases hib
      have hmk : memOKb 6 [(2, ⟨190, (0, 0), 0, f⟩), (0, flag 58 h)] = true := memOKc (Nat.le_of_ble_eq_true rfl) (hf.okb _) rfl (memOKc (Nat.le_of_ble_eq_true rfl) rfl rfl memOK0)
      obtain ⟨m1, m2⟩ := memOKb_ok hmk
      have hC := calls_of_To (P := Tryz.prog) (f := 147) (c := rwB) (v := PX 7) (nb := 6) (args := [A0, .v (.agg (intsAt p 0 300)), PP 2]) Tryz.func147 (by kernel_rfl) (Nat.le_of_ble_eq_true (by kernel_rfl)) (Nat.le_of_ble_eq_true (by kernel_rfl)) (fun u hu => by
        simp only [List.mem_cons, List.not_mem_nil, or_false] at hu
        rcases hu with rfl | rfl | rfl
        · rfl
        · exact (AllI.ints p 0 300).okb 6
        · rfl) m1 m2 r3 (.inr rfl) (fun dead => by kernel_rfl) E w hrelM
      rw [e0]
      refine gen_new (own_of soundKA1 Tryz.func147 (by kernel_rfl)) (v0 := PX 7) (j := 7) hl hrel hg hpn (fun i hi => ?_) (nb := 6) (B := ⟨[(6, PX 7)], [(0, flag 58 h'), (2, ⟨190, (0, 0), 0, f'⟩), (7, ⟨315, (0, 0), 0, w'⟩)], 8⟩) (by rw [hz]; exact hC) (fun E => by simp [PX, LV.den, V1.den, At.den]) rfl (Nat.le_of_ble_eq_true rfl) r2.ok (fun i b hib => ?_) (fun i hi => ?_)
      · simp only [List.mem_cons, List.not_mem_nil, or_false] at hi
        rcases hi with rfl | rfl <;> decide
      · simp only [wrG] at hib
        by_cases h0 : i = 0
        · subst h0
          rw [if_pos rfl] at hib
          cases hib
          exact .inl ⟨by simp, rfl, rfl⟩
        · rw [if_neg h0] at hib
          by_cases h2 : i = 2
          · subst h2
            rw [if_pos rfl] at hib
            cases hib
            exact .inl ⟨by simp, rfl, r1.ok⟩
          · rw [if_neg h2] at hib
            exact .inr ⟨by simp [h0, h2], hib⟩
      · simp only [wrG] at hi
        by_cases h0 : i = 0
        · subst h0; exact liveAll_some hl 0 (by simp)
        · rw [if_neg h0] at hi
          by_cases h2 : i = 2
          · subst h2; exact liveAll_some hl 2 (by simp)
          · rw [if_neg h2] at hi; exact hi
    · cases hd
  · cases hd
noncomputable def KA2 : FuncId → Option SumK := moreG KA1 147 rowS
theorem soundKA2 : Sound Tryz.prog KA2 := soundKA1.moreG genRow
end Go.Proofs.YthbkhoknlbomgaaGreat
