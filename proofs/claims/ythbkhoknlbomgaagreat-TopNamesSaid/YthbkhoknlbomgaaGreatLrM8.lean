/- Joined texts. What each part proves stands ahead of it; no condition. -/
import Derived.Test.YthbkhoknlbomgaaGreatLrM7
import Derived.Test.YthbkhoknlbomgaaGreatLrM5
import Derived.Test.YthbkhoknlbomgaaGreatLrM3

/- Summaries by formula, of functions that are handed one block and plain values; summaries by all blocks, the one or else the other. -/
set_option linter.unusedVariables false
namespace Go.Lr
open Go.RowKit
section
variable {P : Program} {S : FuncId → Option SumK} {z : Md}
end
def orGen (s1 s2 : List LV → List Nat → List Blk → Nat → Option Dl) : List LV → List Nat → List Blk → Nat → Option Dl := fun args seen ks nb =>
  match s1 args seen ks nb with
  | some d => some d
  | none => s2 args seen ks nb
theorem orGen_ok {P : Program} {f : FuncId} {s1 s2 : List LV → List Nat → List Blk → Nat → Option Dl} (h1 : GenOK P f s1) (h2 : GenOK P f s2) : GenOK P f (orGen s1 s2) := by
  intro args seen ks g nb p d E w hl hd hnd hcs hrel hg hargs hn
  unfold orGen at hd
  split at hd
  · rename_i d' hd'
    cases hd
    exact h1 args seen ks g nb p _ E w hl hd' hnd hcs hrel hg hargs hn
  · exact h2 args seen ks g nb p d E w hl hd hnd hcs hrel hg hargs hn
end Go.Lr

/- Summaries for the whole filter: the flag may lie anywhere; what the evaluator makes by running. -/
namespace Go.Proofs.YthbkhoknlbomgaaGreat
open Go.Lr
set_option linter.unusedVariables false
noncomputable def K0 : FuncId → Option SumK := more (more (more S47 135 (liftF 58 (acSum 58 1 faddS'))) 140 (liftF 58 (acSum 58 1 fdotS))) 67 (liftF 58 (acSum 58 1 fhypS))
theorem soundK0 : Sound Tryz.prog K0 := ((sound47.more (liftF_ok sumFadd')).more (liftF_ok sumDot)).more (liftF_ok sumHyp)
noncomputable def K1 : FuncId → Option SumK := more K0 141 (accSum 58 (autoF Tryz.prog K0 Zl 2000 141 58))
theorem soundK1 : Sound Tryz.prog K1 := soundK0.more (autoF_ok soundK0 (own_of soundK0 Tryz.func141 (by kernel_rfl)))
noncomputable def K2 : FuncId → Option SumK := more K1 112 (accSum 58 (autoF Tryz.prog K1 Zl 2000 112 58))
theorem soundK2 : Sound Tryz.prog K2 := soundK1.more (autoF_ok soundK1 (own_of soundK1 Tryz.func112 (by kernel_rfl)))
noncomputable def K3 : FuncId → Option SumK := more K2 83 (accSum 58 (autoF Tryz.prog K2 Zl 2000 83 58))
theorem soundK3 : Sound Tryz.prog K3 := soundK2.more (autoF_ok soundK2 (own_of soundK2 Tryz.func83 (by kernel_rfl)))
noncomputable def K4 : FuncId → Option SumK := more K3 85 (accSum 58 (autoF Tryz.prog K3 Zl 2000 85 58))
theorem soundK4 : Sound Tryz.prog K4 := soundK3.more (autoF_ok soundK3 (own_of soundK3 Tryz.func85 (by kernel_rfl)))
noncomputable def K5 : FuncId → Option SumK := moreG K4 78 (orGen (narG 0 58 (autoA Tryz.prog K4 Zl 4000 78)) (autoA Tryz.prog K4 Zl 4000 78))
theorem soundK5 : Sound Tryz.prog K5 := soundK4.moreG (orGen_ok (narG_ok (autoA_ok soundK4 (own_of soundK4 Tryz.func78 (by kernel_rfl)))) (autoA_ok soundK4 (own_of soundK4 Tryz.func78 (by kernel_rfl))))
noncomputable def K6 : FuncId → Option SumK := moreG K5 84 (autoA Tryz.prog K5 Zl 4000 84)
theorem soundK6 : Sound Tryz.prog K6 := soundK5.moreG (autoA_ok soundK5 (own_of soundK5 Tryz.func84 (by kernel_rfl)))
noncomputable def K7 : FuncId → Option SumK := more K6 33 (autoP Tryz.prog K6 Zl 2000 33)
theorem soundK7 : Sound Tryz.prog K7 := soundK6.more (autoP_ok soundK6 (own_of soundK6 Tryz.func33 (by kernel_rfl)))
end Go.Proofs.YthbkhoknlbomgaaGreat

/- state.unit: its summary. Plain sums of four squares. -/
namespace Go.Proofs.YthbkhoknlbomgaaGreat
open Go.Lr
set_option linter.unusedVariables false
def unA (q0 q1 q2 q3 : Int) : Int := wVal 0 0 + wVal (wHi (q0 * q0)) (wLo (q0 * q0))
def unB (q0 q1 q2 q3 : Int) : Int := wVal (w64 (wHi (wVal 0 0 + wVal (wHi (q0 * q0)) (wLo (q0 * q0))))) (wLo (wVal 0 0 + wVal (wHi (q0 * q0)) (wLo (q0 * q0)))) + wVal (wHi (q1 * q1)) (wLo (q1 * q1))
def unC (q0 q1 q2 q3 : Int) : Int := wVal (w64 (wHi (wVal (w64 (wHi (wVal 0 0 + wVal (wHi (q0 * q0)) (wLo (q0 * q0))))) (wLo (wVal 0 0 + wVal (wHi (q0 * q0)) (wLo (q0 * q0)))) + wVal (wHi (q1 * q1)) (wLo (q1 * q1))))) (wLo (wVal (w64 (wHi (wVal 0 0 + wVal (wHi (q0 * q0)) (wLo (q0 * q0))))) (wLo (wVal 0 0 + wVal (wHi (q0 * q0)) (wLo (q0 * q0)))) + wVal (wHi (q1 * q1)) (wLo (q1 * q1)))) + wVal (wHi (q2 * q2)) (wLo (q2 * q2))
def unD (q0 q1 q2 q3 : Int) : Int := wVal (w64 (wHi (wVal (w64 (wHi (wVal (w64 (wHi (wVal 0 0 + wVal (wHi (q0 * q0)) (wLo (q0 * q0))))) (wLo (wVal 0 0 + wVal (wHi (q0 * q0)) (wLo (q0 * q0)))) + wVal (wHi (q1 * q1)) (wLo (q1 * q1))))) (wLo (wVal (w64 (wHi (wVal 0 0 + wVal (wHi (q0 * q0)) (wLo (q0 * q0))))) (wLo (wVal 0 0 + wVal (wHi (q0 * q0)) (wLo (q0 * q0)))) + wVal (wHi (q1 * q1)) (wLo (q1 * q1)))) + wVal (wHi (q2 * q2)) (wLo (q2 * q2))))) (wLo (wVal (w64 (wHi (wVal (w64 (wHi (wVal 0 0 + wVal (wHi (q0 * q0)) (wLo (q0 * q0))))) (wLo (wVal 0 0 + wVal (wHi (q0 * q0)) (wLo (q0 * q0)))) + wVal (wHi (q1 * q1)) (wLo (q1 * q1))))) (wLo (wVal (w64 (wHi (wVal 0 0 + wVal (wHi (q0 * q0)) (wLo (q0 * q0))))) (wLo (wVal 0 0 + wVal (wHi (q0 * q0)) (wLo (q0 * q0)))) + wVal (wHi (q1 * q1)) (wLo (q1 * q1)))) + wVal (wHi (q2 * q2)) (wLo (q2 * q2)))) + wVal (wHi (q3 * q3)) (wLo (q3 * q3))
def unE (q0 q1 q2 q3 : Int) : Int := wVal (w64 (wHi (wVal (w64 (wHi (wVal (w64 (wHi (wVal (w64 (wHi (wVal 0 0 + wVal (wHi (q0 * q0)) (wLo (q0 * q0))))) (wLo (wVal 0 0 + wVal (wHi (q0 * q0)) (wLo (q0 * q0)))) + wVal (wHi (q1 * q1)) (wLo (q1 * q1))))) (wLo (wVal (w64 (wHi (wVal 0 0 + wVal (wHi (q0 * q0)) (wLo (q0 * q0))))) (wLo (wVal 0 0 + wVal (wHi (q0 * q0)) (wLo (q0 * q0)))) + wVal (wHi (q1 * q1)) (wLo (q1 * q1)))) + wVal (wHi (q2 * q2)) (wLo (q2 * q2))))) (wLo (wVal (w64 (wHi (wVal (w64 (wHi (wVal 0 0 + wVal (wHi (q0 * q0)) (wLo (q0 * q0))))) (wLo (wVal 0 0 + wVal (wHi (q0 * q0)) (wLo (q0 * q0)))) + wVal (wHi (q1 * q1)) (wLo (q1 * q1))))) (wLo (wVal (w64 (wHi (wVal 0 0 + wVal (wHi (q0 * q0)) (wLo (q0 * q0))))) (wLo (wVal 0 0 + wVal (wHi (q0 * q0)) (wLo (q0 * q0)))) + wVal (wHi (q1 * q1)) (wLo (q1 * q1)))) + wVal (wHi (q2 * q2)) (wLo (q2 * q2)))) + wVal (wHi (q3 * q3)) (wLo (q3 * q3))))) (wLo (wVal (w64 (wHi (wVal (w64 (wHi (wVal (w64 (wHi (wVal 0 0 + wVal (wHi (q0 * q0)) (wLo (q0 * q0))))) (wLo (wVal 0 0 + wVal (wHi (q0 * q0)) (wLo (q0 * q0)))) + wVal (wHi (q1 * q1)) (wLo (q1 * q1))))) (wLo (wVal (w64 (wHi (wVal 0 0 + wVal (wHi (q0 * q0)) (wLo (q0 * q0))))) (wLo (wVal 0 0 + wVal (wHi (q0 * q0)) (wLo (q0 * q0)))) + wVal (wHi (q1 * q1)) (wLo (q1 * q1)))) + wVal (wHi (q2 * q2)) (wLo (q2 * q2))))) (wLo (wVal (w64 (wHi (wVal (w64 (wHi (wVal 0 0 + wVal (wHi (q0 * q0)) (wLo (q0 * q0))))) (wLo (wVal 0 0 + wVal (wHi (q0 * q0)) (wLo (q0 * q0)))) + wVal (wHi (q1 * q1)) (wLo (q1 * q1))))) (wLo (wVal (w64 (wHi (wVal 0 0 + wVal (wHi (q0 * q0)) (wLo (q0 * q0))))) (wLo (wVal 0 0 + wVal (wHi (q0 * q0)) (wLo (q0 * q0)))) + wVal (wHi (q1 * q1)) (wLo (q1 * q1)))) + wVal (wHi (q2 * q2)) (wLo (q2 * q2)))) + wVal (wHi (q3 * q3)) (wLo (q3 * q3))))
theorem kunR1 (q0 q1 q2 q3 : Int) : (runF Tryz.prog (dropS K7 64) Zl 4000 31 [.v (.agg [.int .i64 q0, .int .i64 q1, .int .i64 q2, .int .i64 q3])] [] 0 (nn 1 (tt 1 []))).map (fun r => (r.1, r.2.2.2)) = some (LV.v (V1.one (At.bool false)), [(decide (fabsV q0 > 1073741840), true)]) := by kernel_rfl
theorem kunR2 (q0 q1 q2 q3 : Int) : (runF Tryz.prog (dropS K7 64) Zl 4000 31 [.v (.agg [.int .i64 q0, .int .i64 q1, .int .i64 q2, .int .i64 q3])] [] 0 (nn 1 (ff 1 (nn 1 (tt 1 []))))).map (fun r => (r.1, r.2.2.2)) = some (LV.v (V1.one (At.bool false)), [(decide (fabsV q1 > 1073741840), true), (true && true, true), (isI q0, true), (isI q0, true), (decide (fabsV q0 > 1073741840), false)]) := by kernel_rfl
theorem kunR3 (q0 q1 q2 q3 : Int) : (runF Tryz.prog (dropS K7 64) Zl 4000 31 [.v (.agg [.int .i64 q0, .int .i64 q1, .int .i64 q2, .int .i64 q3])] [] 0 (nn 1 (ff 1 (nn 1 (ff 1 (nn 1 (tt 1 []))))))).map (fun r => (r.1, r.2.2.2)) = some (LV.v (V1.one (At.bool false)), [(decide (fabsV q2 > 1073741840), true), (true && true, true), (isI q1, true), (isI q1, true), (decide (fabsV q1 > 1073741840), false), (true && true, true), (isI q0, true), (isI q0, true), (decide (fabsV q0 > 1073741840), false)]) := by kernel_rfl
theorem kunR4 (q0 q1 q2 q3 : Int) : (runF Tryz.prog (dropS K7 64) Zl 4000 31 [.v (.agg [.int .i64 q0, .int .i64 q1, .int .i64 q2, .int .i64 q3])] [] 0 (nn 1 (ff 1 (nn 1 (ff 1 (nn 1 (ff 1 (nn 1 (tt 1 []))))))))).map (fun r => (r.1, r.2.2.2)) = some (LV.v (V1.one (At.bool false)), [(decide (fabsV q3 > 1073741840), true), (true && true, true), (isI q2, true), (isI q2, true), (decide (fabsV q2 > 1073741840), false), (true && true, true), (isI q1, true), (isI q1, true), (decide (fabsV q1 > 1073741840), false), (true && true, true), (isI q0, true), (isI q0, true), (decide (fabsV q0 > 1073741840), false)]) := by kernel_rfl
theorem kunR5 (q0 q1 q2 q3 : Int) : (runF Tryz.prog (dropS K7 64) Zl 4000 31 [.v (.agg [.int .i64 q0, .int .i64 q1, .int .i64 q2, .int .i64 q3])] [] 0 (nn 1 (ff 1 (nn 1 (ff 1 (nn 1 (ff 1 (nn 1 (ff 1 (nn 2 (ff 1 (nn 1 (ff 1 (nn 1 (ff 1 (nn 1 (ff 1 (nn 1 (tt 8 []))))))))))))))))))).map (fun r => (r.1, r.2.2.2)) = some (LV.v (V1.one (At.bool (decide (wr IntKind.i64 ((if isI (rndV (unE q0 q1 q2 q3) (Int.toNat 0)) = true then rndV (unE q0 q1 q2 q3) (Int.toNat 0) else 0) - 1152921504606846976) ≤ 4294967296)))), [(decide (wr IntKind.i64 ((if isI (rndV (unE q0 q1 q2 q3) (Int.toNat 0)) = true then rndV (unE q0 q1 q2 q3) (Int.toNat 0) else 0) - 1152921504606846976) ≥ -4294967296), true), (decide (wr IntKind.i64 ((if isI (rndV (unE q0 q1 q2 q3) (Int.toNat 0)) = true then rndV (unE q0 q1 q2 q3) (Int.toNat 0) else 0) - 1152921504606846976) ≥ -4294967296), true), (decide (wr IntKind.i64 ((if isI (rndV (unE q0 q1 q2 q3) (Int.toNat 0)) = true then rndV (unE q0 q1 q2 q3) (Int.toNat 0) else 0) - 1152921504606846976) ≥ -4294967296), true), (decide (wr IntKind.i64 ((if isI (rndV (unE q0 q1 q2 q3) (Int.toNat 0)) = true then rndV (unE q0 q1 q2 q3) (Int.toNat 0) else 0) - 1152921504606846976) ≥ -4294967296), true), (isI (rndV (unE q0 q1 q2 q3) 0), true), (isI (rndV (unE q0 q1 q2 q3) 0), true), (isI (rndV (unE q0 q1 q2 q3) 0), true), (isI (rndV (unE q0 q1 q2 q3) 0), true), (isI (w64 (wHi (unD q0 q1 q2 q3))), true), (isU (wLo (unD q0 q1 q2 q3)), true), (decide (0 ≤ 0) && decide (0 ≤ 126), true), (!isW (unD q0 q1 q2 q3), false), (isI (w64 (wHi (unC q0 q1 q2 q3))), true), (isU (wLo (unC q0 q1 q2 q3)), true), (isI (wHi (q3 * q3)), true), (isU (wLo (q3 * q3)), true), (!isW (unC q0 q1 q2 q3), false), (isI (w64 (wHi (unB q0 q1 q2 q3))), true), (isU (wLo (unB q0 q1 q2 q3)), true), (isI (wHi (q2 * q2)), true), (isU (wLo (q2 * q2)), true), (!isW (unB q0 q1 q2 q3), false), (isI (w64 (wHi (unA q0 q1 q2 q3))), true), (isU (wLo (unA q0 q1 q2 q3)), true), (isI (wHi (q1 * q1)), true), (isU (wLo (q1 * q1)), true), (!isW (unA q0 q1 q2 q3), false), (isI 0, true), (isU 0, true), (isI (wHi (q0 * q0)), true), (isU (wLo (q0 * q0)), true), (true && true, true), (isI q3, true), (isI q3, true), (decide (fabsV q3 > 1073741840), false), (true && true, true), (isI q2, true), (isI q2, true), (decide (fabsV q2 > 1073741840), false), (true && true, true), (isI q1, true), (isI q1, true), (decide (fabsV q1 > 1073741840), false), (true && true, true), (isI q0, true), (isI q0, true), (decide (fabsV q0 > 1073741840), false)]) := by kernel_rfl
theorem kunR6 (q0 q1 q2 q3 : Int) : (runF Tryz.prog (dropS K7 64) Zl 4000 31 [.v (.agg [.int .i64 q0, .int .i64 q1, .int .i64 q2, .int .i64 q3])] [] 0 (nn 1 (ff 1 (nn 1 (ff 1 (nn 1 (ff 1 (nn 1 (ff 1 (nn 2 (ff 1 (nn 1 (ff 1 (nn 1 (ff 1 (nn 1 (ff 1 (nn 1 (tt 4 (ff 4 [])))))))))))))))))))).map (fun r => (r.1, r.2.2.2)) = some (LV.v (V1.one (At.bool false)), [(decide (wr IntKind.i64 ((if isI (rndV (unE q0 q1 q2 q3) (Int.toNat 0)) = true then rndV (unE q0 q1 q2 q3) (Int.toNat 0) else 0) - 1152921504606846976) ≥ -4294967296), false), (decide (wr IntKind.i64 ((if isI (rndV (unE q0 q1 q2 q3) (Int.toNat 0)) = true then rndV (unE q0 q1 q2 q3) (Int.toNat 0) else 0) - 1152921504606846976) ≥ -4294967296), false), (decide (wr IntKind.i64 ((if isI (rndV (unE q0 q1 q2 q3) (Int.toNat 0)) = true then rndV (unE q0 q1 q2 q3) (Int.toNat 0) else 0) - 1152921504606846976) ≥ -4294967296), false), (decide (wr IntKind.i64 ((if isI (rndV (unE q0 q1 q2 q3) (Int.toNat 0)) = true then rndV (unE q0 q1 q2 q3) (Int.toNat 0) else 0) - 1152921504606846976) ≥ -4294967296), false), (isI (rndV (unE q0 q1 q2 q3) 0), true), (isI (rndV (unE q0 q1 q2 q3) 0), true), (isI (rndV (unE q0 q1 q2 q3) 0), true), (isI (rndV (unE q0 q1 q2 q3) 0), true), (isI (w64 (wHi (unD q0 q1 q2 q3))), true), (isU (wLo (unD q0 q1 q2 q3)), true), (decide (0 ≤ 0) && decide (0 ≤ 126), true), (!isW (unD q0 q1 q2 q3), false), (isI (w64 (wHi (unC q0 q1 q2 q3))), true), (isU (wLo (unC q0 q1 q2 q3)), true), (isI (wHi (q3 * q3)), true), (isU (wLo (q3 * q3)), true), (!isW (unC q0 q1 q2 q3), false), (isI (w64 (wHi (unB q0 q1 q2 q3))), true), (isU (wLo (unB q0 q1 q2 q3)), true), (isI (wHi (q2 * q2)), true), (isU (wLo (q2 * q2)), true), (!isW (unB q0 q1 q2 q3), false), (isI (w64 (wHi (unA q0 q1 q2 q3))), true), (isU (wLo (unA q0 q1 q2 q3)), true), (isI (wHi (q1 * q1)), true), (isU (wLo (q1 * q1)), true), (!isW (unA q0 q1 q2 q3), false), (isI 0, true), (isU 0, true), (isI (wHi (q0 * q0)), true), (isU (wLo (q0 * q0)), true), (true && true, true), (isI q3, true), (isI q3, true), (decide (fabsV q3 > 1073741840), false), (true && true, true), (isI q2, true), (isI q2, true), (decide (fabsV q2 > 1073741840), false), (true && true, true), (isI q1, true), (isI q1, true), (decide (fabsV q1 > 1073741840), false), (true && true, true), (isI q0, true), (isI q0, true), (decide (fabsV q0 > 1073741840), false)]) := by kernel_rfl
theorem fabsk_le {x : Int} (h : decide (fabsV x > 1073741840) = false) : -1073741840 ≤ x ∧ x ≤ 1073741840 := by
  have := of_decide_eq_false h
  unfold fabsV at this
  split at this <;> rename_i h1
  · omega
  · split at this <;> rename_i h2
    · omega
    · split at this <;> omega
theorem sqk_bd {x : Int} (h : -1073741840 ≤ x ∧ x ≤ 1073741840) : 0 ≤ x * x ∧ x * x ≤ 1152921538966585600 := by
  constructor
  · by_cases h0 : 0 ≤ x
    · exact Int.mul_nonneg h0 h0
    · have := Int.mul_nonneg (show 0 ≤ -x by omega) (show 0 ≤ -x by omega); rwa [Int.neg_mul_neg] at this
  · by_cases h0 : 0 ≤ x
    · have := Int.mul_le_mul h.2 h.2 h0 (by omega); omega
    · have := Int.mul_le_mul (show -x ≤ 1073741840 by omega) (show -x ≤ 1073741840 by omega) (by omega) (by omega); rw [Int.neg_mul_neg] at this; omega
theorem isIk_bd {x : Int} (h : -1073741840 ≤ x ∧ x ≤ 1073741840) : isI x = true := isI_iff.2 (by omega)
theorem w00 : wVal 0 0 = 0 := rfl
theorem wre {v : Int} (h0 : 0 ≤ v) (h1 : v < 9223372036854775808 * 18446744073709551616) : w64 (wHi v) = wHi v := w64_in (by unfold wHi; omega) (by unfold wHi; omega)
theorem isW_sm {v : Int} (h0 : 0 ≤ v) (h1 : v < 9223372036854775808) : isW v = true := by
  unfold isW; simp only [Bool.and_eq_true, decide_eq_true_eq]; omega
theorem isIk_hi {v : Int} (h0 : 0 ≤ v) (h1 : v < 9223372036854775808) : isI (wHi v) = true := isI_iff.2 (by unfold wHi; omega)
theorem uAll {q0 q1 q2 q3 : Int} (h0 : -1073741840 ≤ q0 ∧ q0 ≤ 1073741840) (h1 : -1073741840 ≤ q1 ∧ q1 ≤ 1073741840) (h2 : -1073741840 ≤ q2 ∧ q2 ≤ 1073741840) (h3 : -1073741840 ≤ q3 ∧ q3 ≤ 1073741840) :
    unA q0 q1 q2 q3 = q0 * q0 ∧ unB q0 q1 q2 q3 = q0 * q0 + q1 * q1 ∧ unC q0 q1 q2 q3 = q0 * q0 + q1 * q1 + q2 * q2 ∧ unD q0 q1 q2 q3 = q0 * q0 + q1 * q1 + q2 * q2 + q3 * q3 ∧ unE q0 q1 q2 q3 = q0 * q0 + q1 * q1 + q2 * q2 + q3 * q3 := by
  have s0 := sqk_bd h0
  have s1 := sqk_bd h1
  have s2 := sqk_bd h2
  have s3 := sqk_bd h3
  have a : unA q0 q1 q2 q3 = q0 * q0 := by unfold unA; rw [wVal_mk, w00]; omega
  have b : unB q0 q1 q2 q3 = q0 * q0 + q1 * q1 := by
    have e : unB q0 q1 q2 q3 = wVal (w64 (wHi (unA q0 q1 q2 q3))) (wLo (unA q0 q1 q2 q3)) + wVal (wHi (q1 * q1)) (wLo (q1 * q1)) := rfl
    rw [e, a, wre (by omega) (by omega), wVal_mk, wVal_mk]
  have c : unC q0 q1 q2 q3 = q0 * q0 + q1 * q1 + q2 * q2 := by
    have e : unC q0 q1 q2 q3 = wVal (w64 (wHi (unB q0 q1 q2 q3))) (wLo (unB q0 q1 q2 q3)) + wVal (wHi (q2 * q2)) (wLo (q2 * q2)) := rfl
    rw [e, b, wre (by omega) (by omega), wVal_mk, wVal_mk]
  have d : unD q0 q1 q2 q3 = q0 * q0 + q1 * q1 + q2 * q2 + q3 * q3 := by
    have e : unD q0 q1 q2 q3 = wVal (w64 (wHi (unC q0 q1 q2 q3))) (wLo (unC q0 q1 q2 q3)) + wVal (wHi (q3 * q3)) (wLo (q3 * q3)) := rfl
    rw [e, c, wre (by omega) (by omega), wVal_mk, wVal_mk]
  refine ⟨a, b, c, d, ?_⟩
  have e : unE q0 q1 q2 q3 = wVal (w64 (wHi (unD q0 q1 q2 q3))) (wLo (unD q0 q1 q2 q3)) := rfl
  rw [e, d, wre (by omega) (by omega), wVal_mk]
def kunB (q0 q1 q2 q3 : Int) : Bool := bif decide (fabsV q0 > 1073741840) then false else bif decide (fabsV q1 > 1073741840) then false else bif decide (fabsV q2 > 1073741840) then false else bif decide (fabsV q3 > 1073741840) then false else
  decide (q0 * q0 + q1 * q1 + q2 * q2 + q3 * q3 - 1152921504606846976 ≥ -4294967296) && decide (q0 * q0 + q1 * q1 + q2 * q2 + q3 * q3 - 1152921504606846976 ≤ 4294967296)
def kunS : List LV → Option (LV × List (Bool × Bool))
  | [.v (.agg [.int .i64 q0, .int .i64 q1, .int .i64 q2, .int .i64 q3])] => some (.v (.one (.bool (kunB q0 q1 q2 q3))), [])
  | _ => none
theorem sumKun : SumOK Tryz.prog 31 (pureSum kunS) := by
  refine pureSum_run (z := Zl) (soundK7.drop 64) (own_of soundK7 Tryz.func31 (by kernel_rfl)) fun args v cs hF hc => ?_
  unfold kunS at hF
  split at hF
  · rename_i q0 q1 q2 q3
    cases hF
    cases c0 : decide (fabsV q0 > 1073741840)
    · have h0 := fabsk_le c0
      have b0 := isIk_bd h0
      cases c1 : decide (fabsV q1 > 1073741840)
      · have h1 := fabsk_le c1
        have b1 := isIk_bd h1
        cases c2 : decide (fabsV q2 > 1073741840)
        · have h2 := fabsk_le c2
          have b2 := isIk_bd h2
          cases c3 : decide (fabsV q3 > 1073741840)
          · have h3 := fabsk_le c3
            obtain ⟨eA, eB, eC, eD, eE⟩ := uAll h0 h1 h2 h3
            have s0 := sqk_bd h0
            have s1 := sqk_bd h1
            have s2 := sqk_bd h2
            have s3 := sqk_bd h3
            have r0 : isI (rndV (unE q0 q1 q2 q3) 0) = true := by rw [eE]; have := rnd0 (q0 * q0 + q1 * q1 + q2 * q2 + q3 * q3); simp only [Int.toNat_zero] at this; rw [this]; exact isI_iff.2 (by omega)
            have r1 : rndV (unE q0 q1 q2 q3) (Int.toNat 0) = q0 * q0 + q1 * q1 + q2 * q2 + q3 * q3 := by rw [eE, rnd0]
            have r2 : wr IntKind.i64 ((if isI (rndV (unE q0 q1 q2 q3) (Int.toNat 0)) = true then rndV (unE q0 q1 q2 q3) (Int.toNat 0) else 0) - 1152921504606846976) = q0 * q0 + q1 * q1 + q2 * q2 + q3 * q3 - 1152921504606846976 := by
              rw [if_pos (show isI (rndV (unE q0 q1 q2 q3) (Int.toNat 0)) = true from r0), r1, wr_i, w64_in (by omega) (by omega)]
            have wA : (!isW (unA q0 q1 q2 q3)) = false := by rw [eA, isW_sm (by omega) (by omega)]; rfl
            have wB : (!isW (unB q0 q1 q2 q3)) = false := by rw [eB, isW_sm (by omega) (by omega)]; rfl
            have wC : (!isW (unC q0 q1 q2 q3)) = false := by rw [eC, isW_sm (by omega) (by omega)]; rfl
            have wD : (!isW (unD q0 q1 q2 q3)) = false := by rw [eD, isW_sm (by omega) (by omega)]; rfl
            have iA : isI (w64 (wHi (unA q0 q1 q2 q3))) = true := by rw [eA, wre (by omega) (by omega)]; exact isIk_hi (by omega) (by omega)
            have iB : isI (w64 (wHi (unB q0 q1 q2 q3))) = true := by rw [eB, wre (by omega) (by omega)]; exact isIk_hi (by omega) (by omega)
            have iC : isI (w64 (wHi (unC q0 q1 q2 q3))) = true := by rw [eC, wre (by omega) (by omega)]; exact isIk_hi (by omega) (by omega)
            have iD : isI (w64 (wHi (unD q0 q1 q2 q3))) = true := by rw [eD, wre (by omega) (by omega)]; exact isIk_hi (by omega) (by omega)
            have i0 : isI (wHi (q0 * q0)) = true := isIk_hi (by omega) (by omega)
            have i1 : isI (wHi (q1 * q1)) = true := isIk_hi (by omega) (by omega)
            have i2 : isI (wHi (q2 * q2)) = true := isIk_hi (by omega) (by omega)
            have i3 : isI (wHi (q3 * q3)) = true := isIk_hi (by omega) (by omega)
            have b3 := isIk_bd h3
            cases c4 : decide (q0 * q0 + q1 * q1 + q2 * q2 + q3 * q3 - 1152921504606846976 ≥ -4294967296)
            · have e : kunB q0 q1 q2 q3 = false := by unfold kunB; rw [c0, c1, c2, c3, c4]; rfl
              rw [e]
              refine ⟨4000, _, _, kunR6 q0 q1 q2 q3, ?_⟩
              rw [r2]
              repeat' first | exact ae_nil | apply ae_cons
              all_goals first | with_reducible assumption | with_reducible rfl | with_reducible exact isU_lo _ | rfl
            · have e : kunB q0 q1 q2 q3 = decide (q0 * q0 + q1 * q1 + q2 * q2 + q3 * q3 - 1152921504606846976 ≤ 4294967296) := by unfold kunB; rw [c0, c1, c2, c3, c4]; rfl
              rw [e, ← r2]
              refine ⟨4000, _, _, kunR5 q0 q1 q2 q3, ?_⟩
              rw [r2]
              repeat' first | exact ae_nil | apply ae_cons
              all_goals first | with_reducible assumption | with_reducible rfl | with_reducible exact isU_lo _ | rfl
          · have e : kunB q0 q1 q2 q3 = false := by unfold kunB; rw [c0, c1, c2, c3]; rfl
            rw [e]
            refine ⟨4000, _, _, kunR4 q0 q1 q2 q3, ?_⟩
            repeat' first | exact ae_nil | apply ae_cons
            all_goals first | with_reducible assumption | with_reducible rfl | rfl
        · have e : kunB q0 q1 q2 q3 = false := by unfold kunB; rw [c0, c1, c2]; rfl
          rw [e]
          refine ⟨4000, _, _, kunR3 q0 q1 q2 q3, ?_⟩
          repeat' first | exact ae_nil | apply ae_cons
          all_goals first | with_reducible assumption | with_reducible rfl | rfl
      · have e : kunB q0 q1 q2 q3 = false := by unfold kunB; rw [c0, c1]; rfl
        rw [e]
        refine ⟨4000, _, _, kunR2 q0 q1 q2 q3, ?_⟩
        repeat' first | exact ae_nil | apply ae_cons
        all_goals first | with_reducible assumption | with_reducible rfl | rfl
    · have e : kunB q0 q1 q2 q3 = false := by unfold kunB; rw [c0]; rfl
      rw [e]
      exact ⟨4000, _, _, kunR1 q0 q1 q2 q3, ae_cons c0 ae_nil⟩
  · cases hF
noncomputable def K8u : FuncId → Option SumK := more K7 31 (pureSum kunS)
theorem soundK8u : Sound Tryz.prog K8u := soundK7.more sumKun
end Go.Proofs.YthbkhoknlbomgaaGreat

/- state.clamp: its summary. -/
namespace Go.Proofs.YthbkhoknlbomgaaGreat
open Go.Lr
noncomputable def K9u : FuncId → Option SumK := more K8u 35 (accSum 58 (autoF Tryz.prog K8u Zl 2000 35 58))
theorem soundK9u : Sound Tryz.prog K9u := soundK8u.more (autoF_ok soundK8u (own_of soundK8u Tryz.func35 (by kernel_rfl)))
end Go.Proofs.YthbkhoknlbomgaaGreat

/- state.Keep: its summary, number by number: it always ends. -/
namespace Go.Proofs.YthbkhoknlbomgaaGreat
open Go.Lr
set_option linter.unusedVariables false
def keepH (hb : Bool) (s0 s1 s2 s3 s4 s5 s6 s7 s8 s9 s10 s11 s12 s13 s14 s15 s16 s17 s18 s19 s20 s21 s22 s23 : Int) : Bool := (bif kunB s0 s1 s2 s3 then hb else uFl hb s0 s1 s2 s3) || clampH s4 (wr IntKind.i64 (0 - 549755813888)) 549755813888 || clampH s5 (wr IntKind.i64 (0 - 549755813888)) 549755813888 || clampH s6 (wr IntKind.i64 (0 - 549755813888)) 549755813888 || clampH s7 (wr IntKind.i64 (0 - 9007199254740992)) 9007199254740992 || clampH s8 (wr IntKind.i64 (0 - 9007199254740992)) 9007199254740992 || clampH s9 (wr IntKind.i64 (0 - 9007199254740992)) 9007199254740992 || clampH s10 (wr IntKind.i64 (0 - 134217728)) 134217728 || clampH s11 (wr IntKind.i64 (0 - 134217728)) 134217728 || clampH s12 (wr IntKind.i64 (0 - 134217728)) 134217728 || clampH s13 (wr IntKind.i64 (0 - 1073741824)) 1073741824 || clampH s14 (wr IntKind.i64 (0 - 1073741824)) 1073741824 || clampH s15 (wr IntKind.i64 (0 - 1073741824)) 1073741824 || clampH s16 (wr IntKind.i64 (0 - 2147483648)) 2147483648 || clampH s17 (wr IntKind.i64 (0 - 2147483648)) 2147483648 || clampH s18 (wr IntKind.i64 (0 - 2147483648)) 2147483648 || clampH s19 (wr IntKind.i64 (0 - 2147483648)) 2147483648 || clampH s20 (wr IntKind.i64 (0 - 2147483648)) 2147483648 || clampH s21 (wr IntKind.i64 (0 - 2147483648)) 2147483648 || clampH s22 (wr IntKind.i64 (0 - 137438953472)) 137438953472 || clampH s23 (wr IntKind.i64 (0 - 137438953472)) 137438953472
def keepL (s0 s1 s2 s3 s4 s5 s6 s7 s8 s9 s10 s11 s12 s13 s14 s15 s16 s17 s18 s19 s20 s21 s22 s23 : Int) : LV := .v (.agg [.int .i64 (bif kunB s0 s1 s2 s3 then s0 else uV0 s0 s1 s2 s3), .int .i64 (bif kunB s0 s1 s2 s3 then s1 else uV1 s0 s1 s2 s3), .int .i64 (bif kunB s0 s1 s2 s3 then s2 else uV2 s0 s1 s2 s3), .int .i64 (bif kunB s0 s1 s2 s3 then s3 else uV3 s0 s1 s2 s3), .int .i64 (clampV s4 (wr IntKind.i64 (0 - 549755813888)) 549755813888), .int .i64 (clampV s5 (wr IntKind.i64 (0 - 549755813888)) 549755813888), .int .i64 (clampV s6 (wr IntKind.i64 (0 - 549755813888)) 549755813888), .int .i64 (clampV s7 (wr IntKind.i64 (0 - 9007199254740992)) 9007199254740992), .int .i64 (clampV s8 (wr IntKind.i64 (0 - 9007199254740992)) 9007199254740992), .int .i64 (clampV s9 (wr IntKind.i64 (0 - 9007199254740992)) 9007199254740992), .int .i64 (clampV s10 (wr IntKind.i64 (0 - 134217728)) 134217728), .int .i64 (clampV s11 (wr IntKind.i64 (0 - 134217728)) 134217728), .int .i64 (clampV s12 (wr IntKind.i64 (0 - 134217728)) 134217728), .int .i64 (clampV s13 (wr IntKind.i64 (0 - 1073741824)) 1073741824), .int .i64 (clampV s14 (wr IntKind.i64 (0 - 1073741824)) 1073741824), .int .i64 (clampV s15 (wr IntKind.i64 (0 - 1073741824)) 1073741824), .int .i64 (clampV s16 (wr IntKind.i64 (0 - 2147483648)) 2147483648), .int .i64 (clampV s17 (wr IntKind.i64 (0 - 2147483648)) 2147483648), .int .i64 (clampV s18 (wr IntKind.i64 (0 - 2147483648)) 2147483648), .int .i64 (clampV s19 (wr IntKind.i64 (0 - 2147483648)) 2147483648), .int .i64 (clampV s20 (wr IntKind.i64 (0 - 2147483648)) 2147483648), .int .i64 (clampV s21 (wr IntKind.i64 (0 - 2147483648)) 2147483648), .int .i64 (clampV s22 (wr IntKind.i64 (0 - 137438953472)) 137438953472), .int .i64 (clampV s23 (wr IntKind.i64 (0 - 137438953472)) 137438953472)])
def keepF : List LV → Bool → Option (LV × Bool × List (Bool × Bool))
  | [.v (.agg [.int .i64 s0, .int .i64 s1, .int .i64 s2, .int .i64 s3, .int .i64 s4, .int .i64 s5, .int .i64 s6, .int .i64 s7, .int .i64 s8, .int .i64 s9, .int .i64 s10, .int .i64 s11, .int .i64 s12, .int .i64 s13, .int .i64 s14, .int .i64 s15, .int .i64 s16, .int .i64 s17, .int .i64 s18, .int .i64 s19, .int .i64 s20, .int .i64 s21, .int .i64 s22, .int .i64 s23])], hb => some (keepL s0 s1 s2 s3 s4 s5 s6 s7 s8 s9 s10 s11 s12 s13 s14 s15 s16 s17 s18 s19 s20 s21 s22 s23, keepH hb s0 s1 s2 s3 s4 s5 s6 s7 s8 s9 s10 s11 s12 s13 s14 s15 s16 s17 s18 s19 s20 s21 s22 s23, [])
  | _, _ => none
theorem keepR1 (s0 s1 s2 s3 s4 s5 s6 s7 s8 s9 s10 s11 s12 s13 s14 s15 s16 s17 s18 s19 s20 s21 s22 s23 : Int) (hb : Bool) : (runF Tryz.prog K9u Zl 4000 13 [A0, .v (.agg [.int .i64 s0, .int .i64 s1, .int .i64 s2, .int .i64 s3, .int .i64 s4, .int .i64 s5, .int .i64 s6, .int .i64 s7, .int .i64 s8, .int .i64 s9, .int .i64 s10, .int .i64 s11, .int .i64 s12, .int .i64 s13, .int .i64 s14, .int .i64 s15, .int .i64 s16, .int .i64 s17, .int .i64 s18, .int .i64 s19, .int .i64 s20, .int .i64 s21, .int .i64 s22, .int .i64 s23])] [(0, flag 58 hb)] 1 (tt 1 [])).map (fun r => (r.1, getM r.2.1 0, r.2.2.2)) = some (.v (.agg [.int .i64 (uV0 s0 s1 s2 s3), .int .i64 (uV1 s0 s1 s2 s3), .int .i64 (uV2 s0 s1 s2 s3), .int .i64 (uV3 s0 s1 s2 s3), .int .i64 ((clampV s4 (wr IntKind.i64 (0 - 549755813888)) 549755813888)), .int .i64 ((clampV s5 (wr IntKind.i64 (0 - 549755813888)) 549755813888)), .int .i64 ((clampV s6 (wr IntKind.i64 (0 - 549755813888)) 549755813888)), .int .i64 ((clampV s7 (wr IntKind.i64 (0 - 9007199254740992)) 9007199254740992)), .int .i64 ((clampV s8 (wr IntKind.i64 (0 - 9007199254740992)) 9007199254740992)), .int .i64 ((clampV s9 (wr IntKind.i64 (0 - 9007199254740992)) 9007199254740992)), .int .i64 ((clampV s10 (wr IntKind.i64 (0 - 134217728)) 134217728)), .int .i64 ((clampV s11 (wr IntKind.i64 (0 - 134217728)) 134217728)), .int .i64 ((clampV s12 (wr IntKind.i64 (0 - 134217728)) 134217728)), .int .i64 ((clampV s13 (wr IntKind.i64 (0 - 1073741824)) 1073741824)), .int .i64 ((clampV s14 (wr IntKind.i64 (0 - 1073741824)) 1073741824)), .int .i64 ((clampV s15 (wr IntKind.i64 (0 - 1073741824)) 1073741824)), .int .i64 ((clampV s16 (wr IntKind.i64 (0 - 2147483648)) 2147483648)), .int .i64 ((clampV s17 (wr IntKind.i64 (0 - 2147483648)) 2147483648)), .int .i64 ((clampV s18 (wr IntKind.i64 (0 - 2147483648)) 2147483648)), .int .i64 ((clampV s19 (wr IntKind.i64 (0 - 2147483648)) 2147483648)), .int .i64 ((clampV s20 (wr IntKind.i64 (0 - 2147483648)) 2147483648)), .int .i64 ((clampV s21 (wr IntKind.i64 (0 - 2147483648)) 2147483648)), .int .i64 ((clampV s22 (wr IntKind.i64 (0 - 137438953472)) 137438953472)), .int .i64 ((clampV s23 (wr IntKind.i64 (0 - 137438953472)) 137438953472))]), some (flag 58 (uFl hb s0 s1 s2 s3 || clampH s4 (wr IntKind.i64 (0 - 549755813888)) 549755813888 || clampH s5 (wr IntKind.i64 (0 - 549755813888)) 549755813888 || clampH s6 (wr IntKind.i64 (0 - 549755813888)) 549755813888 || clampH s7 (wr IntKind.i64 (0 - 9007199254740992)) 9007199254740992 || clampH s8 (wr IntKind.i64 (0 - 9007199254740992)) 9007199254740992 || clampH s9 (wr IntKind.i64 (0 - 9007199254740992)) 9007199254740992 || clampH s10 (wr IntKind.i64 (0 - 134217728)) 134217728 || clampH s11 (wr IntKind.i64 (0 - 134217728)) 134217728 || clampH s12 (wr IntKind.i64 (0 - 134217728)) 134217728 || clampH s13 (wr IntKind.i64 (0 - 1073741824)) 1073741824 || clampH s14 (wr IntKind.i64 (0 - 1073741824)) 1073741824 || clampH s15 (wr IntKind.i64 (0 - 1073741824)) 1073741824 || clampH s16 (wr IntKind.i64 (0 - 2147483648)) 2147483648 || clampH s17 (wr IntKind.i64 (0 - 2147483648)) 2147483648 || clampH s18 (wr IntKind.i64 (0 - 2147483648)) 2147483648 || clampH s19 (wr IntKind.i64 (0 - 2147483648)) 2147483648 || clampH s20 (wr IntKind.i64 (0 - 2147483648)) 2147483648 || clampH s21 (wr IntKind.i64 (0 - 2147483648)) 2147483648 || clampH s22 (wr IntKind.i64 (0 - 137438953472)) 137438953472 || clampH s23 (wr IntKind.i64 (0 - 137438953472)) 137438953472)), [(!kunB s0 s1 s2 s3, true)]) := by kernel_rfl
theorem keepR2 (s0 s1 s2 s3 s4 s5 s6 s7 s8 s9 s10 s11 s12 s13 s14 s15 s16 s17 s18 s19 s20 s21 s22 s23 : Int) (hb : Bool) : (runF Tryz.prog K9u Zl 4000 13 [A0, .v (.agg [.int .i64 s0, .int .i64 s1, .int .i64 s2, .int .i64 s3, .int .i64 s4, .int .i64 s5, .int .i64 s6, .int .i64 s7, .int .i64 s8, .int .i64 s9, .int .i64 s10, .int .i64 s11, .int .i64 s12, .int .i64 s13, .int .i64 s14, .int .i64 s15, .int .i64 s16, .int .i64 s17, .int .i64 s18, .int .i64 s19, .int .i64 s20, .int .i64 s21, .int .i64 s22, .int .i64 s23])] [(0, flag 58 hb)] 1 (ff 1 [])).map (fun r => (r.1, getM r.2.1 0, r.2.2.2)) = some (.v (.agg [.int .i64 (s0), .int .i64 (s1), .int .i64 (s2), .int .i64 (s3), .int .i64 ((clampV s4 (wr IntKind.i64 (0 - 549755813888)) 549755813888)), .int .i64 ((clampV s5 (wr IntKind.i64 (0 - 549755813888)) 549755813888)), .int .i64 ((clampV s6 (wr IntKind.i64 (0 - 549755813888)) 549755813888)), .int .i64 ((clampV s7 (wr IntKind.i64 (0 - 9007199254740992)) 9007199254740992)), .int .i64 ((clampV s8 (wr IntKind.i64 (0 - 9007199254740992)) 9007199254740992)), .int .i64 ((clampV s9 (wr IntKind.i64 (0 - 9007199254740992)) 9007199254740992)), .int .i64 ((clampV s10 (wr IntKind.i64 (0 - 134217728)) 134217728)), .int .i64 ((clampV s11 (wr IntKind.i64 (0 - 134217728)) 134217728)), .int .i64 ((clampV s12 (wr IntKind.i64 (0 - 134217728)) 134217728)), .int .i64 ((clampV s13 (wr IntKind.i64 (0 - 1073741824)) 1073741824)), .int .i64 ((clampV s14 (wr IntKind.i64 (0 - 1073741824)) 1073741824)), .int .i64 ((clampV s15 (wr IntKind.i64 (0 - 1073741824)) 1073741824)), .int .i64 ((clampV s16 (wr IntKind.i64 (0 - 2147483648)) 2147483648)), .int .i64 ((clampV s17 (wr IntKind.i64 (0 - 2147483648)) 2147483648)), .int .i64 ((clampV s18 (wr IntKind.i64 (0 - 2147483648)) 2147483648)), .int .i64 ((clampV s19 (wr IntKind.i64 (0 - 2147483648)) 2147483648)), .int .i64 ((clampV s20 (wr IntKind.i64 (0 - 2147483648)) 2147483648)), .int .i64 ((clampV s21 (wr IntKind.i64 (0 - 2147483648)) 2147483648)), .int .i64 ((clampV s22 (wr IntKind.i64 (0 - 137438953472)) 137438953472)), .int .i64 ((clampV s23 (wr IntKind.i64 (0 - 137438953472)) 137438953472))]), some (flag 58 (hb || clampH s4 (wr IntKind.i64 (0 - 549755813888)) 549755813888 || clampH s5 (wr IntKind.i64 (0 - 549755813888)) 549755813888 || clampH s6 (wr IntKind.i64 (0 - 549755813888)) 549755813888 || clampH s7 (wr IntKind.i64 (0 - 9007199254740992)) 9007199254740992 || clampH s8 (wr IntKind.i64 (0 - 9007199254740992)) 9007199254740992 || clampH s9 (wr IntKind.i64 (0 - 9007199254740992)) 9007199254740992 || clampH s10 (wr IntKind.i64 (0 - 134217728)) 134217728 || clampH s11 (wr IntKind.i64 (0 - 134217728)) 134217728 || clampH s12 (wr IntKind.i64 (0 - 134217728)) 134217728 || clampH s13 (wr IntKind.i64 (0 - 1073741824)) 1073741824 || clampH s14 (wr IntKind.i64 (0 - 1073741824)) 1073741824 || clampH s15 (wr IntKind.i64 (0 - 1073741824)) 1073741824 || clampH s16 (wr IntKind.i64 (0 - 2147483648)) 2147483648 || clampH s17 (wr IntKind.i64 (0 - 2147483648)) 2147483648 || clampH s18 (wr IntKind.i64 (0 - 2147483648)) 2147483648 || clampH s19 (wr IntKind.i64 (0 - 2147483648)) 2147483648 || clampH s20 (wr IntKind.i64 (0 - 2147483648)) 2147483648 || clampH s21 (wr IntKind.i64 (0 - 2147483648)) 2147483648 || clampH s22 (wr IntKind.i64 (0 - 137438953472)) 137438953472 || clampH s23 (wr IntKind.i64 (0 - 137438953472)) 137438953472)), [(!kunB s0 s1 s2 s3, false)]) := by kernel_rfl
theorem sumKeep : SumOK Tryz.prog 13 (accSum 58 keepF) := by
  refine accSum_run (z := Zl) soundK9u (own_of soundK9u Tryz.func13 (by kernel_rfl)) fun args hb v h' cs hF hc => ?_
  unfold keepF at hF
  split at hF
  · rename_i s0 s1 s2 s3 s4 s5 s6 s7 s8 s9 s10 s11 s12 s13 s14 s15 s16 s17 s18 s19 s20 s21 s22 s23
    cases hF
    cases c : kunB s0 s1 s2 s3
    · refine ⟨rfl, 4000, tt 1 [], _, ?_, ae_cons (show (!kunB s0 s1 s2 s3) = true by rw [c]; rfl) ae_nil⟩
      rw [keepR1]
      simp only [keepL, keepH, c, cond_false]
    · refine ⟨rfl, 4000, ff 1 [], _, ?_, ae_cons (show (!kunB s0 s1 s2 s3) = false by rw [c]; rfl) ae_nil⟩
      rw [keepR2]
      simp only [keepL, keepH, c, cond_true]
  · cases hF
noncomputable def K10u : FuncId → Option SumK := more K9u 13 (accSum 58 keepF)
theorem soundK10u : Sound Tryz.prog K10u := soundK9u.more sumKeep
noncomputable def K11u : FuncId → Option SumK := more K10u 86 (accSum 58 (autoF Tryz.prog K10u Zl 2000 86 58))
theorem soundK11u : Sound Tryz.prog K11u := soundK10u.more (autoF_ok soundK10u (own_of soundK10u Tryz.func86 (by kernel_rfl)))
noncomputable def K12u : FuncId → Option SumK := more K11u 80 (accSum 58 (autoF Tryz.prog K11u Zl 2000 80 58))
theorem soundK12u : Sound Tryz.prog K12u := soundK11u.more (autoF_ok soundK11u (own_of soundK11u Tryz.func80 (by kernel_rfl)))
end Go.Proofs.YthbkhoknlbomgaaGreat

/- States with holes: what a stage comes to, but for numbers that do not matter. -/
set_option linter.unusedVariables false
namespace Go.Lr
open Go.RowKit
inductive P1 where
  | lit (a : At)
  | hi
  | hb
def pairsB : List (Nat × Nat) → List (Nat × Nat) → Bool
  | [], [] => true
  | (a, b) :: l, (c, d) :: m => match Nat.beq a c with
    | true => match Nat.beq b d with
      | true => pairsB l m
      | false => false
    | false => false
  | _, _ => false
theorem pairsB_ok : ∀ {l m : List (Nat × Nat)}, pairsB l m = true → l = m
  | [], [], _ => rfl
  | [], _ :: _, h => by simp [pairsB] at h
  | _ :: _, [], h => by simp [pairsB] at h
  | (a, b) :: l, (c, d) :: m, h => by
    unfold pairsB at h
    split at h
    · rename_i h1
      split at h
      · rename_i h2
        rw [Nat.eq_of_beq_eq_true h1, Nat.eq_of_beq_eq_true h2, pairsB_ok h]
      · cases h
    · cases h
def nat3 (a b c d e f : Nat) : Bool := match Nat.beq a b with
  | true => match Nat.beq c d with
    | true => Nat.beq e f
    | false => false
  | false => false
theorem nat3_ok {a b c d e f : Nat} (h : nat3 a b c d e f = true) : a = b ∧ c = d ∧ e = f := by
  unfold nat3 at h
  split at h
  · rename_i h1
    split at h
    · rename_i h2
      exact ⟨Nat.eq_of_beq_eq_true h1, Nat.eq_of_beq_eq_true h2, Nat.eq_of_beq_eq_true h⟩
    · cases h
  · cases h
def eqA : At → At → Bool
  | .int k n, .int l m => match kindEq k l with
    | true => decide (n = m)
    | false => false
  | .bool a, .bool b => match a, b with
    | true, true => true
    | false, false => true
    | _, _ => false
  | .ptr b o, .ptr c p => nat3 b c o p 0 0
  | .nilp, .nilp => true
  | .sl b o l c, .sl b' o' l' c' => match Nat.beq b b' with
    | true => nat3 o o' l l' c c'
    | false => false
  | .slu b l, .slu b' l' => nat3 b b' l l' 0 0
  | .slx b o l c, .slx b' o' l' c' => match Nat.beq b b' with
    | true => nat3 o o' l l' c c'
    | false => false
  | .ptx b o, .ptx c p => nat3 b c o p 0 0
  | .nilsl, .nilsl => true
  | .slt b o n, .slt b' o' n' => nat3 b b' o o' n n'
  | .fn f l, .fn g m => match Nat.beq f g with
    | true => pairsB l m
    | false => false
  | _, _ => false
theorem eqA_ok {a b : At} (h : eqA a b = true) : a = b := by
  unfold eqA at h
  split at h
  · split at h
    · rename_i h1
      rw [kindEq_spec h1, of_decide_eq_true h]
    · cases h
  · split at h <;> first | rfl | cases h
  · obtain ⟨rfl, rfl, _⟩ := nat3_ok h; rfl
  · rfl
  · split at h
    · rename_i h1
      obtain ⟨rfl, rfl, rfl⟩ := nat3_ok h
      rw [Nat.eq_of_beq_eq_true h1]
    · cases h
  · obtain ⟨rfl, rfl, _⟩ := nat3_ok h; rfl
  · split at h
    · rename_i h1
      obtain ⟨rfl, rfl, rfl⟩ := nat3_ok h
      rw [Nat.eq_of_beq_eq_true h1]
    · cases h
  · obtain ⟨rfl, rfl, _⟩ := nat3_ok h; rfl
  · rfl
  · obtain ⟨rfl, rfl, rfl⟩ := nat3_ok h; rfl
  · split at h
    · rename_i h1
      have e : _ = _ := Nat.eq_of_beq_eq_true h1
      rw [e, pairsB_ok h]
    · cases h
  · cases h
def mat1 : P1 → At → Bool
  | .lit a, b => eqA b a
  | .hi, .int .i64 _ => true
  | .hb, .bool _ => true
  | _, _ => false
def fil1 (x : Int) (y : Bool) : P1 → At
  | .lit a => a
  | .hi => .int .i64 x
  | .hb => .bool y
def iA : At → Int
  | .int _ n => n
  | _ => 0
def bA : At → Bool
  | .bool b => b
  | _ => false
theorem mat1_ok {p : P1} {a : At} (h : mat1 p a = true) : a = fil1 (iA a) (bA a) p := by
  unfold mat1 at h
  split at h
  · exact eqA_ok h
  · rfl
  · rfl
  · cases h
def matL : List P1 → List At → Bool
  | [], [] => true
  | p :: ps, a :: l => match mat1 p a with
    | true => matL ps l
    | false => false
  | _, _ => false
def filL (f : Nat → Int) (g : Nat → Bool) : Nat → List P1 → List At
  | _, [] => []
  | o, p :: ps => fil1 (f o) (g o) p :: filL f g (o + 1) ps
def nthA (l : List At) (o : Nat) : At := (l[o]?).getD .nilp
theorem matL_ok : ∀ {ps : List P1} {l : List At} {o : Nat} {f : Nat → Int} {g : Nat → Bool}, matL ps l = true → (∀ k a, l[k]? = some a → f (o + k) = iA a ∧ g (o + k) = bA a) → l = filL f g o ps
  | [], [], _, _, _, _, _ => rfl
  | [], _ :: _, _, _, _, h, _ => by simp [matL] at h
  | _ :: _, [], _, _, _, h, _ => by simp [matL] at h
  | p :: ps, a :: l, o, f, g, h, hf => by
    unfold matL at h
    split at h
    · rename_i h1
      have h0 := hf 0 a rfl
      have e := mat1_ok h1
      simp only [filL]
      rw [show f o = iA a from h0.1, show g o = bA a from h0.2, ← e, ← matL_ok h fun k b hk => by
        have := hf (k + 1) b (by simpa using hk)
        rwa [show o + (k + 1) = o + 1 + k by omega] at this]
    · cases h
theorem matL_ok0 {ps : List P1} {l : List At} (h : matL ps l = true) : l = filL (fun o => iA (nthA l o)) (fun o => bA (nthA l o)) 0 ps :=
  matL_ok h fun k a hk => by simp [nthA, hk]
inductive PV where
  | one (p : P1)
  | agg (l : List P1)
structure PB where
  ty : TypeId
  fr : Nat × Nat
  es : Nat
  cells : List P1
structure Asg where
  F : Nat → Nat → Int
  G : Nat → Nat → Bool
  fs : Nat → Nat → Int
  gs : Nat → Nat → Bool
structure PS where
  live : List (Nat × PV)
  mem : List (Nat × PB)
  nb : Nat
def filV (f : Nat → Int) (g : Nat → Bool) : PV → LV
  | .one p => .v (.one (fil1 (f 0) (g 0) p))
  | .agg l => .v (.agg (filL f g 0 l))
def filB (f : Nat → Int) (g : Nat → Bool) (b : PB) : Blk := ⟨b.ty, b.fr, b.es, filL f g 0 b.cells⟩
def filVs (s : Asg) : List (Nat × PV) → List (Nat × LV)
  | [] => []
  | (i, p) :: l => (i, filV (s.fs i) (s.gs i) p) :: filVs s l
def filM (s : Asg) : List (Nat × PB) → Mem
  | [] => []
  | (i, p) :: l => (i, filB (s.F i) (s.G i) p) :: filM s l
def filS (s : Asg) (p : PS) : Kst := ⟨filVs s p.live, filM s p.mem, p.nb⟩
def matV : PV → LV → Bool
  | .one p, .v (.one a) => mat1 p a
  | .agg l, .v (.agg m) => matL l m
  | _, _ => false
def vCells : LV → List At
  | .v (.one a) => [a]
  | .v (.agg l) => l
  | _ => []
theorem matV_ok {p : PV} {v : LV} (h : matV p v = true) : v = filV (fun o => iA (nthA (vCells v) o)) (fun o => bA (nthA (vCells v) o)) p := by
  unfold matV at h
  split at h
  · rename_i p a
    have e := mat1_ok h
    show _ = LV.v (.one (fil1 (iA a) (bA a) p))
    rw [← e]
  · rename_i l m
    have e := matL_ok0 h
    show _ = LV.v (.agg (filL (fun o => iA (nthA m o)) (fun o => bA (nthA m o)) 0 l))
    rw [← e]
  · cases h
def fr2 (a b : Nat × Nat) : Bool := match a, b with
  | (x, y), (z, w) => nat3 x z y w 0 0
def matB (p : PB) (b : Blk) : Bool := match Nat.beq b.ty p.ty with
  | true => match fr2 b.fr p.fr with
    | true => match Nat.beq b.es p.es with
      | true => matL p.cells b.cells
      | false => false
    | false => false
  | false => false
theorem matB_ok {p : PB} {b : Blk} (h : matB p b = true) : b = filB (fun o => iA (nthA b.cells o)) (fun o => bA (nthA b.cells o)) p := by
  unfold matB at h
  split at h
  · rename_i h1
    split at h
    · rename_i h2
      split at h
      · rename_i h3
        have e := matL_ok0 h
        obtain ⟨ty, ⟨x, y⟩, es, cells⟩ := b
        obtain ⟨ty', ⟨x', y'⟩, es', ps⟩ := p
        simp only [fr2] at h2
        obtain ⟨rfl, rfl, _⟩ := nat3_ok h2
        have e1 : ty = ty' := Nat.eq_of_beq_eq_true h1
        have e2 : es = es' := Nat.eq_of_beq_eq_true h3
        subst e1
        subst e2
        show _ = Blk.mk ty (x, y) es (filL (fun o => iA (nthA cells o)) (fun o => bA (nthA cells o)) 0 ps)
        rw [← e]
      · cases h
    · cases h
  · cases h
def matVs : List (Nat × PV) → List LV → Bool
  | [], [] => true
  | (_, p) :: l, v :: m => match matV p v with
    | true => matVs l m
    | false => false
  | _, _ => false
def matBs : List (Nat × PB) → List (Option Blk) → Bool
  | [], [] => true
  | (_, p) :: l, some b :: m => match matB p b with
    | true => matBs l m
    | false => false
  | _, _ => false
theorem matVs_ok {s : Asg} : ∀ {l : List (Nat × PV)} {m : List LV} {h : Nat → LV}, matVs l m = true → (l.map (·.1)).map h = m → (∀ k, s.fs k = (fun o => iA (nthA (vCells (h k)) o)) ∧ s.gs k = (fun o => bA (nthA (vCells (h k)) o))) → (l.map (·.1)).zip m = filVs s l
  | [], _, _, _, _, _ => rfl
  | (i, p) :: l, [], _, h, _, _ => by simp [matVs] at h
  | (i, p) :: l, v :: m, hh, h, he, hs => by
    unfold matVs at h
    split at h
    · rename_i h1
      simp only [List.map_cons, List.cons.injEq] at he
      have e := matV_ok h1
      simp only [List.map_cons, List.zip_cons_cons, filVs]
      rw [matVs_ok h he.2 hs, (hs i).1, (hs i).2, he.1, ← e]
    · cases h
theorem matBs_ok {s : Asg} : ∀ {l : List (Nat × PB)} {m : List (Option Blk)} {h : Nat → Option Blk}, matBs l m = true → (l.map (·.1)).map h = m →
    (∀ k b, h k = some b → s.F k = (fun o => iA (nthA b.cells o)) ∧ s.G k = (fun o => bA (nthA b.cells o))) → ∃ bs, m = bs.map some ∧ (l.map (·.1)).zip bs = filM s l
  | [], [], _, _, _, _ => ⟨[], rfl, rfl⟩
  | [], _ :: _, _, h, _, _ => by simp [matBs] at h
  | (i, p) :: l, [], _, h, _, _ => by simp [matBs] at h
  | (i, p) :: l, none :: m, _, h, _, _ => by simp [matBs] at h
  | (i, p) :: l, some b :: m, hh, h, he, hs => by
    unfold matBs at h
    split at h
    · rename_i h1
      simp only [List.map_cons, List.cons.injEq] at he
      have e := matB_ok h1
      obtain ⟨bs, g1, g2⟩ := matBs_ok h he.2 hs
      have h2 := hs i b he.1
      refine ⟨b :: bs, by simp [g1], ?_⟩
      simp only [List.map_cons, List.zip_cons_cons, filM]
      rw [g2, h2.1, h2.2, ← e]
    · cases h
def exB : Ex → Ex → Bool
  | .normal, .normal => true
  | .ret, .ret => true
  | .exit a, .exit b => Nat.beq a b
  | _, _ => false
theorem exB_ok {a b : Ex} (h : exB a b = true) : a = b := by
  unfold exB at h
  split at h
  · rfl
  · rfl
  · rw [Nat.eq_of_beq_eq_true h]
  · cases h
def stageB (p : PS) (e : Ex) (r : Option (Ex × List LV × List (Option Blk) × List (Bool × Bool))) : Bool :=
  match r with
  | some (e0, vs, bs, cs) => match exB e0 e with
    | true => match matVs p.live vs with
      | true => match matBs p.mem bs with
        | true => allEqB cs
        | false => false
      | false => false
    | false => false
  | none => false
def ToP (P : Program) (sz : Nat) (c : Code) (A : Kst) (e : Ex) (B : Kst → Prop) : Prop :=
  ∀ E a w, KR E sz A a w → ∀ Q : Exit → Act → World → Prop, (∀ B0, B B0 → ∀ E' a' w', KR E' sz B0 a' w' → Ext w E A.ms w' E' B0.ms → Q e.to a' w') → c.wp P Q a w
def Fil (p : PS) (B : Kst) : Prop := ∃ s, B = filS s p
section
variable {P : Program} {S : FuncId → Option SumK} {z : Md} {sz : Nat}
theorem ToP.run (hs : Sound P S) {c : Code} {A : Kst} {e : Ex} {p : PS} {n : Nat} {dec : List (Option Bool)}
    (hrun : ∀ dead, stageB p e (projS (p.live.map (·.1)) (p.mem.map (·.1)) (Go.Lr.exec P S z n (.code c) (A.st sz dead dec))) = true)
    (hB : ∀ s, canB (filS s p) = true) (hnb : Nat.ble A.nb p.nb = true) : ToP P sz c A e (Fil p) := by
  intro E a w hk Q hQ
  have hr := hk.toR dec
  have h := hrun fun t => a.tmps.getD t undef
  cases hp : projS (p.live.map (·.1)) (p.mem.map (·.1)) (Go.Lr.exec P S z n (.code c) (A.st sz (fun t => a.tmps.getD t undef) dec)) with
  | none => rw [hp] at h; cases h
  | some q =>
    obtain ⟨e0, vs, bs, cs⟩ := q
    rw [hp] at h
    simp only [stageB] at h
    split at h
    · rename_i he
      split at h
      · rename_i hv
        split at h
        · rename_i hb
          have hcs := allEqB_ok h
          have := exB_ok he
          subst this
          unfold projS at hp
          split at hp
          · rename_i e' s' hex
            simp only [Option.some.injEq, Prod.mk.injEq] at hp
            obtain ⟨rfl, gv, gb, rfl⟩ := hp
            obtain ⟨e2, q1, q2, q3, q4, q5, q6⟩ := (exec_sound (binOK P) hs.sums hs.mix hs.ng n).1 c _ _ s' hex hk.le hr.st
            cases q1
            let s : Asg := ⟨fun k o => iA (nthA ((getM s'.mem k).elim [] (·.cells)) o), fun k o => bA (nthA ((getM s'.mem k).elim [] (·.cells)) o), fun k o => iA (nthA (vCells (getT s'.tm k)) o), fun k o => bA (nthA (vCells (getT s'.tm k)) o)⟩
            have e1 : (p.live.map (·.1)).zip vs = filVs s p.live := matVs_ok (h := getT s'.tm) hv gv fun k => ⟨rfl, rfl⟩
            obtain ⟨bs', rfl, e3⟩ := matBs_ok (s := s) (h := getM s'.mem) hb gb fun k b hb => ⟨by show (fun o => iA (nthA ((getM s'.mem k).elim [] (·.cells)) o)) = _; rw [hb]; rfl, by show (fun o => bA (nthA ((getM s'.mem k).elim [] (·.cells)) o)) = _; rw [hb]; rfl⟩
            have hB' : KstOK ⟨(p.live.map (·.1)).zip vs, (p.mem.map (·.1)).zip bs', p.nb⟩ := by rw [e1, e3]; exact canB_ok (hB s)
            have hnb' := Nat.le_of_ble_eq_true hnb
            refine q6 hcs E a w hr Q fun E' a' w' hr' hx => ?_
            have hsub := zip_getM (p.mem.map (·.1)) bs' (getM s'.mem) gb
            refine hQ (filS s p) ⟨s, rfl⟩ E' a' w' ?_ ?_
            · have : filS s p = ⟨(p.live.map (·.1)).zip vs, (p.mem.map (·.1)).zip bs', p.nb⟩ := by rw [e1, e3]; rfl
              rw [this]
              refine ⟨hB', hr'.size.trans q4, hk.le, hr'.defers, fun q hq => ?_, ⟨fun i b hib => hr'.m.rel.blk i b (hsub i b hib), fun i j hi hj he => hr'.m.rel.inj i j ?_ ?_ he⟩⟩
              · rw [hr'.tm q.1, zip_getT (p.live.map (·.1)) vs (getT s'.tm) gv q hq]
              · obtain ⟨b, hib⟩ := Option.isSome_iff_exists.1 hi; simp [hsub i b hib]
              · obtain ⟨b, hjb⟩ := Option.isSome_iff_exists.1 hj; simp [hsub j b hjb]
            · have : (filS s p).ms = (Kst.mk ((p.live.map (·.1)).zip vs) ((p.mem.map (·.1)).zip bs') p.nb).ms := by rw [e1, e3]; rfl
              rw [this]
              refine ⟨hnb', hx.agree, hx.os, hx.tape, hx.output, hx.size, hx.frame, fun i hi => hx.src i ?_⟩
              obtain ⟨b, hib⟩ := Option.isSome_iff_exists.1 hi
              simp [hsub i b hib]
          · cases hp
        · cases h
      · cases h
    · cases h
theorem ToP.mono {c : Code} {A : Kst} {e : Ex} {B C : Kst → Prop} (h : ToP P sz c A e B) (k : ∀ x, B x → C x) : ToP P sz c A e C :=
  fun E a w hr Q hQ => h E a w hr Q fun B0 hB0 => hQ B0 (k B0 hB0)
theorem ToP.seq {c : Code} {A : Kst} {e : Ex} {B C : Kst → Prop} (hc : isSeq c = true) (h : ToP P sz (c1 c) A .normal B) (k : ∀ x, B x → ToP P sz (c2 c) x e C) : ToP P sz c A e C := by
  cases c <;> simp only [isSeq, Bool.false_eq_true] at hc
  intro E a w hr Q hQ
  refine wp_seq (h E a w hr _ fun B0 hB E' a' w' hr' hx' => ?_)
  exact k B0 hB E' a' w' hr' Q fun C0 hC E'' a'' w'' hr'' hx'' => hQ C0 hC E'' a'' w'' hr'' (hx'.trans hx'')
theorem ToP.block {c : Code} {id : Nat} {A : Kst} {e : Ex} {B : Kst → Prop} (hc : blkId c = some id) (h : ToP P sz (c1 c) A e B) (he : e = .exit id ∨ e = .normal) : ToP P sz c A .normal B := by
  cases c <;> simp only [blkId, reduceCtorEq] at hc
  cases hc
  intro E a w hr Q hQ
  refine wp_block (h E a w hr _ fun B0 hB E' a' w' hr' hx' => ?_)
  have := hQ B0 hB E' a' w' hr' hx'
  rcases he with rfl | rfl
  · simpa only [Ex.to, Exit.inBlock, if_true] using this
  · exact this
def RdP (P : Program) (sz : Nat) (c : Code) (m : Nat) (A : Kst) (e : Ex) (B : Kst → Prop) : Prop :=
  ∀ E a w, KR E sz A a w → ∀ Q : Exit → Act → World → Prop, (∀ B0, B B0 → ∀ E' a' w', KR E' sz B0 a' w' → Ext w E A.ms w' E' B0.ms → Q e.to a' w') → Code.rounds P c Q m a w
theorem RdP.last {c : Code} {A : Kst} {e : Ex} {B : Kst → Prop} (he : e ≠ .normal) (h : ToP P sz c A e B) : RdP P sz c 1 A e B := by
  intro E a w hr Q hQ
  rw [rounds_succ]
  refine h E a w hr _ fun B0 hB E' a' w' hr' hx' => ?_
  have := hQ B0 hB E' a' w' hr' hx'
  cases e <;> first | exact absurd rfl he | exact this
theorem RdP.next {c : Code} {A : Kst} {e : Ex} {B C : Kst → Prop} {m : Nat} (h : ToP P sz c A .normal B) (k : ∀ x, B x → RdP P sz c m x e C) : RdP P sz c (m + 1) A e C := by
  intro E a w hr Q hQ
  rw [rounds_succ]
  refine h E a w hr _ fun B0 hB E' a' w' hr' hx' => ?_
  exact k B0 hB E' a' w' hr' Q fun C0 hC E'' a'' w'' hr'' hx'' => hQ C0 hC E'' a'' w'' hr'' (hx'.trans hx'')
theorem ToP.loop {c : Code} {A : Kst} {e : Ex} {B : Kst → Prop} {m : Nat} (hc : isLoop c = true) (h : RdP P sz (c1 c) m A e B) : ToP P sz c A e B := by
  cases c <;> simp only [isLoop, Bool.false_eq_true] at hc
  exact fun E a w hr Q hQ => wp_loop_rounds m (h E a w hr Q hQ)
theorem pure_of_ToP {f : FuncId} {fn : Func} {c : Code} {args : List LV} {B : Kst → Prop} {e : Ex} {v : LV} (ho : Own P f) (hf : P.funcs[f]? = some fn) (hb : fn.body = some c)
    (hle : fn.ntmps ≤ 60000) (hargs : args.length ≤ fn.ntmps) (ha : plainVs args = true) (h : ToP P fn.ntmps c ⟨argsL 0 args, [], 0⟩ e B) (he : e = .normal ∨ e = .ret)
    (hres : ∀ x, B x → ∀ dead, resultsD P fn.results.toList (getT (x.tm dead)) x.mem = some v) (hv : v.ok noP = true) (w : World) : CallOK P f (args.map (LV.den E0)).toArray w fun u w' => u = v.den E0 ∧ Below w.heap.size w w' := by
  have ha' := plainVs_iff.1 ha
  refine callOK_of ho (calls_of_wp hf hb (h E0 _ w ⟨⟨fun q hq => ?_, (argsL_fst args 0).1, fun q hq => ?_, fun i b h => by simp [getM] at h, trivial⟩, by simp; omega, hle, rfl, fun q hq => ?_, ⟨fun i b h => by simp [getM] at h, fun i j h => by simp [getM] at h⟩⟩ _ fun B0 hB E' a' w' hr' hx' => ?_))
  · have := (argsL_mem args 0 q).1 hq
    have := (List.getElem?_eq_some_iff.1 this.2).1
    omega
  · exact LV.ok_mono noP_below (ha' q.2 (List.mem_of_getElem? ((argsL_mem args 0 q).1 hq).2))
  · have := ((argsL_mem args 0 q).1 hq).2
    simp only [Nat.sub_zero] at this
    have hlt := (List.getElem?_eq_some_iff.1 this).1
    simp only [Array.getD_eq_getD_getElem?, Array.getElem?_append, List.size_toArray, List.length_map]
    rw [if_pos hlt]
    simp [this]
  · have hR := hr'.toR []
    have hpost : bodyPost P fn (fun e w' => e = .returned (v.den E0) ∧ Below w.heap.size w w') .ret a' w' := by
      refine ⟨hr'.defers, v.den E', resultsD_spec hR.m.rel hR.tm (hres B0 hB _), ?_, ?_⟩
      · rw [den_noP hv]
      · exact ⟨hx'.os, hx'.tape, hx'.output, hx'.size, fun k hk => hx'.frame k hk fun i hi => by simp [getM, Kst.ms] at hi⟩
    rcases he with rfl | rfl
    · exact hpost
    · exact hpost
end
end Go.Lr
namespace Go.Lr
abbrev pI (n : Int) : P1 := .lit (.int .i64 n)
abbrev pL (a : At) : P1 := .lit a
abbrev pB (x : Bool) : P1 := .lit (.bool x)
def rp : Nat → P1 → List P1
  | 0, _ => []
  | n + 1, p => p :: rp n p
end Go.Lr

/- Opaque summaries, off one run that asks nothing. -/
set_option linter.unusedVariables false
namespace Go.Lr
open Go.RowKit
def okX (ty : TypeId) (n : Nat) (r : Option (LV × Option Blk × List (Bool × Bool))) : Bool :=
  match r with
  | some (.v (.agg l), some b, cs) => match allIB l n with
    | true => match matB ⟨ty, (0, 0), 0, [.hb]⟩ b with
      | true => allEqB cs
      | false => false
    | false => false
  | _ => false
theorem okX_ok {ty : TypeId} {n : Nat} {r : Option (LV × Option Blk × List (Bool × Bool))} (h : okX ty n r = true) : ∃ l h' cs, r = some (.v (.agg l), some (flag ty h'), cs) ∧ AllI l n ∧ ∀ c ∈ cs, c.1 = c.2 := by
  unfold okX at h
  split at h
  · rename_i l b cs
    split at h
    · rename_i h1
      split at h
      · rename_i h2
        refine ⟨l, bA (nthA b.cells 0), cs, ?_, allIB_ok h1, allEqB_ok h⟩
        have e : b = flag ty (bA (nthA b.cells 0)) := matB_ok h2
        rw [← e]
      · cases h
    · cases h
  · cases h
section
variable {P : Program} {S : FuncId → Option SumK} {z : Md}
theorem AllI.okn {l : List At} {n : Nat} (h : AllI l n) : (LV.v (.agg l)).ok noP = true := h.ok
theorem exF_run (hs : Sound P S) {f : FuncId} {ty : TypeId} {okA : List LV → Bool} {n : Nat} (ho : Own P f)
    (h : ∀ args hb, okA args = true → ∃ (k : Nat) (dec : List (Option Bool)), okX ty n ((runF P S z k f (A0 :: args) [(0, flag ty hb)] 1 dec).map (fun r => (r.1, getM r.2.1 0, r.2.2.2))) = true) : SumOK P f (accSum ty (exF P f ty okA n)) := by
  refine exF_ok ho fun args hb hok hp => ?_
  obtain ⟨k, dec, hr⟩ := h args hb hok
  obtain ⟨l, h', cs, hrun, hl, hc⟩ := okX_ok hr
  exact ⟨l, h', hl, fun w L hL => acc_run hs hrun hc hp hl.okn w L hL⟩
end
end Go.Lr

/- strap.Step: opaque; output.Of: by formula; and the rest of the filter over them. -/
namespace Go.Proofs.YthbkhoknlbomgaaGreat
open Go.Lr
set_option linter.unusedVariables false
def okSI : List LV → Bool
  | [.v (.agg [.int .i64 s0, .int .i64 s1, .int .i64 s2, .int .i64 s3, .int .i64 s4, .int .i64 s5, .int .i64 s6, .int .i64 s7, .int .i64 s8, .int .i64 s9, .int .i64 s10, .int .i64 s11, .int .i64 s12, .int .i64 s13, .int .i64 s14, .int .i64 s15, .int .i64 s16, .int .i64 s17, .int .i64 s18, .int .i64 s19, .int .i64 s20, .int .i64 s21, .int .i64 s22, .int .i64 s23]), .v (.agg [.int .i64 i0, .int .i64 i1, .int .i64 i2, .int .i64 i3, .int .i64 i4, .int .i64 i5, .int .i64 i6, .int .i64 i7])] => true
  | _ => false
theorem stepX (s0 s1 s2 s3 s4 s5 s6 s7 s8 s9 s10 s11 s12 s13 s14 s15 s16 s17 s18 s19 s20 s21 s22 s23 i0 i1 i2 i3 i4 i5 i6 i7 : Int) (hb : Bool) : okX 58 24 ((runF Tryz.prog K12u Zl 4000 48 [A0, .v (.agg [.int .i64 s0, .int .i64 s1, .int .i64 s2, .int .i64 s3, .int .i64 s4, .int .i64 s5, .int .i64 s6, .int .i64 s7, .int .i64 s8, .int .i64 s9, .int .i64 s10, .int .i64 s11, .int .i64 s12, .int .i64 s13, .int .i64 s14, .int .i64 s15, .int .i64 s16, .int .i64 s17, .int .i64 s18, .int .i64 s19, .int .i64 s20, .int .i64 s21, .int .i64 s22, .int .i64 s23]), .v (.agg [.int .i64 i0, .int .i64 i1, .int .i64 i2, .int .i64 i3, .int .i64 i4, .int .i64 i5, .int .i64 i6, .int .i64 i7])] [(0, flag 58 hb)] 1 []).map (fun r => (r.1, getM r.2.1 0, r.2.2.2))) = true := by kernel_rfl
theorem sumStepX : SumOK Tryz.prog 48 (accSum 58 (exF Tryz.prog 48 58 okSI 24)) := by
  refine exF_run (z := Zl) soundK12u (own_of soundK12u Tryz.func48 (by kernel_rfl)) fun args hb hok => ?_
  unfold okSI at hok
  split at hok
  · exact ⟨4000, [], stepX _ _ _ _ _ _ _ _ _ _ _ _ _ _ _ _ _ _ _ _ _ _ _ _ _ _ _ _ _ _ _ _ hb⟩
  · cases hok
noncomputable def K13u : FuncId → Option SumK := more K12u 48 (accSum 58 (exF Tryz.prog 48 58 okSI 24))
theorem soundK13u : Sound Tryz.prog K13u := soundK12u.more sumStepX
def outV (t : Int) (s0 s1 s2 s3 s4 s5 s6 s7 s8 s9 s10 s11 s12 s13 s14 s15 s16 s17 s18 s19 s20 s21 s22 s23 : Int) : LV := match keepL s0 s1 s2 s3 s4 s5 s6 s7 s8 s9 s10 s11 s12 s13 s14 s15 s16 s17 s18 s19 s20 s21 s22 s23 with
  | .v (.agg (k0 :: k1 :: k2 :: k3 :: k4 :: k5 :: k6 :: k7 :: k8 :: k9 :: _)) => .v (.agg [.int .i64 t, k0, k1, k2, k3, k4, k5, k6, k7, k8, k9])
  | v => v
def outOfF : List LV → Bool → Option (LV × Bool × List (Bool × Bool))
  | [.v (.agg [.int .i64 s0, .int .i64 s1, .int .i64 s2, .int .i64 s3, .int .i64 s4, .int .i64 s5, .int .i64 s6, .int .i64 s7, .int .i64 s8, .int .i64 s9, .int .i64 s10, .int .i64 s11, .int .i64 s12, .int .i64 s13, .int .i64 s14, .int .i64 s15, .int .i64 s16, .int .i64 s17, .int .i64 s18, .int .i64 s19, .int .i64 s20, .int .i64 s21, .int .i64 s22, .int .i64 s23]), .v (.one (.int .i64 t))], hb => some (outV t s0 s1 s2 s3 s4 s5 s6 s7 s8 s9 s10 s11 s12 s13 s14 s15 s16 s17 s18 s19 s20 s21 s22 s23, keepH hb s0 s1 s2 s3 s4 s5 s6 s7 s8 s9 s10 s11 s12 s13 s14 s15 s16 s17 s18 s19 s20 s21 s22 s23, [])
  | _, _ => none
theorem outOfR (t s0 s1 s2 s3 s4 s5 s6 s7 s8 s9 s10 s11 s12 s13 s14 s15 s16 s17 s18 s19 s20 s21 s22 s23 : Int) (hb : Bool) : (runF Tryz.prog K13u Zl 4000 47 [A0, .v (.agg [.int .i64 s0, .int .i64 s1, .int .i64 s2, .int .i64 s3, .int .i64 s4, .int .i64 s5, .int .i64 s6, .int .i64 s7, .int .i64 s8, .int .i64 s9, .int .i64 s10, .int .i64 s11, .int .i64 s12, .int .i64 s13, .int .i64 s14, .int .i64 s15, .int .i64 s16, .int .i64 s17, .int .i64 s18, .int .i64 s19, .int .i64 s20, .int .i64 s21, .int .i64 s22, .int .i64 s23]), I t] [(0, flag 58 hb)] 1 []).map (fun r => (r.1, getM r.2.1 0, r.2.2.2)) = some (outV t s0 s1 s2 s3 s4 s5 s6 s7 s8 s9 s10 s11 s12 s13 s14 s15 s16 s17 s18 s19 s20 s21 s22 s23, some (flag 58 (keepH hb s0 s1 s2 s3 s4 s5 s6 s7 s8 s9 s10 s11 s12 s13 s14 s15 s16 s17 s18 s19 s20 s21 s22 s23)), []) := by kernel_rfl
theorem sumOutOf : SumOK Tryz.prog 47 (accSum 58 outOfF) := by
  refine accSum_run (z := Zl) soundK13u (own_of soundK13u Tryz.func47 (by kernel_rfl)) fun args hb v h' cs hF hc => ?_
  unfold outOfF at hF
  split at hF
  · cases hF
    exact ⟨rfl, 4000, [], _, outOfR _ _ _ _ _ _ _ _ _ _ _ _ _ _ _ _ _ _ _ _ _ _ _ _ _ hb, ae_nil⟩
  · cases hF
noncomputable def K14u : FuncId → Option SumK := more K13u 47 (accSum 58 outOfF)
theorem soundK14u : Sound Tryz.prog K14u := soundK13u.more sumOutOf
def outPutS : List LV → Option (LV × List (Bool × Bool))
  | [.v (.agg [.int .i64 s0, .int .i64 s1, .int .i64 s2, .int .i64 s3, .int .i64 s4, .int .i64 s5, .int .i64 s6, .int .i64 s7, .int .i64 s8, .int .i64 s9, .int .i64 s10, .int .i64 s11, .int .i64 s12, .int .i64 s13, .int .i64 s14, .int .i64 s15, .int .i64 s16, .int .i64 s17, .int .i64 s18, .int .i64 s19, .int .i64 s20, .int .i64 s21, .int .i64 s22, .int .i64 s23]), .v (.agg [.int .i64 o0, .int .i64 o1, .int .i64 o2, .int .i64 o3, .int .i64 o4, .int .i64 o5, .int .i64 o6, .int .i64 o7, .int .i64 o8, .int .i64 o9, .int .i64 o10])] => some (.v (.agg [.int .i64 o1, .int .i64 o2, .int .i64 o3, .int .i64 o4, .int .i64 o5, .int .i64 o6, .int .i64 o7, .int .i64 o8, .int .i64 o9, .int .i64 o10, .int .i64 s10, .int .i64 s11, .int .i64 s12, .int .i64 s13, .int .i64 s14, .int .i64 s15, .int .i64 s16, .int .i64 s17, .int .i64 s18, .int .i64 s19, .int .i64 s20, .int .i64 s21, .int .i64 s22, .int .i64 s23]), [])
  | _ => none
theorem outPutR (s0 s1 s2 s3 s4 s5 s6 s7 s8 s9 s10 s11 s12 s13 s14 s15 s16 s17 s18 s19 s20 s21 s22 s23 o0 o1 o2 o3 o4 o5 o6 o7 o8 o9 o10 : Int) : (runF Tryz.prog K14u Zl 4000 49 [.v (.agg [.int .i64 s0, .int .i64 s1, .int .i64 s2, .int .i64 s3, .int .i64 s4, .int .i64 s5, .int .i64 s6, .int .i64 s7, .int .i64 s8, .int .i64 s9, .int .i64 s10, .int .i64 s11, .int .i64 s12, .int .i64 s13, .int .i64 s14, .int .i64 s15, .int .i64 s16, .int .i64 s17, .int .i64 s18, .int .i64 s19, .int .i64 s20, .int .i64 s21, .int .i64 s22, .int .i64 s23]), .v (.agg [.int .i64 o0, .int .i64 o1, .int .i64 o2, .int .i64 o3, .int .i64 o4, .int .i64 o5, .int .i64 o6, .int .i64 o7, .int .i64 o8, .int .i64 o9, .int .i64 o10])] [] 0 []).map (fun r => (r.1, r.2.2.2)) = some (.v (.agg [.int .i64 o1, .int .i64 o2, .int .i64 o3, .int .i64 o4, .int .i64 o5, .int .i64 o6, .int .i64 o7, .int .i64 o8, .int .i64 o9, .int .i64 o10, .int .i64 s10, .int .i64 s11, .int .i64 s12, .int .i64 s13, .int .i64 s14, .int .i64 s15, .int .i64 s16, .int .i64 s17, .int .i64 s18, .int .i64 s19, .int .i64 s20, .int .i64 s21, .int .i64 s22, .int .i64 s23]), []) := by kernel_rfl
theorem sumOutPut : SumOK Tryz.prog 49 (pureSum outPutS) := by
  refine pureSum_run (z := Zl) soundK14u (own_of soundK14u Tryz.func49 (by kernel_rfl)) fun args v cs hF hc => ?_
  unfold outPutS at hF
  split at hF
  · cases hF
    exact ⟨4000, [], [], outPutR _ _ _ _ _ _ _ _ _ _ _ _ _ _ _ _ _ _ _ _ _ _ _ _ _ _ _ _ _ _ _ _ _ _ _, by simp⟩
  · cases hF
noncomputable def K15u : FuncId → Option SumK := more K14u 49 (pureSum outPutS)
theorem soundK15u : Sound Tryz.prog K15u := soundK14u.more sumOutPut
noncomputable def K16u : FuncId → Option SumK := more K15u 46 (accSum 58 (autoF Tryz.prog K15u Zl 2000 46 58))
theorem soundK16u : Sound Tryz.prog K16u := soundK15u.more (autoF_ok soundK15u (own_of soundK15u Tryz.func46 (by kernel_rfl)))
noncomputable def K17u : FuncId → Option SumK := more K16u 45 (autoP Tryz.prog K16u Zl 2000 45)
theorem soundK17u : Sound Tryz.prog K17u := soundK16u.more (autoP_ok soundK16u (own_of soundK16u Tryz.func45 (by kernel_rfl)))
noncomputable def K18u : FuncId → Option SumK := more K17u 145 (accSum 58 (autoF Tryz.prog K17u Zl 2000 145 58))
theorem soundK18u : Sound Tryz.prog K18u := soundK17u.more (autoF_ok soundK17u (own_of soundK17u Tryz.func145 (by kernel_rfl)))
noncomputable def K19u : FuncId → Option SumK := more K18u 90 (accSum 58 thS)
theorem soundK19u : Sound Tryz.prog K19u := soundK18u.more (sumTh)
noncomputable def K20u : FuncId → Option SumK := moreG K19u 88 (orGen (narG 0 58 (autoA Tryz.prog K19u Zl 4000 88)) (autoA Tryz.prog K19u Zl 4000 88))
theorem soundK20u : Sound Tryz.prog K20u := soundK19u.moreG (orGen_ok (narG_ok (autoA_ok soundK19u (own_of soundK19u Tryz.func88 (by kernel_rfl)))) (autoA_ok soundK19u (own_of soundK19u Tryz.func88 (by kernel_rfl))))
noncomputable def K21u : FuncId → Option SumK := more K20u 55 (autoP Tryz.prog K20u Zl 2000 55)
theorem soundK21u : Sound Tryz.prog K21u := soundK20u.more (autoP_ok soundK20u (own_of soundK20u Tryz.func55 (by kernel_rfl)))
noncomputable def K22u : FuncId → Option SumK := more K21u 12 (autoP Tryz.prog K21u Zl 2000 12)
theorem soundK22u : Sound Tryz.prog K22u := soundK21u.more (autoP_ok soundK21u (own_of soundK21u Tryz.func12 (by kernel_rfl)))
noncomputable def K23u : FuncId → Option SumK := moreG K22u 14 (orGen (narG 0 58 (autoA Tryz.prog K22u Zl 4000 14)) (autoA Tryz.prog K22u Zl 4000 14))
theorem soundK23u : Sound Tryz.prog K23u := soundK22u.moreG (orGen_ok (narG_ok (autoA_ok soundK22u (own_of soundK22u Tryz.func14 (by kernel_rfl)))) (autoA_ok soundK22u (own_of soundK22u Tryz.func14 (by kernel_rfl))))
noncomputable def K24u : FuncId → Option SumK := moreG K23u 17 (autoA Tryz.prog K23u Zl 4000 17)
theorem soundK24u : Sound Tryz.prog K24u := soundK23u.moreG (autoA_ok soundK23u (own_of soundK23u Tryz.func17 (by kernel_rfl)))
noncomputable def K25u : FuncId → Option SumK := moreG K24u 19 (autoA Tryz.prog K24u Zl 4000 19)
theorem soundK25u : Sound Tryz.prog K25u := soundK24u.moreG (autoA_ok soundK24u (own_of soundK24u Tryz.func19 (by kernel_rfl)))
noncomputable def K26u : FuncId → Option SumK := moreG K25u 21 (orGen (narG 1 58 (autoA Tryz.prog K25u Zl 4000 21)) (autoA Tryz.prog K25u Zl 4000 21))
theorem soundK26u : Sound Tryz.prog K26u := soundK25u.moreG (orGen_ok (narG_ok (autoA_ok soundK25u (own_of soundK25u Tryz.func21 (by kernel_rfl)))) (autoA_ok soundK25u (own_of soundK25u Tryz.func21 (by kernel_rfl))))
noncomputable def K27u : FuncId → Option SumK := moreG K26u 38 (autoA Tryz.prog K26u Zl 4000 38)
theorem soundK27u : Sound Tryz.prog K27u := soundK26u.moreG (autoA_ok soundK26u (own_of soundK26u Tryz.func38 (by kernel_rfl)))
noncomputable def K28u : FuncId → Option SumK := moreG K27u 22 (orGen (narG 1 58 (autoA Tryz.prog K27u Zl 4000 22)) (autoA Tryz.prog K27u Zl 4000 22))
theorem soundK28u : Sound Tryz.prog K28u := soundK27u.moreG (orGen_ok (narG_ok (autoA_ok soundK27u (own_of soundK27u Tryz.func22 (by kernel_rfl)))) (autoA_ok soundK27u (own_of soundK27u Tryz.func22 (by kernel_rfl))))
noncomputable def K29u : FuncId → Option SumK := moreG K28u 89 (orGen (narG 1 58 (autoA Tryz.prog K28u Zl 4000 89)) (autoA Tryz.prog K28u Zl 4000 89))
theorem soundK29u : Sound Tryz.prog K29u := soundK28u.moreG (orGen_ok (narG_ok (autoA_ok soundK28u (own_of soundK28u Tryz.func89 (by kernel_rfl)))) (autoA_ok soundK28u (own_of soundK28u Tryz.func89 (by kernel_rfl))))
noncomputable def K30u : FuncId → Option SumK := moreG K29u 52 (autoA Tryz.prog K29u Zl 4000 52)
theorem soundK30u : Sound Tryz.prog K30u := soundK29u.moreG (autoA_ok soundK29u (own_of soundK29u Tryz.func52 (by kernel_rfl)))
noncomputable def K31u : FuncId → Option SumK := moreG K30u 121 (autoA Tryz.prog K30u Zl 4000 121)
theorem soundK31u : Sound Tryz.prog K31u := soundK30u.moreG (autoA_ok soundK30u (own_of soundK30u Tryz.func121 (by kernel_rfl)))
noncomputable def K32u : FuncId → Option SumK := moreG K31u 54 (autoA Tryz.prog K31u Zl 4000 54)
theorem soundK32u : Sound Tryz.prog K32u := soundK31u.moreG (autoA_ok soundK31u (own_of soundK31u Tryz.func54 (by kernel_rfl)))
noncomputable def K33u : FuncId → Option SumK := moreG K32u 114 (autoA Tryz.prog K32u Zl 4000 114)
theorem soundK33u : Sound Tryz.prog K33u := soundK32u.moreG (autoA_ok soundK32u (own_of soundK32u Tryz.func114 (by kernel_rfl)))
noncomputable def K34u : FuncId → Option SumK := moreG K33u 58 (orGen (narG 1 58 (autoA Tryz.prog K33u Zl 4000 58)) (autoA Tryz.prog K33u Zl 4000 58))
theorem soundK34u : Sound Tryz.prog K34u := soundK33u.moreG (orGen_ok (narG_ok (autoA_ok soundK33u (own_of soundK33u Tryz.func58 (by kernel_rfl)))) (autoA_ok soundK33u (own_of soundK33u Tryz.func58 (by kernel_rfl))))
noncomputable def K35u : FuncId → Option SumK := moreG K34u 27 (autoA Tryz.prog K34u Zl 4000 27)
theorem soundK35u : Sound Tryz.prog K35u := soundK34u.moreG (autoA_ok soundK34u (own_of soundK34u Tryz.func27 (by kernel_rfl)))
noncomputable def K36u : FuncId → Option SumK := moreG K35u 28 (autoA Tryz.prog K35u Zl 4000 28)
theorem soundK36u : Sound Tryz.prog K36u := soundK35u.moreG (autoA_ok soundK35u (own_of soundK35u Tryz.func28 (by kernel_rfl)))
noncomputable def K37u : FuncId → Option SumK := more K36u 8 (pureSum stillS)
theorem soundK37u : Sound Tryz.prog K37u := soundK36u.more (sumStill)
end Go.Proofs.YthbkhoknlbomgaaGreat

/- astrolabetop.awake: stage by stage; numbers behind the tilt do not matter. -/
namespace Go.Proofs.YthbkhoknlbomgaaGreat
open Go.Lr
set_option linter.unusedVariables false
def zF : Md := ⟨false, false, false⟩
def wPar : List Go.Lr.P1 := [pI 8000, pI 40000, pI 16] ++ rp 7 (pI 5) ++ [pI 1000000, pI 1000000, pI 1000000, pI 1000000, pI 1000000, pI 1000000, pI 1048576, pI 1048576, pI 1048576, pI 1048576, pI 17179869184, pI 17179869184, pI 17179869184, pI 16384, pI 16384, pI 16384, pI 1024, pI 1024, pI 1024, pI 65536, pI 65536, pI 65536, pI 16384, pI 16384, pI 16384, pI 16384, pI 16384, pI 16384, pI 17179869184, pI 17179869184, pI 68719476736, pI 68719476736, pI 68719476736, pI 68719476736, pI 17592186044416, pI 17592186044416, pI 17592186044416, pI 17592186044416, pI 17592186044416, pI 17592186044416, pI 67108864, pI 67108864, pI 67108864, pI 4294967296, pI 4294967296, pI 4294967296, pI 17179869184, pI 17179869184, pI 17179869184, pI 17179869184, pI 17179869184, pI 17179869184, pI 17592186044416, pI 17592186044416, pI 5000000, pI 68719476736, pI 1, pI 268435456, pI 32, pI 0, pI 0, pI 0]
def wVar : List Go.Lr.P1 := [pI 68719476736, pI 68719476736, pI 68719476736, pI 68719476736, pI 17592186044416, pI 17592186044416, pI 17592186044416, pI 17592186044416, pI 17592186044416, pI 17592186044416, pI 67108864, pI 67108864, pI 67108864, pI 4294967296, pI 4294967296, pI 4294967296, pI 17179869184, pI 17179869184, pI 17179869184, pI 17179869184, pI 17179869184, pI 17179869184, pI 17592186044416, pI 17592186044416]
def wMon : List Go.Lr.P1 := [pI 0, pI 0, pB false, pI 0, pI 1000000, pI 5, pI 0, pI 0, pB false, pI 1, pI 1000000, pI 5, pI 0, pI 0, pB false, pI 2, pI 1000000, pI 5, pI 0, pI 0, pB false, pI 3, pI 1000000, pI 5, pI 0, pI 0, pB false, pI 4, pI 1000000, pI 5, pI 0, pI 0, pB false, pI 5, pI 1000000, pI 5, pI 0]
def wImu : List Go.Lr.P1 := [pI 8000, pI 0, pI 0, pI 0, pI 0, pI 0, pI (-84238486)]
def wPtr : List Go.Lr.P1 := [pL (.ptr 20 0), pL (.ptr 21 0), pL (.ptr 22 0), pL (.ptr 23 0), pL (.ptr 24 0), pL (.ptr 25 0), pL (.ptr 18 0)]
def wSum : List Go.Lr.P1 := [pI 1073741824] ++ rp 9 (pI 0) ++ [pL .nilsl]
def wFr : Nat × PB := (16, ⟨111, (0, 0), 0, [pI 0, pI 0, pI 0, pI 12157770197, pI 12239707452]⟩)
def wMo : Nat × PB := (18, ⟨120, (0, 0), 0, wMon⟩)
def wBuf (h : Int) : List (Nat × PB) := [(20, ⟨128, (0, 0), 0, [pI 0, pI 0, pI 0, pI 0, pI 0, pI 16, pL .nilsl, pI h]⟩), (21, ⟨128, (0, 0), 0, [pI 0, pI 0, pI 0, pI 0, pI 0, pI 16, pL .nilsl, pI h]⟩), (22, ⟨128, (0, 0), 0, [pI 0, pI 0, pI 0, pI 0, pI 0, pI 16, pL .nilsl, pI h]⟩), (23, ⟨128, (0, 0), 0, [pI 0, pI 0, pI 0, pI 0, pI 0, pI 16, pL .nilsl, pI h]⟩), (24, ⟨128, (0, 0), 0, [pI 0, pI 0, pI 0, pI 0, pI 0, pI 16, pL .nilsl, pI h]⟩), (25, ⟨128, (0, 0), 0, [pI 0, pI 0, pI 0, pI 0, pI 0, pI 16, pL .nilsl, pI h]⟩)]
def pw_w0 : PS := ⟨[], [], 0⟩
theorem tw_w0 (s : Asg) : ToP Tryz.prog 44 (c1 (bodyF Tryz.prog 4)) (⟨[], [], 0⟩ : Kst) .normal (Fil pw_w0) := ToP.run (z := zF) (n := 20000) (dec := []) soundK37u (fun dead => by kernel_rfl) (fun s => by kernel_rfl) (by kernel_rfl)
def pw_w1 : PS := ⟨[(1, .one (pL (.ptr 9 0))), (2, .one (pI 0))], [(9, ⟨72, (0, 0), 0, wPar ++ [pB false, pI 1073741824] ++ rp 299 (pI 0) ++ wVar ++ [pL (.ptr 16 0), pL (.ptr 17 0), pL .nilsl] ++ wPtr ++ [pI 0, pI 0, pB false, pB false, pL (.ptr 19 0), pB false, pI 0, pI 0, pI 0, pI 0, pB false, pB false, pB false, pI 0, pI 0, pI 0] ++ wSum⟩), wFr, (17, ⟨113, (0, 0), 0, [pI 8000] ++ rp 8 (pI 0) ++ [pB false]⟩), wMo, (19, ⟨123, (0, 0), 0, [pI 32, pI 268435456, pL .nilsl]⟩)] ++ wBuf (-9223372036854775808), 26⟩
theorem tw_w1 (s : Asg) : ToP Tryz.prog 44 (c1 (c2 (bodyF Tryz.prog 4))) (filS s pw_w0) .normal (Fil pw_w1) := ToP.run (z := zF) (n := 20000) (dec := []) soundK37u (fun dead => by kernel_rfl) (fun s => by kernel_rfl) (by kernel_rfl)
def pw_w2 : PS := ⟨[(1, .one (pL (.ptr 9 0)))], [(9, ⟨72, (0, 0), 0, wPar ++ [pB false, pI 1073741824] ++ rp 299 (pI 0) ++ wVar ++ [pL (.ptr 16 0), pL (.ptr 17 0), pL .nilsl] ++ wPtr ++ [pI 0, pI 0, pB false, pB false, pL (.ptr 19 0), pB false, pI 0, pI 0, pI 0, pI 0, pB false, pB false, pB false, pI 0, pI 0, pI 0] ++ wSum⟩), wFr, (17, ⟨113, (0, 0), 0, [pI 8000] ++ rp 8 (pI 0) ++ [pB false]⟩), wMo, (19, ⟨123, (0, 0), 0, [pI 32, pI 268435456, pL .nilsl]⟩)] ++ wBuf (-9223372036854775808), 26⟩
theorem tw_w2 (s : Asg) : ToP Tryz.prog 44 (c1 (c2 (c2 (bodyF Tryz.prog 4)))) (filS s pw_w1) .normal (Fil pw_w2) := ToP.run (z := zF) (n := 20000) (dec := []) soundK37u (fun dead => by kernel_rfl) (fun s => by kernel_rfl) (by kernel_rfl)
def pw_w3 : PS := ⟨[(1, .one (pL (.ptr 9 0))), (3, .one (pI 1))], [(9, ⟨72, (0, 0), 0, wPar ++ [pB false, pI 1073741824] ++ rp 299 (pI 0) ++ wVar ++ [pL (.ptr 16 0), pL (.ptr 17 0), pL .nilsl] ++ wPtr ++ [pI 0, pI 0, pB false, pB false, pL (.ptr 19 0), pB false, pI 0, pI 0, pI 0, pI 0, pB false, pB false, pB false, pI 0, pI 0, pI 0] ++ wSum⟩), wFr, (17, ⟨113, (0, 0), 0, [pI 8000] ++ rp 8 (pI 0) ++ [pB false]⟩), wMo, (19, ⟨123, (0, 0), 0, [pI 32, pI 268435456, pL .nilsl]⟩)] ++ wBuf (-9223372036854775808), 26⟩
theorem tw_w3 (s : Asg) : ToP Tryz.prog 44 (c1 (c1 (c2 (c2 (c2 (bodyF Tryz.prog 4)))))) (filS s pw_w2) .normal (Fil pw_w3) := ToP.run (z := zF) (n := 20000) (dec := []) soundK37u (fun dead => by kernel_rfl) (fun s => by kernel_rfl) (by kernel_rfl)
def pw_r1 : PS := ⟨[(1, .one (pL (.ptr 9 0))), (3, .one (pI 2))], [(9, ⟨72, (0, 0), 0, wPar ++ [pB false, pI 1073741824] ++ rp 299 (pI 0) ++ wVar ++ [pL (.ptr 16 0), pL (.ptr 17 0), pL (.slu 32 1)] ++ wPtr ++ [pI 0, pI 0, pB false, pB false, pL (.ptr 19 0), pB false, pI 0, pI 0, pI 0, pI 0, pB false, pB false, pB false, pI 0, pI 0, pI 0] ++ wSum⟩), wFr, (17, ⟨113, (0, 0), 0, [pI 8000, pI 8000] ++ rp 7 (pI 0) ++ [pB true]⟩), wMo, (19, ⟨123, (0, 0), 0, [pI 32, pI 268435456, pL .nilsl]⟩)] ++ wBuf (-9223372036854775808) ++ [(32, ⟨39, (0, 0), 8, [pI 8000] ++ wImu⟩)], 33⟩
theorem tw_r1 (s : Asg) : ToP Tryz.prog 44 (c1 (c1 (c2 (c1 (c2 (c2 (c2 (bodyF Tryz.prog 4)))))))) (filS s pw_w3) .normal (Fil pw_r1) := ToP.run (z := zF) (n := 20000) (dec := []) soundK37u (fun dead => by kernel_rfl) (fun s => by kernel_rfl) (by kernel_rfl)
def pw_r2 : PS := ⟨[(1, .one (pL (.ptr 9 0))), (3, .one (pI 3))], [(9, ⟨72, (0, 0), 0, wPar ++ [pB false, pI 1073741824] ++ rp 299 (pI 0) ++ wVar ++ [pL (.ptr 16 0), pL (.ptr 17 0), pL (.slu 39 2)] ++ wPtr ++ [pI 0, pI 0, pB false, pB false, pL (.ptr 19 0), pB false, pI 0, pI 0, pI 0, pI 0, pB false, pB false, pB false, pI 0, pI 0, pI 0] ++ wSum⟩), wFr, (17, ⟨113, (0, 0), 0, [pI 8000, pI 16000] ++ rp 7 (pI 0) ++ [pB true]⟩), wMo, (19, ⟨123, (0, 0), 0, [pI 32, pI 268435456, pL .nilsl]⟩)] ++ wBuf (-9223372036854775808) ++ [(39, ⟨39, (0, 0), 8, [pI 8000] ++ wImu ++ [pI 16000] ++ wImu⟩)], 40⟩
theorem tw_r2 (s : Asg) : ToP Tryz.prog 44 (c1 (c1 (c2 (c1 (c2 (c2 (c2 (bodyF Tryz.prog 4)))))))) (filS s pw_r1) .normal (Fil pw_r2) := ToP.run (z := zF) (n := 20000) (dec := []) soundK37u (fun dead => by kernel_rfl) (fun s => by kernel_rfl) (by kernel_rfl)
def pw_r3 : PS := ⟨[(1, .one (pL (.ptr 9 0))), (3, .one (pI 4))], [(9, ⟨72, (0, 0), 0, wPar ++ [pB false, pI 1073741824] ++ rp 299 (pI 0) ++ wVar ++ [pL (.ptr 16 0), pL (.ptr 17 0), pL (.slu 46 3)] ++ wPtr ++ [pI 0, pI 0, pB false, pB false, pL (.ptr 19 0), pB false, pI 0, pI 0, pI 0, pI 0, pB false, pB false, pB false, pI 0, pI 0, pI 0] ++ wSum⟩), wFr, (17, ⟨113, (0, 0), 0, [pI 8000, pI 24000] ++ rp 7 (pI 0) ++ [pB true]⟩), wMo, (19, ⟨123, (0, 0), 0, [pI 32, pI 268435456, pL .nilsl]⟩)] ++ wBuf (-9223372036854775808) ++ [(46, ⟨39, (0, 0), 8, [pI 8000] ++ wImu ++ [pI 16000] ++ wImu ++ [pI 24000] ++ wImu⟩)], 47⟩
theorem tw_r3 (s : Asg) : ToP Tryz.prog 44 (c1 (c1 (c2 (c1 (c2 (c2 (c2 (bodyF Tryz.prog 4)))))))) (filS s pw_r2) .normal (Fil pw_r3) := ToP.run (z := zF) (n := 20000) (dec := []) soundK37u (fun dead => by kernel_rfl) (fun s => by kernel_rfl) (by kernel_rfl)
def pw_r4 : PS := ⟨[(1, .one (pL (.ptr 9 0))), (3, .one (pI 5))], [(9, ⟨72, (0, 0), 0, wPar ++ [pB false, pI 1073741824] ++ rp 299 (pI 0) ++ wVar ++ [pL (.ptr 16 0), pL (.ptr 17 0), pL (.slu 53 4)] ++ wPtr ++ [pI 0, pI 0, pB false, pB false, pL (.ptr 19 0), pB false, pI 0, pI 0, pI 0, pI 0, pB false, pB false, pB false, pI 0, pI 0, pI 0] ++ wSum⟩), wFr, (17, ⟨113, (0, 0), 0, [pI 8000, pI 32000] ++ rp 7 (pI 0) ++ [pB true]⟩), wMo, (19, ⟨123, (0, 0), 0, [pI 32, pI 268435456, pL .nilsl]⟩)] ++ wBuf (-9223372036854775808) ++ [(53, ⟨39, (0, 0), 8, [pI 8000] ++ wImu ++ [pI 16000] ++ wImu ++ [pI 24000] ++ wImu ++ [pI 32000] ++ wImu⟩)], 54⟩
theorem tw_r4 (s : Asg) : ToP Tryz.prog 44 (c1 (c1 (c2 (c1 (c2 (c2 (c2 (bodyF Tryz.prog 4)))))))) (filS s pw_r3) .normal (Fil pw_r4) := ToP.run (z := zF) (n := 20000) (dec := []) soundK37u (fun dead => by kernel_rfl) (fun s => by kernel_rfl) (by kernel_rfl)
def pw_r5 : PS := ⟨[(1, .one (pL (.ptr 9 0))), (3, .one (pI 6))], [(9, ⟨72, (0, 0), 0, wPar ++ [pB false, pI 1073741824] ++ rp 299 (pI 0) ++ wVar ++ [pL (.ptr 16 0), pL (.ptr 17 0), pL (.slu 60 5)] ++ wPtr ++ [pI 0, pI 0, pB false, pB false, pL (.ptr 19 0), pB false, pI 0, pI 0, pI 0, pI 0, pB false, pB false, pB false, pI 0, pI 0, pI 0] ++ wSum⟩), wFr, (17, ⟨113, (0, 0), 0, [pI 8000, pI 40000] ++ rp 7 (pI 0) ++ [pB true]⟩), wMo, (19, ⟨123, (0, 0), 0, [pI 32, pI 268435456, pL .nilsl]⟩)] ++ wBuf (-9223372036854775808) ++ [(60, ⟨39, (0, 0), 8, [pI 8000] ++ wImu ++ [pI 16000] ++ wImu ++ [pI 24000] ++ wImu ++ [pI 32000] ++ wImu ++ [pI 40000] ++ wImu⟩)], 61⟩
theorem tw_r5 (s : Asg) : ToP Tryz.prog 44 (c1 (c1 (c2 (c1 (c2 (c2 (c2 (bodyF Tryz.prog 4)))))))) (filS s pw_r4) .normal (Fil pw_r5) := ToP.run (z := zF) (n := 20000) (dec := []) soundK37u (fun dead => by kernel_rfl) (fun s => by kernel_rfl) (by kernel_rfl)
def pw_r6 : PS := ⟨[(1, .one (pL (.ptr 9 0))), (3, .one (pI 7))], [(9, ⟨72, (0, 0), 0, wPar ++ [pB false, pI 1073741824] ++ rp 299 (pI 0) ++ wVar ++ [pL (.ptr 16 0), pL (.ptr 17 0), pL (.slu 69 5)] ++ wPtr ++ [pI 0, pI 0, pB false, pB false, pL (.ptr 19 0), pB false, pI 1, pI 0, pI 0, pI (-84238486), pB false, pB false, pB false, pI 0, pI 8000, pI 0] ++ wSum⟩), wFr, (17, ⟨113, (0, 0), 0, [pI 8000, pI 48000] ++ rp 7 (pI 0) ++ [pB true]⟩), wMo, (19, ⟨123, (0, 0), 0, [pI 32, pI 268435456, pL .nilsl]⟩)] ++ wBuf 8000 ++ [(69, ⟨39, (0, 0), 8, [pI 16000] ++ wImu ++ [pI 24000] ++ wImu ++ [pI 32000] ++ wImu ++ [pI 40000] ++ wImu ++ [pI 48000] ++ wImu⟩)], 91⟩
theorem tw_r6 (s : Asg) : ToP Tryz.prog 44 (c1 (c1 (c2 (c1 (c2 (c2 (c2 (bodyF Tryz.prog 4)))))))) (filS s pw_r5) .normal (Fil pw_r6) := ToP.run (z := zF) (n := 20000) (dec := []) soundK37u (fun dead => by kernel_rfl) (fun s => by kernel_rfl) (by kernel_rfl)
def pw_r7 : PS := ⟨[(1, .one (pL (.ptr 9 0))), (3, .one (pI 8))], [(9, ⟨72, (0, 0), 0, wPar ++ [pB false, pI 1073741824] ++ rp 299 (pI 0) ++ wVar ++ [pL (.ptr 16 0), pL (.ptr 17 0), pL (.slu 99 5)] ++ wPtr ++ [pI 0, pI 0, pB false, pB false, pL (.ptr 19 0), pB false, pI 2, pI 0, pI 0, pI (-168476972), pB false, pB false, pB false, pI 0, pI 16000, pI 0] ++ wSum⟩), wFr, (17, ⟨113, (0, 0), 0, [pI 8000, pI 56000] ++ rp 7 (pI 0) ++ [pB true]⟩), wMo, (19, ⟨123, (0, 0), 0, [pI 32, pI 268435456, pL .nilsl]⟩)] ++ wBuf 16000 ++ [(99, ⟨39, (0, 0), 8, [pI 24000] ++ wImu ++ [pI 32000] ++ wImu ++ [pI 40000] ++ wImu ++ [pI 48000] ++ wImu ++ [pI 56000] ++ wImu⟩)], 121⟩
theorem tw_r7 (s : Asg) : ToP Tryz.prog 44 (c1 (c1 (c2 (c1 (c2 (c2 (c2 (bodyF Tryz.prog 4)))))))) (filS s pw_r6) .normal (Fil pw_r7) := ToP.run (z := zF) (n := 20000) (dec := []) soundK37u (fun dead => by kernel_rfl) (fun s => by kernel_rfl) (by kernel_rfl)
def pw_r8 : PS := ⟨[(1, .one (pL (.ptr 9 0))), (3, .one (pI 9))], [(9, ⟨72, (0, 0), 0, wPar ++ [pB false, pI 1073741824] ++ rp 299 (pI 0) ++ wVar ++ [pL (.ptr 16 0), pL (.ptr 17 0), pL (.slu 129 5)] ++ wPtr ++ [pI 0, pI 0, pB false, pB false, pL (.ptr 19 0), pB false, pI 3, pI 0, pI 0, pI (-252715458), pB false, pB false, pB false, pI 0, pI 24000, pI 0] ++ wSum⟩), wFr, (17, ⟨113, (0, 0), 0, [pI 8000, pI 64000] ++ rp 7 (pI 0) ++ [pB true]⟩), wMo, (19, ⟨123, (0, 0), 0, [pI 32, pI 268435456, pL .nilsl]⟩)] ++ wBuf 24000 ++ [(129, ⟨39, (0, 0), 8, [pI 32000] ++ wImu ++ [pI 40000] ++ wImu ++ [pI 48000] ++ wImu ++ [pI 56000] ++ wImu ++ [pI 64000] ++ wImu⟩)], 151⟩
theorem tw_r8 (s : Asg) : ToP Tryz.prog 44 (c1 (c1 (c2 (c1 (c2 (c2 (c2 (bodyF Tryz.prog 4)))))))) (filS s pw_r7) .normal (Fil pw_r8) := ToP.run (z := zF) (n := 20000) (dec := []) soundK37u (fun dead => by kernel_rfl) (fun s => by kernel_rfl) (by kernel_rfl)
def pw_r9 : PS := ⟨[(1, .one (pL (.ptr 9 0))), (3, .one (pI 10))], [(9, ⟨72, (0, 0), 0, wPar ++ [pB false, pI 1073741824] ++ rp 299 (pI 0) ++ wVar ++ [pL (.ptr 16 0), pL (.ptr 17 0), pL (.slu 159 5)] ++ wPtr ++ [pI 0, pI 0, pB false, pB false, pL (.ptr 19 0), pB false, pI 4, pI 0, pI 0, pI (-336953944), pB false, pB false, pB false, pI 0, pI 32000, pI 0] ++ wSum⟩), wFr, (17, ⟨113, (0, 0), 0, [pI 8000, pI 72000] ++ rp 7 (pI 0) ++ [pB true]⟩), wMo, (19, ⟨123, (0, 0), 0, [pI 32, pI 268435456, pL .nilsl]⟩)] ++ wBuf 32000 ++ [(159, ⟨39, (0, 0), 8, [pI 40000] ++ wImu ++ [pI 48000] ++ wImu ++ [pI 56000] ++ wImu ++ [pI 64000] ++ wImu ++ [pI 72000] ++ wImu⟩)], 181⟩
theorem tw_r9 (s : Asg) : ToP Tryz.prog 44 (c1 (c1 (c2 (c1 (c2 (c2 (c2 (bodyF Tryz.prog 4)))))))) (filS s pw_r8) .normal (Fil pw_r9) := ToP.run (z := zF) (n := 20000) (dec := []) soundK37u (fun dead => by kernel_rfl) (fun s => by kernel_rfl) (by kernel_rfl)
def pw_r10 : PS := ⟨[(1, .one (pL (.ptr 9 0))), (3, .one (pI 11))], [(9, ⟨72, (0, 0), 0, wPar ++ [pB false, pI 1073741824] ++ rp 299 (pI 0) ++ wVar ++ [pL (.ptr 16 0), pL (.ptr 17 0), pL (.slu 189 5)] ++ wPtr ++ [pI 0, pI 0, pB false, pB false, pL (.ptr 19 0), pB false, pI 5, pI 0, pI 0, pI (-421192430), pB false, pB false, pB false, pI 0, pI 40000, pI 0] ++ wSum⟩), wFr, (17, ⟨113, (0, 0), 0, [pI 8000, pI 80000] ++ rp 7 (pI 0) ++ [pB true]⟩), wMo, (19, ⟨123, (0, 0), 0, [pI 32, pI 268435456, pL .nilsl]⟩)] ++ wBuf 40000 ++ [(189, ⟨39, (0, 0), 8, [pI 48000] ++ wImu ++ [pI 56000] ++ wImu ++ [pI 64000] ++ wImu ++ [pI 72000] ++ wImu ++ [pI 80000] ++ wImu⟩)], 211⟩
theorem tw_r10 (s : Asg) : ToP Tryz.prog 44 (c1 (c1 (c2 (c1 (c2 (c2 (c2 (bodyF Tryz.prog 4)))))))) (filS s pw_r9) .normal (Fil pw_r10) := ToP.run (z := zF) (n := 20000) (dec := []) soundK37u (fun dead => by kernel_rfl) (fun s => by kernel_rfl) (by kernel_rfl)
def pw_r11 : PS := ⟨[(1, .one (pL (.ptr 9 0))), (3, .one (pI 12))], [(9, ⟨72, (0, 0), 0, wPar ++ [pB false, pI 1073741824] ++ rp 299 (pI 0) ++ wVar ++ [pL (.ptr 16 0), pL (.ptr 17 0), pL (.slu 219 5)] ++ wPtr ++ [pI 0, pI 0, pB false, pB false, pL (.ptr 19 0), pB false, pI 6, pI 0, pI 0, pI (-505430916), pB false, pB false, pB false, pI 0, pI 48000, pI 0] ++ wSum⟩), wFr, (17, ⟨113, (0, 0), 0, [pI 8000, pI 88000] ++ rp 7 (pI 0) ++ [pB true]⟩), wMo, (19, ⟨123, (0, 0), 0, [pI 32, pI 268435456, pL .nilsl]⟩)] ++ wBuf 48000 ++ [(219, ⟨39, (0, 0), 8, [pI 56000] ++ wImu ++ [pI 64000] ++ wImu ++ [pI 72000] ++ wImu ++ [pI 80000] ++ wImu ++ [pI 88000] ++ wImu⟩)], 241⟩
theorem tw_r11 (s : Asg) : ToP Tryz.prog 44 (c1 (c1 (c2 (c1 (c2 (c2 (c2 (bodyF Tryz.prog 4)))))))) (filS s pw_r10) .normal (Fil pw_r11) := ToP.run (z := zF) (n := 20000) (dec := []) soundK37u (fun dead => by kernel_rfl) (fun s => by kernel_rfl) (by kernel_rfl)
def pw_r12 : PS := ⟨[(1, .one (pL (.ptr 9 0))), (3, .one (pI 13))], [(9, ⟨72, (0, 0), 0, wPar ++ [pB false, pI 1073741824] ++ rp 299 (pI 0) ++ wVar ++ [pL (.ptr 16 0), pL (.ptr 17 0), pL (.slu 249 5)] ++ wPtr ++ [pI 0, pI 0, pB false, pB false, pL (.ptr 19 0), pB false, pI 7, pI 0, pI 0, pI (-589669402), pB false, pB false, pB false, pI 0, pI 56000, pI 0] ++ wSum⟩), wFr, (17, ⟨113, (0, 0), 0, [pI 8000, pI 96000] ++ rp 7 (pI 0) ++ [pB true]⟩), wMo, (19, ⟨123, (0, 0), 0, [pI 32, pI 268435456, pL .nilsl]⟩)] ++ wBuf 56000 ++ [(249, ⟨39, (0, 0), 8, [pI 64000] ++ wImu ++ [pI 72000] ++ wImu ++ [pI 80000] ++ wImu ++ [pI 88000] ++ wImu ++ [pI 96000] ++ wImu⟩)], 271⟩
theorem tw_r12 (s : Asg) : ToP Tryz.prog 44 (c1 (c1 (c2 (c1 (c2 (c2 (c2 (bodyF Tryz.prog 4)))))))) (filS s pw_r11) .normal (Fil pw_r12) := ToP.run (z := zF) (n := 20000) (dec := []) soundK37u (fun dead => by kernel_rfl) (fun s => by kernel_rfl) (by kernel_rfl)
def pw_r13 : PS := ⟨[(1, .one (pL (.ptr 9 0))), (3, .one (pI 14))], [(9, ⟨72, (0, 0), 0, wPar ++ [pB false, pI 1073741824] ++ rp 299 (pI 0) ++ wVar ++ [pL (.ptr 16 0), pL (.ptr 17 0), pL (.slu 279 5)] ++ wPtr ++ [pI 0, pI 0, pB false, pB false, pL (.ptr 19 0), pB false, pI 8, pI 0, pI 0, pI (-673907888), pB false, pB false, pB false, pI 0, pI 64000, pI 0] ++ wSum⟩), wFr, (17, ⟨113, (0, 0), 0, [pI 8000, pI 104000] ++ rp 7 (pI 0) ++ [pB true]⟩), wMo, (19, ⟨123, (0, 0), 0, [pI 32, pI 268435456, pL .nilsl]⟩)] ++ wBuf 64000 ++ [(279, ⟨39, (0, 0), 8, [pI 72000] ++ wImu ++ [pI 80000] ++ wImu ++ [pI 88000] ++ wImu ++ [pI 96000] ++ wImu ++ [pI 104000] ++ wImu⟩)], 301⟩
theorem tw_r13 (s : Asg) : ToP Tryz.prog 44 (c1 (c1 (c2 (c1 (c2 (c2 (c2 (bodyF Tryz.prog 4)))))))) (filS s pw_r12) .normal (Fil pw_r13) := ToP.run (z := zF) (n := 20000) (dec := []) soundK37u (fun dead => by kernel_rfl) (fun s => by kernel_rfl) (by kernel_rfl)
def pw_r14 : PS := ⟨[(1, .one (pL (.ptr 9 0))), (3, .one (pI 15))], [(9, ⟨72, (0, 0), 0, wPar ++ [pB false, pI 1073741824] ++ rp 299 (pI 0) ++ wVar ++ [pL (.ptr 16 0), pL (.ptr 17 0), pL (.slu 309 5)] ++ wPtr ++ [pI 0, pI 0, pB false, pB false, pL (.ptr 19 0), pB false, pI 9, pI 0, pI 0, pI (-758146374), pB false, pB false, pB false, pI 0, pI 72000, pI 0] ++ wSum⟩), wFr, (17, ⟨113, (0, 0), 0, [pI 8000, pI 112000] ++ rp 7 (pI 0) ++ [pB true]⟩), wMo, (19, ⟨123, (0, 0), 0, [pI 32, pI 268435456, pL .nilsl]⟩)] ++ wBuf 72000 ++ [(309, ⟨39, (0, 0), 8, [pI 80000] ++ wImu ++ [pI 88000] ++ wImu ++ [pI 96000] ++ wImu ++ [pI 104000] ++ wImu ++ [pI 112000] ++ wImu⟩)], 331⟩
theorem tw_r14 (s : Asg) : ToP Tryz.prog 44 (c1 (c1 (c2 (c1 (c2 (c2 (c2 (bodyF Tryz.prog 4)))))))) (filS s pw_r13) .normal (Fil pw_r14) := ToP.run (z := zF) (n := 20000) (dec := []) soundK37u (fun dead => by kernel_rfl) (fun s => by kernel_rfl) (by kernel_rfl)
def pw_r15 : PS := ⟨[(1, .one (pL (.ptr 9 0))), (3, .one (pI 16))], [(9, ⟨72, (0, 0), 0, wPar ++ [P1.hb, pI 1073741824] ++ rp 23 (pI 0) ++ rp 300 (P1.hi) ++ [pL (.ptr 16 0), pL (.ptr 17 0), pL (.slu 339 5)] ++ wPtr ++ [pI 1, pI 0, pB false, pB false, pL (.ptr 19 0), pB true, pI 10, pI 0, pI 0, pI (-842384860), pB true, pB false, pB false, pI 0, pI 80000, pI 0] ++ wSum⟩), wFr, (17, ⟨113, (0, 0), 0, [pI 8000, pI 120000] ++ rp 7 (pI 0) ++ [pB true]⟩), wMo, (19, ⟨123, (0, 0), 0, [pI 32, pI 268435456, pL (.slu 394 6)]⟩)] ++ wBuf 80000 ++ [(339, ⟨39, (0, 0), 8, [pI 88000] ++ wImu ++ [pI 96000] ++ wImu ++ [pI 104000] ++ wImu ++ [pI 112000] ++ wImu ++ [pI 120000] ++ wImu⟩), (394, ⟨45, (0, 0), 11, [pI 80000, pI 1073741824] ++ rp 9 (pI 0) ++ [pI 88000] ++ rp 10 (P1.hi) ++ [pI 96000] ++ rp 10 (P1.hi) ++ [pI 104000] ++ rp 10 (P1.hi) ++ [pI 112000] ++ rp 10 (P1.hi) ++ [pI 120000] ++ rp 10 (P1.hi)⟩)], 415⟩
theorem tw_r15 (s : Asg) : ToP Tryz.prog 44 (c1 (c1 (c2 (c1 (c2 (c2 (c2 (bodyF Tryz.prog 4)))))))) (filS s pw_r14) .normal (Fil pw_r15) := ToP.run (z := zF) (n := 20000) (dec := []) soundK37u (fun dead => by kernel_rfl) (fun s => by kernel_rfl) (by kernel_rfl)
def pw_rx : PS := ⟨[(1, .one (pL (.ptr 9 0)))], [(9, ⟨72, (0, 0), 0, wPar ++ [P1.hb, pI 1073741824] ++ rp 23 (pI 0) ++ rp 300 (P1.hi) ++ [pL (.ptr 16 0), pL (.ptr 17 0), pL (.slu 339 5)] ++ wPtr ++ [pI 1, pI 0, pB false, pB false, pL (.ptr 19 0), pB true, pI 10, pI 0, pI 0, pI (-842384860), pB true, pB false, pB false, pI 0, pI 80000, pI 0] ++ wSum⟩), wFr, (17, ⟨113, (0, 0), 0, [pI 8000, pI 120000] ++ rp 7 (pI 0) ++ [pB true]⟩), wMo, (19, ⟨123, (0, 0), 0, [pI 32, pI 268435456, pL (.slu 394 6)]⟩)] ++ wBuf 80000 ++ [(339, ⟨39, (0, 0), 8, [pI 88000] ++ wImu ++ [pI 96000] ++ wImu ++ [pI 104000] ++ wImu ++ [pI 112000] ++ wImu ++ [pI 120000] ++ wImu⟩), (394, ⟨45, (0, 0), 11, [pI 80000, pI 1073741824] ++ rp 9 (pI 0) ++ [pI 88000] ++ rp 10 (P1.hi) ++ [pI 96000] ++ rp 10 (P1.hi) ++ [pI 104000] ++ rp 10 (P1.hi) ++ [pI 112000] ++ rp 10 (P1.hi) ++ [pI 120000] ++ rp 10 (P1.hi)⟩)], 415⟩
theorem tw_rx (s : Asg) : ToP Tryz.prog 44 (c1 (c1 (c2 (c1 (c2 (c2 (c2 (bodyF Tryz.prog 4)))))))) (filS s pw_r15) (.exit 0) (Fil pw_rx) := ToP.run (z := zF) (n := 20000) (dec := []) soundK37u (fun dead => by kernel_rfl) (fun s => by kernel_rfl) (by kernel_rfl)
def pw_w5 : PS := ⟨[(1, .one (pL (.ptr 9 0))), (4, .one (pL (.ptr 417 0))), (5, .one (pB true))], [(9, ⟨72, (0, 0), 0, wPar ++ [P1.hb, pI 1073741824] ++ rp 23 (pI 0) ++ rp 300 (P1.hi) ++ [pL (.ptr 16 0), pL (.ptr 17 0), pL (.slu 339 5)] ++ wPtr ++ [pI 1, pI 0, pB false, pB false, pL (.ptr 19 0), pB true, pI 10, pI 0, pI 0, pI (-842384860), pB true, pB false, pB false, pI 0, pI 80000, pI 0] ++ wSum⟩), wFr, (17, ⟨113, (0, 0), 0, [pI 8000, pI 120000] ++ rp 7 (pI 0) ++ [pB true]⟩), wMo, (19, ⟨123, (0, 0), 0, [pI 32, pI 268435456, pL (.slu 394 6)]⟩)] ++ wBuf 80000 ++ [(339, ⟨39, (0, 0), 8, [pI 88000] ++ wImu ++ [pI 96000] ++ wImu ++ [pI 104000] ++ wImu ++ [pI 112000] ++ wImu ++ [pI 120000] ++ wImu⟩), (394, ⟨45, (0, 0), 11, [pI 80000, pI 1073741824] ++ rp 9 (pI 0) ++ [pI 88000] ++ rp 10 (P1.hi) ++ [pI 96000] ++ rp 10 (P1.hi) ++ [pI 104000] ++ rp 10 (P1.hi) ++ [pI 112000] ++ rp 10 (P1.hi) ++ [pI 120000] ++ rp 10 (P1.hi)⟩), (417, ⟨45, (0, 0), 0, [pI 120000] ++ rp 10 (P1.hi)⟩)], 418⟩
theorem tw_w5 (s : Asg) : ToP Tryz.prog 44 (c1 (c2 (c2 (c2 (c2 (bodyF Tryz.prog 4)))))) (filS s pw_rx) .normal (Fil pw_w5) := ToP.run (z := zF) (n := 20000) (dec := []) soundK37u (fun dead => by kernel_rfl) (fun s => by kernel_rfl) (by kernel_rfl)
def pw_w6 : PS := ⟨[(0, .one (pB true))], [], 419⟩
theorem tw_w6 (s : Asg) : ToP Tryz.prog 44 (c1 (c2 (c2 (c2 (c2 (c2 (bodyF Tryz.prog 4))))))) (filS s pw_w5) .normal (Fil pw_w6) := ToP.run (z := zF) (n := 20000) (dec := []) soundK37u (fun dead => by kernel_rfl) (fun s => by kernel_rfl) (by kernel_rfl)
def pw_w7 : PS := ⟨[(0, .one (pB true))], [], 419⟩
theorem tw_w7 (s : Asg) : ToP Tryz.prog 44 (c2 (c2 (c2 (c2 (c2 (c2 (bodyF Tryz.prog 4))))))) (filS s pw_w6) .ret (Fil pw_w7) := ToP.run (z := zF) (n := 20000) (dec := []) soundK37u (fun dead => by kernel_rfl) (fun s => by kernel_rfl) (by kernel_rfl)
theorem awkLoop (s : Asg) : RdP Tryz.prog 44 (c1 (c1 (c2 (c1 (c2 (c2 (c2 (bodyF Tryz.prog 4)))))))) 16 (filS s pw_w3) (.exit 0) (Fil pw_rx) := by
  refine RdP.next (tw_r1 s) ?_
  rintro x ⟨s, rfl⟩
  refine RdP.next (tw_r2 s) ?_
  rintro x ⟨s, rfl⟩
  refine RdP.next (tw_r3 s) ?_
  rintro x ⟨s, rfl⟩
  refine RdP.next (tw_r4 s) ?_
  rintro x ⟨s, rfl⟩
  refine RdP.next (tw_r5 s) ?_
  rintro x ⟨s, rfl⟩
  refine RdP.next (tw_r6 s) ?_
  rintro x ⟨s, rfl⟩
  refine RdP.next (tw_r7 s) ?_
  rintro x ⟨s, rfl⟩
  refine RdP.next (tw_r8 s) ?_
  rintro x ⟨s, rfl⟩
  refine RdP.next (tw_r9 s) ?_
  rintro x ⟨s, rfl⟩
  refine RdP.next (tw_r10 s) ?_
  rintro x ⟨s, rfl⟩
  refine RdP.next (tw_r11 s) ?_
  rintro x ⟨s, rfl⟩
  refine RdP.next (tw_r12 s) ?_
  rintro x ⟨s, rfl⟩
  refine RdP.next (tw_r13 s) ?_
  rintro x ⟨s, rfl⟩
  refine RdP.next (tw_r14 s) ?_
  rintro x ⟨s, rfl⟩
  refine RdP.next (tw_r15 s) ?_
  rintro x ⟨s, rfl⟩
  exact RdP.last (by simp) (tw_rx s)
theorem awkAll : ToP Tryz.prog 44 (bodyF Tryz.prog 4) ⟨argsL 0 [], [], 0⟩ .ret (Fil pw_w7) := by
  refine ToP.seq (by kernel_rfl) (tw_w0 ⟨fun _ _ => 0, fun _ _ => false, fun _ _ => 0, fun _ _ => false⟩) ?_
  rintro x ⟨s, rfl⟩
  refine ToP.seq (by kernel_rfl) (tw_w1 s) ?_
  rintro x ⟨s, rfl⟩
  refine ToP.seq (by kernel_rfl) (tw_w2 s) ?_
  rintro x ⟨s, rfl⟩
  refine ToP.seq (by kernel_rfl) (B := Fil pw_rx) (ToP.seq (by kernel_rfl) (tw_w3 s) ?_) ?_
  · rintro x ⟨s, rfl⟩
    exact ToP.block (id := 0) (e := .exit 0) (by kernel_rfl) (ToP.loop (by kernel_rfl) (awkLoop s)) (.inl rfl)
  rintro x ⟨s, rfl⟩
  refine ToP.seq (by kernel_rfl) (tw_w5 s) ?_
  rintro x ⟨s, rfl⟩
  refine ToP.seq (by kernel_rfl) (tw_w6 s) ?_
  rintro x ⟨s, rfl⟩
  exact tw_w7 s
def awkS : List LV → Option (LV × List (Bool × Bool))
  | [] => some (.v (.one (.bool true)), [])
  | _ => none
theorem sumAwk : SumOK Tryz.prog 4 (pureSum awkS) := by
  refine pureSum_ok' fun args v cs hF hc hp hv w => ?_
  unfold awkS at hF
  split at hF
  · cases hF
    have ho := own_of soundK37u Tryz.func4 (by kernel_rfl)
    refine pure_of_ToP (fn := Tryz.f4) ho Tryz.func4 (c := (bodyF Tryz.prog 4)) (by kernel_rfl) (by decide) (by decide) hp awkAll (.inr rfl) ?_ hv w
    rintro x ⟨s, rfl⟩ dead
    kernel_rfl
  · cases hF
noncomputable def KAw : FuncId → Option SumK := more K37u 4 (pureSum awkS)
theorem soundKAw : Sound Tryz.prog KAw := soundK37u.more sumAwk
end Go.Proofs.YthbkhoknlbomgaaGreat

/- TopNames: its run. -/
namespace Go.Proofs.YthbkhoknlbomgaaGreat
open Go.Lr
set_option linter.unusedVariables false
theorem soundTop : Sound Tryz.prog KAw := soundKAw
theorem topNamesR : (runF Tryz.prog KAw Zl 4000 3 [] [] 0 []).map (fun r => (r.1, r.2.2.2)) = some (.v (.one (.bool true)), []) := by kernel_rfl
end Go.Proofs.YthbkhoknlbomgaaGreat
