/- The law FxClamps: its runs, and why they answer true. -/
import Derived.Test.YtjbikokffafdbaaLrFx1
namespace Go.Proofs.Ytjbikokffafdbaa
open Go.Lr Go.RowKit
theorem runClampsA (a b lo hi : Int) : (runF Try.prog S3 Zl 200 11 [I a, I b, I lo, I hi] [] 0 [none, some true]).map (fun r => (r.1, r.2.2.2)) = some (LV.v (V1.one (At.bool true)), [(decide (lo > hi), true)]) := by kernel_rfl
theorem runClampsB (a b lo hi : Int) : (runF Try.prog S3 Za 200 11 [I a, I b, I lo, I hi] [] 0 [none, some false, some true, some true, some true, some true]).map (fun r => (r.1, r.2.2.2)) = some (LV.v (V1.one (At.bool (decide (satV a ≥ -1152921504606846976)))), [(decide (satV a ≤ 1152921504606846976), true), (decide (satV a ≤ 1152921504606846976), true), (decide (satV a ≤ 1152921504606846976), true), (decide (satV a ≤ 1152921504606846976), true), (decide (satV a ≤ 1152921504606846976), true), (true, true), (true, true), (true, true), (true, true), (true, true), (!(false || clampH (clampV a lo hi) lo hi), true), (!(false || clampH (clampV a lo hi) lo hi), true), (decide (a > b), true), (decide (a > b), true), (decide (a > b), true), (decide (a > b), true), (!(false || clampH (clampV a lo hi) lo hi), true), (!(false || clampH (clampV a lo hi) lo hi), true), (!(false || clampH (clampV a lo hi) lo hi), true), (!(false || clampH (clampV a lo hi) lo hi), true), (clampV (clampV a lo hi) lo hi == clampV a lo hi, true), (clampV (clampV a lo hi) lo hi == clampV a lo hi, true), (clampV (clampV a lo hi) lo hi == clampV a lo hi, true), (clampV (clampV a lo hi) lo hi == clampV a lo hi, true), (clampV (clampV a lo hi) lo hi == clampV a lo hi, true), (clampV (clampV a lo hi) lo hi == clampV a lo hi, true), (decide (clampV a lo hi ≤ hi), true), (decide (clampV a lo hi ≤ hi), true), (decide (clampV a lo hi ≤ hi), true), (decide (clampV a lo hi ≤ hi), true), (decide (clampV a lo hi ≤ hi), true), (decide (clampV a lo hi ≤ hi), true), (decide (clampV a lo hi ≤ hi), true), (decide (clampV a lo hi ≤ hi), true), (decide (clampV a lo hi ≥ lo), true), (decide (clampV a lo hi ≥ lo), true), (decide (clampV a lo hi ≥ lo), true), (decide (clampV a lo hi ≥ lo), true), (decide (lo > hi), false)]) := by kernel_rfl
theorem runClampsC (a b lo hi : Int) : (runF Try.prog S3 Za 200 11 [I a, I b, I lo, I hi] [] 0 [none, some false]).map (fun r => (r.1, r.2.2.2)) = some (LV.v (V1.one (At.bool (decide (satV a ≥ -1152921504606846976)))), [(decide (satV a ≤ 1152921504606846976), true), (decide (satV a ≤ 1152921504606846976), true), (decide (satV a ≤ 1152921504606846976), true), (decide (satV a ≤ 1152921504606846976), true), (decide (satV a ≤ 1152921504606846976), true), (decide (clampV a lo hi ≤ clampV b lo hi), true), (decide (clampV a lo hi ≤ clampV b lo hi), true), (decide (clampV a lo hi ≤ clampV b lo hi), true), (decide (clampV a lo hi ≤ clampV b lo hi), true), (decide (clampV a lo hi ≤ clampV b lo hi), true), (!(false || clampH (clampV a lo hi) lo hi), true), (!(false || clampH (clampV a lo hi) lo hi), true), (decide (a > b), false), (decide (a > b), false), (decide (a > b), false), (decide (a > b), false), (!(false || clampH (clampV a lo hi) lo hi), true), (!(false || clampH (clampV a lo hi) lo hi), true), (!(false || clampH (clampV a lo hi) lo hi), true), (!(false || clampH (clampV a lo hi) lo hi), true), (clampV (clampV a lo hi) lo hi == clampV a lo hi, true), (clampV (clampV a lo hi) lo hi == clampV a lo hi, true), (clampV (clampV a lo hi) lo hi == clampV a lo hi, true), (clampV (clampV a lo hi) lo hi == clampV a lo hi, true), (clampV (clampV a lo hi) lo hi == clampV a lo hi, true), (clampV (clampV a lo hi) lo hi == clampV a lo hi, true), (decide (clampV a lo hi ≤ hi), true), (decide (clampV a lo hi ≤ hi), true), (decide (clampV a lo hi ≤ hi), true), (decide (clampV a lo hi ≤ hi), true), (decide (clampV a lo hi ≤ hi), true), (decide (clampV a lo hi ≤ hi), true), (decide (clampV a lo hi ≤ hi), true), (decide (clampV a lo hi ≤ hi), true), (decide (clampV a lo hi ≥ lo), true), (decide (clampV a lo hi ≥ lo), true), (decide (clampV a lo hi ≥ lo), true), (decide (clampV a lo hi ≥ lo), true), (decide (lo > hi), false)]) := by kernel_rfl

theorem clamp_ge (a lo hi : Int) (h : ¬ lo > hi) : clampV a lo hi ≥ lo := by unfold clampV; (repeat' split) <;> omega
theorem clamp_le (a lo hi : Int) (h : ¬ lo > hi) : clampV a lo hi ≤ hi := by unfold clampV; (repeat' split) <;> omega
theorem clamp_in (a lo hi : Int) (h1 : lo ≤ a) (h2 : a ≤ hi) : clampV a lo hi = a := by
  unfold clampV
  rw [if_neg (by omega), if_neg (by omega), if_neg (by omega)]
theorem clampH_in (a lo hi : Int) (h1 : lo ≤ a) (h2 : a ≤ hi) : clampH a lo hi = false := by
  unfold clampH
  simp
  omega
theorem clamp_mono (a b lo hi : Int) (h : ¬ a > b) : clampV a lo hi ≤ clampV b lo hi := by
  unfold clampV
  by_cases h1 : lo > hi
  · rw [if_pos h1, if_pos h1]; omega
  · rw [if_neg h1, if_neg h1]
    (repeat' split) <;> omega
theorem sat_le (a : Int) : satV a ≤ 1152921504606846976 := clamp_le _ _ _ (by omega)
theorem sat_ge (a : Int) : satV a ≥ -1152921504606846976 := clamp_ge _ _ _ (by omega)

theorem lawFxClamps (a b lo hi : Int) (w : World) :
    Calls Try.prog 11 #[.int .i64 a, .int .i64 b, .int .i64 lo, .int .i64 hi] w fun e w' => e = .returned (.bool true) ∧ Below w.heap.size w w' := by
  by_cases h0 : lo > hi
  · exact law_true sound3 (runClampsA a b lo hi) rfl (by simp [h0]) rfl w
  · have c1 := clamp_ge a lo hi h0
    have c2 := clamp_le a lo hi h0
    have c3 := clamp_in _ lo hi c1 c2
    have c4 := clampH_in _ lo hi c1 c2
    have s1 := sat_le a
    have s2 := sat_ge a
    have h0' : lo ≤ hi := by omega
    by_cases hab : a > b
    · refine law_true sound3 (runClampsB a b lo hi) (by simp; omega) ?_ rfl w
      simp [c3, c4, s1, h0', c2, hab]
      omega
    · have c5 := clamp_mono a b lo hi hab
      refine law_true sound3 (runClampsC a b lo hi) (by simp; omega) ?_ rfl w
      simp [c3, c4, s1, c5, h0', c2]
      omega
end Go.Proofs.Ytjbikokffafdbaa
