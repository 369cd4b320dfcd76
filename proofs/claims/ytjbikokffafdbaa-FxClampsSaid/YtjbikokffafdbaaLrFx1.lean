/- fx: Clamp, Sat; astrolabelaw2's awake. -/
import Derived.Test.YtjbikokffafdbaaLrS17
import Derived.Test.YtjbikokffafdbaaLrBase
namespace Go.Proofs.Ytjbikokffafdbaa
open Go.Lr

def MX : Int := 1152921504606846976

def clampV (a lo hi : Int) : Int := if lo > hi then lo else if a < lo then lo else if a > hi then hi else a
def clampH (a lo hi : Int) : Bool := decide (lo > hi) || decide (a < lo) || decide (a > hi)

def clampF : List LV → Bool → Option (LV × Bool × List (Bool × Bool))
  | [.v (.one (.int .i64 a)), .v (.one (.int .i64 lo)), .v (.one (.int .i64 hi))], h => some (I (clampV a lo hi), h || clampH a lo hi, [])
  | _, _ => none

abbrev acc3 (r : LV × Mem × Nat × List (Bool × Bool)) := (r.1, getM r.2.1 0, r.2.2.2)

theorem clamp1 (a lo hi : Int) (h : Bool) : (runF Try.prog S0 Zl 200 25 [A0, I a, I lo, I hi] [(0, flag 25 h)] 1 [some true]).map acc3 = some (I lo, some (flag 25 true), [(decide (lo > hi), true)]) := by kernel_rfl
theorem clamp2 (a lo hi : Int) (h : Bool) : (runF Try.prog S0 Zl 200 25 [A0, I a, I lo, I hi] [(0, flag 25 h)] 1 [some false, some true]).map acc3 = some (I lo, some (flag 25 true), [(decide (a < lo), true), (decide (lo > hi), false)]) := by kernel_rfl
theorem clamp3 (a lo hi : Int) (h : Bool) : (runF Try.prog S0 Zl 200 25 [A0, I a, I lo, I hi] [(0, flag 25 h)] 1 [some false, some false, some true]).map acc3 = some (I hi, some (flag 25 true), [(decide (a > hi), true), (decide (a < lo), false), (decide (lo > hi), false)]) := by kernel_rfl
theorem clamp4 (a lo hi : Int) (h : Bool) : (runF Try.prog S0 Zl 200 25 [A0, I a, I lo, I hi] [(0, flag 25 h)] 1 [some false, some false, some false]).map acc3 = some (I a, some (flag 25 h), [(decide (a > hi), false), (decide (a < lo), false), (decide (lo > hi), false)]) := by kernel_rfl

theorem sumClamp : SumOK Try.prog 25 (accSum 25 clampF) := by
  refine accSum_run (z := Zl) sound0 (own_of sound0 Try.func25 (by kernel_rfl)) fun args hb v h' cs hF _ => ?_
  unfold clampF at hF
  split at hF
  · rename_i a lo hi
    cases hF
    refine ⟨rfl, ?_⟩
    by_cases h1 : lo > hi
    · rw [show clampV a lo hi = lo by simp [clampV, h1], show (hb || clampH a lo hi) = true by simp [clampH, h1]]
      exact ⟨200, [some true], _, clamp1 a lo hi hb, by simp [h1]⟩
    · by_cases h2 : a < lo
      · rw [show clampV a lo hi = lo by simp [clampV, h2], show (hb || clampH a lo hi) = true by simp [clampH, h2]]
        exact ⟨200, [some false, some true], _, clamp2 a lo hi hb, by simp [h2]; omega⟩
      · by_cases h3 : a > hi
        · rw [show clampV a lo hi = hi by simp [clampV, h1, h2, h3], show (hb || clampH a lo hi) = true by simp [clampH, h3]]
          exact ⟨200, [some false, some false, some true], _, clamp3 a lo hi hb, by simp [h3]; omega⟩
        · rw [show clampV a lo hi = a by simp [clampV, h1, h2, h3], show (hb || clampH a lo hi) = hb by simp [clampH, h1, h2, h3]]
          exact ⟨200, [some false, some false, some false], _, clamp4 a lo hi hb, by simp; omega⟩
  · cases hF

def S2 : FuncId → Option Sum := more S0 25 (accSum 25 clampF)
theorem sound2 : Sound Try.prog S2 := sound0.more sumClamp

def satV (a : Int) : Int := clampV a (-1152921504606846976) 1152921504606846976
def satH (a : Int) : Bool := clampH a (-1152921504606846976) 1152921504606846976
def satF : List LV → Bool → Option (LV × Bool × List (Bool × Bool))
  | [.v (.one (.int .i64 a))], h => some (I (satV a), h || satH a, [])
  | _, _ => none
theorem sat1 (a : Int) (h : Bool) : (runF Try.prog S2 Zl 200 27 [A0, I a] [(0, flag 25 h)] 1 []).map acc3 = some (I (satV a), some (flag 25 (h || satH a)), []) := by kernel_rfl
theorem sumSat : SumOK Try.prog 27 (accSum 25 satF) := by
  refine accSum_run (z := Zl) sound2 (own_of sound2 Try.func27 (by kernel_rfl)) fun args hb v h' cs hF _ => ?_
  unfold satF at hF
  split at hF
  · rename_i a
    cases hF
    exact ⟨rfl, 200, [], _, sat1 a hb, by simp⟩
  · cases hF

theorem runAwake2 : (runF Try.prog S1 Zc 2000 19 [] [] 0 []).map (fun r => (r.1, r.2.2.2)) = some (B true, []) := by kernel_rfl
def trueF : List LV → Option (LV × List (Bool × Bool)) := fun args => match args with | [] => some (B true, []) | _ => none
theorem sumAwake2 : SumOK Try.prog 19 (pureSum trueF) := pureSum_const sound1 (own_of sound1 Try.func19 (by kernel_rfl)) runAwake2

def S3 : FuncId → Option Sum := more (more (more S0 25 (accSum 25 clampF)) 27 (accSum 25 satF)) 19 (pureSum trueF)
theorem sound3 : Sound Try.prog S3 := ((sound0.more sumClamp).more sumSat).more sumAwake2
end Go.Proofs.Ytjbikokffafdbaa
