/- Joined texts. What each part proves stands ahead of it; no condition. -/
import Derived.Test.YthfanchjkkeejaaLrM5
import Derived.Test.YthfanchjkkeejaaLrM4
import Derived.WalkKit
import Derived.ProofKit
import Derived.OpenShut
import Derived.WideKeyArr2
import Derived.Test.YthfanchjkkeejaaLrM1

/- Sines, and the second answer's sines and angles: their runs, against what they compute. -/
namespace Go.Proofs.Ythfanchjkkeejaa
open Go.Lr
set_option linter.unusedVariables false
set_option linter.unusedSimpArgs false

def sL1 : List Int := [2959, -213044, 8947849, -178956971, 1073741824]
def sL2 : List Int := [-296, 26631, -1491308, 44739243, -536870912, 1073741824]
def mmV (s : Int) : Int := if (1073741824 : Int) < (if (-1073741824 : Int) > s then -1073741824 else s) then 1073741824 else (if (-1073741824 : Int) > s then -1073741824 else s)
/-- The angle, folded to the right. -/
def sinW (b1 b2 : Bool) (a : Int) : Int := bif b1 then wr IntKind.i64 (3373259426 - wrapV (satV a)) else bif b2 then wr IntKind.i64 (-3373259426 - wrapV (satV a)) else wrapV (satV a)
def sinX (w : Int) : Int := wr IntKind.i64 (1686629713 - fabsV w)
def sinS0 (w : Int) : Int := mulV w (serV (mulV w w 30) (-27) sL1) 30
def sinSH (w : Int) (h : Bool) : Bool := serHb (mulV w w 30) (h || mulH w w 30) (-27) sL1 || mulH w (serV (mulV w w 30) (-27) sL1) 30
def sinG0 (ng : Bool) (x : Int) : Int := bif ng then wr IntKind.i64 (0 - serV (mulV x x 30) 2 sL2) else serV (mulV x x 30) 2 sL2
def sinGH (x : Int) (h : Bool) : Bool := serHb (mulV x x 30) (h || mulH x x 30) 2 sL2
/-- Without its sign, as the second answer reckons it. -/
def sinU (ng : Bool) (w : Int) : Int := bif ng then wr IntKind.i64 (0 - w) else w
def clO (s : Int) : Int := clampV s (-1073741824) 1073741824
theorem sntfs (a : Int) (hb : Bool) : (runF Try.prog S36 Zl 2000 42 [A0, I a] [(0, flag 27 hb)] 1 [some true, some true, none, none, none, none, none, none, none]).map acc3 = some (I (mmV (sinS0 (sinW true false a))), some (flag 27 (sinSH (sinW true false a) (hb || satH a))), [(decide (fabsV (sinW true false a) ≤ 843314857), true), (decide (wrapV (satV a) > 1686629713), true)]) := by kernel_rfl
theorem sntfgt (a : Int) (hb : Bool) : (runF Try.prog S36 Zl 2000 42 [A0, I a] [(0, flag 27 hb)] 1 [some true, some false, none, none, none, none, none, none, none, some true]).map acc3 = some (I (mmV (sinG0 true (sinX (sinW true false a)))), some (flag 27 (sinGH (sinX (sinW true false a)) (hb || satH a))), [(decide ((sinW true false a) < 0), true), (decide (fabsV (sinW true false a) ≤ 843314857), false), (decide (wrapV (satV a) > 1686629713), true)]) := by kernel_rfl
theorem sntfgf (a : Int) (hb : Bool) : (runF Try.prog S36 Zl 2000 42 [A0, I a] [(0, flag 27 hb)] 1 [some true, some false, none, none, none, none, none, none, none, some false]).map acc3 = some (I (mmV (sinG0 false (sinX (sinW true false a)))), some (flag 27 (sinGH (sinX (sinW true false a)) (hb || satH a))), [(decide ((sinW true false a) < 0), false), (decide (fabsV (sinW true false a) ≤ 843314857), false), (decide (wrapV (satV a) > 1686629713), true)]) := by kernel_rfl
theorem rstftg (a : Int) (hb : Bool) (ty : TypeId) : (runF Try.prog S36 Zl 2000 43 [A0, I a] [(0, flag ty hb)] 1 [some true, some true, some true, none, none, none, none, none, none, none, some true]).map acc3 = some (I (clO (sinG0 true (wr IntKind.i64 (1686629713 - (sinU true (sinW true false a)))))), some (flag ty (sinGH (wr IntKind.i64 (1686629713 - (sinU true (sinW true false a)))) (hb || satH a))), [(decide ((sinW true false a) < 0), true), (decide ((sinU true (sinW true false a)) > 843314857), true), (decide ((sinW true false a) < 0), true), (decide (wrapV (satV a) > 1686629713), true)]) := by kernel_rfl
theorem rstfts (a : Int) (hb : Bool) (ty : TypeId) : (runF Try.prog S36 Zl 2000 43 [A0, I a] [(0, flag ty hb)] 1 [some true, some true, some false, none, none, none, none, none, none, none]).map acc3 = some (I (clO (sinS0 (sinW true false a))), some (flag ty (sinSH (sinW true false a) (hb || satH a))), [(decide ((sinU true (sinW true false a)) > 843314857), false), (decide ((sinW true false a) < 0), true), (decide (wrapV (satV a) > 1686629713), true)]) := by kernel_rfl
theorem rstffg (a : Int) (hb : Bool) (ty : TypeId) : (runF Try.prog S36 Zl 2000 43 [A0, I a] [(0, flag ty hb)] 1 [some true, some false, some true, none, none, none, none, none, none, none, some false]).map acc3 = some (I (clO (sinG0 false (wr IntKind.i64 (1686629713 - (sinU false (sinW true false a)))))), some (flag ty (sinGH (wr IntKind.i64 (1686629713 - (sinU false (sinW true false a)))) (hb || satH a))), [(decide ((sinW true false a) < 0), false), (decide ((sinU false (sinW true false a)) > 843314857), true), (decide ((sinW true false a) < 0), false), (decide (wrapV (satV a) > 1686629713), true)]) := by kernel_rfl
theorem rstffs (a : Int) (hb : Bool) (ty : TypeId) : (runF Try.prog S36 Zl 2000 43 [A0, I a] [(0, flag ty hb)] 1 [some true, some false, some false, none, none, none, none, none, none, none]).map acc3 = some (I (clO (sinS0 (sinW true false a))), some (flag ty (sinSH (sinW true false a) (hb || satH a))), [(decide ((sinU false (sinW true false a)) > 843314857), false), (decide ((sinW true false a) < 0), false), (decide (wrapV (satV a) > 1686629713), true)]) := by kernel_rfl
theorem snfts (a : Int) (hb : Bool) : (runF Try.prog S36 Zl 2000 42 [A0, I a] [(0, flag 27 hb)] 1 [some false, some true, some true, none, none, none, none, none, none, none]).map acc3 = some (I (mmV (sinS0 (sinW false true a))), some (flag 27 (sinSH (sinW false true a) (hb || satH a))), [(decide (fabsV (sinW false true a) ≤ 843314857), true), (decide (wrapV (satV a) < -1686629713), true), (decide (wrapV (satV a) > 1686629713), false)]) := by kernel_rfl
theorem snftgt (a : Int) (hb : Bool) : (runF Try.prog S36 Zl 2000 42 [A0, I a] [(0, flag 27 hb)] 1 [some false, some true, some false, none, none, none, none, none, none, none, some true]).map acc3 = some (I (mmV (sinG0 true (sinX (sinW false true a)))), some (flag 27 (sinGH (sinX (sinW false true a)) (hb || satH a))), [(decide ((sinW false true a) < 0), true), (decide (fabsV (sinW false true a) ≤ 843314857), false), (decide (wrapV (satV a) < -1686629713), true), (decide (wrapV (satV a) > 1686629713), false)]) := by kernel_rfl
theorem snftgf (a : Int) (hb : Bool) : (runF Try.prog S36 Zl 2000 42 [A0, I a] [(0, flag 27 hb)] 1 [some false, some true, some false, none, none, none, none, none, none, none, some false]).map acc3 = some (I (mmV (sinG0 false (sinX (sinW false true a)))), some (flag 27 (sinGH (sinX (sinW false true a)) (hb || satH a))), [(decide ((sinW false true a) < 0), false), (decide (fabsV (sinW false true a) ≤ 843314857), false), (decide (wrapV (satV a) < -1686629713), true), (decide (wrapV (satV a) > 1686629713), false)]) := by kernel_rfl
theorem rsfttg (a : Int) (hb : Bool) (ty : TypeId) : (runF Try.prog S36 Zl 2000 43 [A0, I a] [(0, flag ty hb)] 1 [some false, some true, some true, some true, none, none, none, none, none, none, none, some true]).map acc3 = some (I (clO (sinG0 true (wr IntKind.i64 (1686629713 - (sinU true (sinW false true a)))))), some (flag ty (sinGH (wr IntKind.i64 (1686629713 - (sinU true (sinW false true a)))) (hb || satH a))), [(decide ((sinW false true a) < 0), true), (decide ((sinU true (sinW false true a)) > 843314857), true), (decide ((sinW false true a) < 0), true), (decide (wrapV (satV a) < -1686629713), true), (decide (wrapV (satV a) > 1686629713), false)]) := by kernel_rfl
theorem rsftts (a : Int) (hb : Bool) (ty : TypeId) : (runF Try.prog S36 Zl 2000 43 [A0, I a] [(0, flag ty hb)] 1 [some false, some true, some true, some false, none, none, none, none, none, none, none]).map acc3 = some (I (clO (sinS0 (sinW false true a))), some (flag ty (sinSH (sinW false true a) (hb || satH a))), [(decide ((sinU true (sinW false true a)) > 843314857), false), (decide ((sinW false true a) < 0), true), (decide (wrapV (satV a) < -1686629713), true), (decide (wrapV (satV a) > 1686629713), false)]) := by kernel_rfl
theorem rsftfg (a : Int) (hb : Bool) (ty : TypeId) : (runF Try.prog S36 Zl 2000 43 [A0, I a] [(0, flag ty hb)] 1 [some false, some true, some false, some true, none, none, none, none, none, none, none, some false]).map acc3 = some (I (clO (sinG0 false (wr IntKind.i64 (1686629713 - (sinU false (sinW false true a)))))), some (flag ty (sinGH (wr IntKind.i64 (1686629713 - (sinU false (sinW false true a)))) (hb || satH a))), [(decide ((sinW false true a) < 0), false), (decide ((sinU false (sinW false true a)) > 843314857), true), (decide ((sinW false true a) < 0), false), (decide (wrapV (satV a) < -1686629713), true), (decide (wrapV (satV a) > 1686629713), false)]) := by kernel_rfl
theorem rsftfs (a : Int) (hb : Bool) (ty : TypeId) : (runF Try.prog S36 Zl 2000 43 [A0, I a] [(0, flag ty hb)] 1 [some false, some true, some false, some false, none, none, none, none, none, none, none]).map acc3 = some (I (clO (sinS0 (sinW false true a))), some (flag ty (sinSH (sinW false true a) (hb || satH a))), [(decide ((sinU false (sinW false true a)) > 843314857), false), (decide ((sinW false true a) < 0), false), (decide (wrapV (satV a) < -1686629713), true), (decide (wrapV (satV a) > 1686629713), false)]) := by kernel_rfl
theorem snffs (a : Int) (hb : Bool) : (runF Try.prog S36 Zl 2000 42 [A0, I a] [(0, flag 27 hb)] 1 [some false, some false, some true, none, none, none, none, none, none, none]).map acc3 = some (I (mmV (sinS0 (sinW false false a))), some (flag 27 (sinSH (sinW false false a) (hb || satH a))), [(decide (fabsV (sinW false false a) ≤ 843314857), true), (decide (wrapV (satV a) < -1686629713), false), (decide (wrapV (satV a) > 1686629713), false)]) := by kernel_rfl
theorem snffgt (a : Int) (hb : Bool) : (runF Try.prog S36 Zl 2000 42 [A0, I a] [(0, flag 27 hb)] 1 [some false, some false, some false, none, none, none, none, none, none, none, some true]).map acc3 = some (I (mmV (sinG0 true (sinX (sinW false false a)))), some (flag 27 (sinGH (sinX (sinW false false a)) (hb || satH a))), [(decide ((sinW false false a) < 0), true), (decide (fabsV (sinW false false a) ≤ 843314857), false), (decide (wrapV (satV a) < -1686629713), false), (decide (wrapV (satV a) > 1686629713), false)]) := by kernel_rfl
theorem snffgf (a : Int) (hb : Bool) : (runF Try.prog S36 Zl 2000 42 [A0, I a] [(0, flag 27 hb)] 1 [some false, some false, some false, none, none, none, none, none, none, none, some false]).map acc3 = some (I (mmV (sinG0 false (sinX (sinW false false a)))), some (flag 27 (sinGH (sinX (sinW false false a)) (hb || satH a))), [(decide ((sinW false false a) < 0), false), (decide (fabsV (sinW false false a) ≤ 843314857), false), (decide (wrapV (satV a) < -1686629713), false), (decide (wrapV (satV a) > 1686629713), false)]) := by kernel_rfl
theorem rsfftg (a : Int) (hb : Bool) (ty : TypeId) : (runF Try.prog S36 Zl 2000 43 [A0, I a] [(0, flag ty hb)] 1 [some false, some false, some true, some true, none, none, none, none, none, none, none, some true]).map acc3 = some (I (clO (sinG0 true (wr IntKind.i64 (1686629713 - (sinU true (sinW false false a)))))), some (flag ty (sinGH (wr IntKind.i64 (1686629713 - (sinU true (sinW false false a)))) (hb || satH a))), [(decide ((sinW false false a) < 0), true), (decide ((sinU true (sinW false false a)) > 843314857), true), (decide ((sinW false false a) < 0), true), (decide (wrapV (satV a) < -1686629713), false), (decide (wrapV (satV a) > 1686629713), false)]) := by kernel_rfl
theorem rsffts (a : Int) (hb : Bool) (ty : TypeId) : (runF Try.prog S36 Zl 2000 43 [A0, I a] [(0, flag ty hb)] 1 [some false, some false, some true, some false, none, none, none, none, none, none, none]).map acc3 = some (I (clO (sinS0 (sinW false false a))), some (flag ty (sinSH (sinW false false a) (hb || satH a))), [(decide ((sinU true (sinW false false a)) > 843314857), false), (decide ((sinW false false a) < 0), true), (decide (wrapV (satV a) < -1686629713), false), (decide (wrapV (satV a) > 1686629713), false)]) := by kernel_rfl
theorem rsfffg (a : Int) (hb : Bool) (ty : TypeId) : (runF Try.prog S36 Zl 2000 43 [A0, I a] [(0, flag ty hb)] 1 [some false, some false, some false, some true, none, none, none, none, none, none, none, some false]).map acc3 = some (I (clO (sinG0 false (wr IntKind.i64 (1686629713 - (sinU false (sinW false false a)))))), some (flag ty (sinGH (wr IntKind.i64 (1686629713 - (sinU false (sinW false false a)))) (hb || satH a))), [(decide ((sinW false false a) < 0), false), (decide ((sinU false (sinW false false a)) > 843314857), true), (decide ((sinW false false a) < 0), false), (decide (wrapV (satV a) < -1686629713), false), (decide (wrapV (satV a) > 1686629713), false)]) := by kernel_rfl
theorem rsfffs (a : Int) (hb : Bool) (ty : TypeId) : (runF Try.prog S36 Zl 2000 43 [A0, I a] [(0, flag ty hb)] 1 [some false, some false, some false, some false, none, none, none, none, none, none, none]).map acc3 = some (I (clO (sinS0 (sinW false false a))), some (flag ty (sinSH (sinW false false a) (hb || satH a))), [(decide ((sinU false (sinW false false a)) > 843314857), false), (decide ((sinW false false a) < 0), false), (decide (wrapV (satV a) < -1686629713), false), (decide (wrapV (satV a) > 1686629713), false)]) := by kernel_rfl

/-- The sine. -/
def sinF (w : Int) : Int := bif decide (fabsV w ≤ 843314857) then mmV (sinS0 w) else mmV (sinG0 (decide (w < 0)) (sinX w))
def sinFH (w : Int) (h : Bool) : Bool := bif decide (fabsV w ≤ 843314857) then sinSH w h else sinGH (sinX w) h
def sinV (a : Int) : Int := sinF (sinW (decide (wrapV (satV a) > 1686629713)) (decide (wrapV (satV a) < -1686629713)) a)
def sinH (a : Int) (h : Bool) : Bool := sinFH (sinW (decide (wrapV (satV a) > 1686629713)) (decide (wrapV (satV a) < -1686629713)) a) (h || satH a)
def sinS : List LV → Bool → Option (LV × Bool × List (Bool × Bool))
  | [.v (.one (.int .i64 a))], hb => some (I (sinV a), sinH a hb, [])
  | _, _ => none
theorem sumSin : SumOK Try.prog 42 (accSum 27 sinS) := by
  refine accSum_run (z := Zl) sound36 (own_of sound36 Try.func42 (by kernel_rfl)) fun args hb v h' cs hF hc => ?_
  unfold sinS at hF
  split at hF
  · rename_i a
    cases hF
    refine ⟨rfl, ?_⟩
    unfold sinV sinH
    have eT : ∀ b : Bool, sinW true b a = sinW true false a := fun b => rfl
    rcases bool_cases (decide (wrapV (satV a) > 1686629713)) with h1 | h1
    · rw [h1, eT]
      rcases bool_cases (decide (fabsV (sinW true false a) ≤ 843314857)) with h3 | h3
      · unfold sinF sinFH; rw [cond_t h3, cond_t h3]; exact ⟨2000, _, _, sntfs a hb, ae_cons h3 (ae_cons h1 ae_nil)⟩
      · unfold sinF sinFH; rw [cond_f h3, cond_f h3]
        rcases bool_cases (decide ((sinW true false a) < 0)) with h4 | h4
        · rw [h4]; exact ⟨2000, _, _, sntfgt a hb, ae_cons h4 (ae_cons h3 (ae_cons h1 ae_nil))⟩
        · rw [h4]; exact ⟨2000, _, _, sntfgf a hb, ae_cons h4 (ae_cons h3 (ae_cons h1 ae_nil))⟩
    · rw [h1]
      rcases bool_cases (decide (wrapV (satV a) < -1686629713)) with h2 | h2
      · rw [h2]
        rcases bool_cases (decide (fabsV (sinW false true a) ≤ 843314857)) with h3 | h3
        · unfold sinF sinFH; rw [cond_t h3, cond_t h3]; exact ⟨2000, _, _, snfts a hb, ae_cons h3 (ae_cons h2 (ae_cons h1 ae_nil))⟩
        · unfold sinF sinFH; rw [cond_f h3, cond_f h3]
          rcases bool_cases (decide ((sinW false true a) < 0)) with h4 | h4
          · rw [h4]; exact ⟨2000, _, _, snftgt a hb, ae_cons h4 (ae_cons h3 (ae_cons h2 (ae_cons h1 ae_nil)))⟩
          · rw [h4]; exact ⟨2000, _, _, snftgf a hb, ae_cons h4 (ae_cons h3 (ae_cons h2 (ae_cons h1 ae_nil)))⟩
      · rw [h2]
        rcases bool_cases (decide (fabsV (sinW false false a) ≤ 843314857)) with h3 | h3
        · unfold sinF sinFH; rw [cond_t h3, cond_t h3]; exact ⟨2000, _, _, snffs a hb, ae_cons h3 (ae_cons h2 (ae_cons h1 ae_nil))⟩
        · unfold sinF sinFH; rw [cond_f h3, cond_f h3]
          rcases bool_cases (decide ((sinW false false a) < 0)) with h4 | h4
          · rw [h4]; exact ⟨2000, _, _, snffgt a hb, ae_cons h4 (ae_cons h3 (ae_cons h2 (ae_cons h1 ae_nil)))⟩
          · rw [h4]; exact ⟨2000, _, _, snffgf a hb, ae_cons h4 (ae_cons h3 (ae_cons h2 (ae_cons h1 ae_nil)))⟩
  · cases hF

def rsinF (w : Int) : Int := bif decide (sinU (decide (w < 0)) w > 843314857) then clO (sinG0 (decide (w < 0)) (wr IntKind.i64 (1686629713 - sinU (decide (w < 0)) w))) else clO (sinS0 w)
def rsinFH (w : Int) (h : Bool) : Bool := bif decide (sinU (decide (w < 0)) w > 843314857) then sinGH (wr IntKind.i64 (1686629713 - sinU (decide (w < 0)) w)) h else sinSH w h
def rsinS : List LV → Bool → Option (LV × Bool × List (Bool × Bool))
  | [.v (.one (.int .i64 a))], hb => some (I (rsinF (sinW (decide (wrapV (satV a) > 1686629713)) (decide (wrapV (satV a) < -1686629713)) a)), rsinFH (sinW (decide (wrapV (satV a) > 1686629713)) (decide (wrapV (satV a) < -1686629713)) a) (hb || satH a), [])
  | _, _ => none
theorem sumRsin0 (ty : TypeId) : SumOK Try.prog 43 (accSum ty rsinS) := by
  refine accSum_run (z := Zl) sound36 (own_of sound36 Try.func43 (by kernel_rfl)) fun args hb v h' cs hF hc => ?_
  unfold rsinS at hF
  split at hF
  · rename_i a
    cases hF
    refine ⟨rfl, ?_⟩
    have eT : ∀ b : Bool, sinW true b a = sinW true false a := fun b => rfl
    unfold rsinF rsinFH
    rcases bool_cases (decide (wrapV (satV a) > 1686629713)) with h1 | h1
    · rw [h1, eT]
      rcases bool_cases (decide ((sinW true false a) < 0)) with h3 | h3
      · rw [h3]
        rcases bool_cases (decide (sinU true (sinW true false a) > 843314857)) with h4 | h4
        · rw [cond_t h4, cond_t h4]; exact ⟨2000, _, _, rstftg a hb ty, ae_cons h3 (ae_cons h4 (ae_cons h3 (ae_cons h1 ae_nil)))⟩
        · rw [cond_f h4, cond_f h4]; exact ⟨2000, _, _, rstfts a hb ty, ae_cons h4 (ae_cons h3 (ae_cons h1 ae_nil))⟩
      · rw [h3]
        rcases bool_cases (decide (sinU false (sinW true false a) > 843314857)) with h4 | h4
        · rw [cond_t h4, cond_t h4]; exact ⟨2000, _, _, rstffg a hb ty, ae_cons h3 (ae_cons h4 (ae_cons h3 (ae_cons h1 ae_nil)))⟩
        · rw [cond_f h4, cond_f h4]; exact ⟨2000, _, _, rstffs a hb ty, ae_cons h4 (ae_cons h3 (ae_cons h1 ae_nil))⟩
    · rw [h1]
      rcases bool_cases (decide (wrapV (satV a) < -1686629713)) with h2 | h2
      · rw [h2]
        rcases bool_cases (decide ((sinW false true a) < 0)) with h3 | h3
        · rw [h3]
          rcases bool_cases (decide (sinU true (sinW false true a) > 843314857)) with h4 | h4
          · rw [cond_t h4, cond_t h4]; exact ⟨2000, _, _, rsfttg a hb ty, ae_cons h3 (ae_cons h4 (ae_cons h3 (ae_cons h2 (ae_cons h1 ae_nil))))⟩
          · rw [cond_f h4, cond_f h4]; exact ⟨2000, _, _, rsftts a hb ty, ae_cons h4 (ae_cons h3 (ae_cons h2 (ae_cons h1 ae_nil)))⟩
        · rw [h3]
          rcases bool_cases (decide (sinU false (sinW false true a) > 843314857)) with h4 | h4
          · rw [cond_t h4, cond_t h4]; exact ⟨2000, _, _, rsftfg a hb ty, ae_cons h3 (ae_cons h4 (ae_cons h3 (ae_cons h2 (ae_cons h1 ae_nil))))⟩
          · rw [cond_f h4, cond_f h4]; exact ⟨2000, _, _, rsftfs a hb ty, ae_cons h4 (ae_cons h3 (ae_cons h2 (ae_cons h1 ae_nil)))⟩
      · rw [h2]
        rcases bool_cases (decide ((sinW false false a) < 0)) with h3 | h3
        · rw [h3]
          rcases bool_cases (decide (sinU true (sinW false false a) > 843314857)) with h4 | h4
          · rw [cond_t h4, cond_t h4]; exact ⟨2000, _, _, rsfftg a hb ty, ae_cons h3 (ae_cons h4 (ae_cons h3 (ae_cons h2 (ae_cons h1 ae_nil))))⟩
          · rw [cond_f h4, cond_f h4]; exact ⟨2000, _, _, rsffts a hb ty, ae_cons h4 (ae_cons h3 (ae_cons h2 (ae_cons h1 ae_nil)))⟩
        · rw [h3]
          rcases bool_cases (decide (sinU false (sinW false false a) > 843314857)) with h4 | h4
          · rw [cond_t h4, cond_t h4]; exact ⟨2000, _, _, rsfffg a hb ty, ae_cons h3 (ae_cons h4 (ae_cons h3 (ae_cons h2 (ae_cons h1 ae_nil))))⟩
          · rw [cond_f h4, cond_f h4]; exact ⟨2000, _, _, rsfffs a hb ty, ae_cons h4 (ae_cons h3 (ae_cons h2 (ae_cons h1 ae_nil)))⟩
  · cases hF
theorem clO_mm (s : Int) : clO s = mmV s := by
  unfold clO clampV mmV; (repeat' split) <;> omega
theorem sinU_eq {w : Int} (h0 : -6746518852 ≤ w) (h1 : w ≤ 6746518852) : sinU (decide (w < 0)) w = fabsV w := by
  unfold sinU
  by_cases h : w < 0
  · rw [decide_eq_true h, cond_true, wr_i, w64_in (by omega) (by omega)]
    unfold fabsV; (repeat' split) <;> omega
  · rw [decide_eq_false h, cond_false]
    unfold fabsV; (repeat' split) <;> omega
theorem sinW_bd (b1 b2 : Bool) (a : Int) : -6746518852 ≤ sinW b1 b2 a ∧ sinW b1 b2 a ≤ 6746518852 := by
  obtain ⟨h0, h1, -⟩ := wrap_spec (satV a)
  unfold sinW
  generalize wrapV (satV a) = t at *
  have e1 : wr IntKind.i64 (3373259426 - t) = 3373259426 - t := w64_in (by omega) (by omega)
  have e2 : wr IntKind.i64 (-3373259426 - t) = -3373259426 - t := w64_in (by omega) (by omega)
  rw [e1, e2]
  cases b1 <;> cases b2 <;> simp only [cond_true, cond_false] <;> omega
theorem rsin_eq {w : Int} (h0 : -6746518852 ≤ w) (h1 : w ≤ 6746518852) (h : Bool) : rsinF w = sinF w ∧ rsinFH w h = sinFH w h := by
  unfold rsinF rsinFH sinF sinFH sinX
  rw [sinU_eq h0 h1, clO_mm, clO_mm]
  by_cases hb : fabsV w ≤ 843314857
  · rw [decide_eq_true hb, decide_eq_false (show ¬ fabsV w > 843314857 by omega)]; exact ⟨rfl, rfl⟩
  · rw [decide_eq_false hb, decide_eq_true (show fabsV w > 843314857 by omega)]; exact ⟨rfl, rfl⟩
theorem sumRsin (ty : TypeId) : SumOK Try.prog 43 (accSum ty sinS) := by
  refine (sumRsin0 ty).acc_re fun args hb v h' cs hF hc => ?_
  unfold sinS at hF
  split at hF
  · rename_i a
    cases hF
    obtain ⟨b0, b1⟩ := sinW_bd (decide (wrapV (satV a) > 1686629713)) (decide (wrapV (satV a) < -1686629713)) a
    obtain ⟨e1, e2⟩ := rsin_eq b0 b1 (hb || satH a)
    refine ⟨[], ?_, ae_nil⟩
    show some (I (rsinF _), rsinFH _ (hb || satH a), []) = _
    rw [e1, e2]; rfl
  · cases hF

def atanHG (big : Bool) (v u : Int) (h : Bool) : Bool :=
  serHb (mulV (ttV big (divPV v u 30)) (ttV big (divPV v u 30)) 30) ((bif big then h || divPH v u 30 || divPH (wr IntKind.i64 (divPV v u 30 - 1073741824)) (wr IntKind.i64 (divPV v u 30 + 1073741824)) 30 else h || divPH v u 30) || mulH (ttV big (divPV v u 30)) (ttV big (divPV v u 30)) 30) (-46684427) atL || mulH (ttV big (divPV v u 30)) (serV (mulV (ttV big (divPV v u 30)) (ttV big (divPV v u 30)) 30) (-46684427) atL) 30
theorem razt (y x : Int) (hb : Bool) (ty : TypeId) : (runF Try.prog S36 Zl 2000 47 [A0, I y, I x] [(0, flag ty hb)] 1 [some true, some true]).map acc3 = some (I 0, some (flag ty (hb || satH y || satH x)), [((fabsV (satV y)) == 0, true), (decide ((fabsV (satV y)) > (fabsV (satV x))), true)]) := by kernel_rfl
theorem ratttt (y x : Int) (hb : Bool) (ty : TypeId) : (runF Try.prog S36 Zl 2000 47 [A0, I y, I x] [(0, flag ty hb)] 1 [some true, some false, some true, none, none, none, none, none, none, none, none, none, none, none, none, some true, some true, some true]).map acc3 = some (I (atanB true true true true (divPV (fabsV (satV x)) (fabsV (satV y)) 30)), some (flag ty (atanHG true (fabsV (satV x)) (fabsV (satV y)) (hb || satH y || satH x))), [(decide (satV y < 0), true), (decide (satV x < 0), true), (decide ((fabsV (satV y)) > (fabsV (satV x))), true), (decide (divPV (fabsV (satV x)) (fabsV (satV y)) 30 > 444758426), true), ((fabsV (satV y)) == 0, false), (decide ((fabsV (satV y)) > (fabsV (satV x))), true)]) := by kernel_rfl
theorem ratttf (y x : Int) (hb : Bool) (ty : TypeId) : (runF Try.prog S36 Zl 2000 47 [A0, I y, I x] [(0, flag ty hb)] 1 [some true, some false, some true, none, none, none, none, none, none, none, none, none, none, none, none, some true, some true, some false]).map acc3 = some (I (atanB true true true false (divPV (fabsV (satV x)) (fabsV (satV y)) 30)), some (flag ty (atanHG true (fabsV (satV x)) (fabsV (satV y)) (hb || satH y || satH x))), [(decide (satV y < 0), false), (decide (satV x < 0), true), (decide ((fabsV (satV y)) > (fabsV (satV x))), true), (decide (divPV (fabsV (satV x)) (fabsV (satV y)) 30 > 444758426), true), ((fabsV (satV y)) == 0, false), (decide ((fabsV (satV y)) > (fabsV (satV x))), true)]) := by kernel_rfl
theorem rattft (y x : Int) (hb : Bool) (ty : TypeId) : (runF Try.prog S36 Zl 2000 47 [A0, I y, I x] [(0, flag ty hb)] 1 [some true, some false, some true, none, none, none, none, none, none, none, none, none, none, none, none, some true, some false, some true]).map acc3 = some (I (atanB true true false true (divPV (fabsV (satV x)) (fabsV (satV y)) 30)), some (flag ty (atanHG true (fabsV (satV x)) (fabsV (satV y)) (hb || satH y || satH x))), [(decide (satV y < 0), true), (decide (satV x < 0), false), (decide ((fabsV (satV y)) > (fabsV (satV x))), true), (decide (divPV (fabsV (satV x)) (fabsV (satV y)) 30 > 444758426), true), ((fabsV (satV y)) == 0, false), (decide ((fabsV (satV y)) > (fabsV (satV x))), true)]) := by kernel_rfl
theorem rattff (y x : Int) (hb : Bool) (ty : TypeId) : (runF Try.prog S36 Zl 2000 47 [A0, I y, I x] [(0, flag ty hb)] 1 [some true, some false, some true, none, none, none, none, none, none, none, none, none, none, none, none, some true, some false, some false]).map acc3 = some (I (atanB true true false false (divPV (fabsV (satV x)) (fabsV (satV y)) 30)), some (flag ty (atanHG true (fabsV (satV x)) (fabsV (satV y)) (hb || satH y || satH x))), [(decide (satV y < 0), false), (decide (satV x < 0), false), (decide ((fabsV (satV y)) > (fabsV (satV x))), true), (decide (divPV (fabsV (satV x)) (fabsV (satV y)) 30 > 444758426), true), ((fabsV (satV y)) == 0, false), (decide ((fabsV (satV y)) > (fabsV (satV x))), true)]) := by kernel_rfl
theorem ratftt (y x : Int) (hb : Bool) (ty : TypeId) : (runF Try.prog S36 Zl 2000 47 [A0, I y, I x] [(0, flag ty hb)] 1 [some true, some false, some false, none, none, none, none, none, none, none, none, none, none, none, none, some true, some true, some true]).map acc3 = some (I (atanB false true true true (divPV (fabsV (satV x)) (fabsV (satV y)) 30)), some (flag ty (atanHG false (fabsV (satV x)) (fabsV (satV y)) (hb || satH y || satH x))), [(decide (satV y < 0), true), (decide (satV x < 0), true), (decide ((fabsV (satV y)) > (fabsV (satV x))), true), (decide (divPV (fabsV (satV x)) (fabsV (satV y)) 30 > 444758426), false), ((fabsV (satV y)) == 0, false), (decide ((fabsV (satV y)) > (fabsV (satV x))), true)]) := by kernel_rfl
theorem ratftf (y x : Int) (hb : Bool) (ty : TypeId) : (runF Try.prog S36 Zl 2000 47 [A0, I y, I x] [(0, flag ty hb)] 1 [some true, some false, some false, none, none, none, none, none, none, none, none, none, none, none, none, some true, some true, some false]).map acc3 = some (I (atanB false true true false (divPV (fabsV (satV x)) (fabsV (satV y)) 30)), some (flag ty (atanHG false (fabsV (satV x)) (fabsV (satV y)) (hb || satH y || satH x))), [(decide (satV y < 0), false), (decide (satV x < 0), true), (decide ((fabsV (satV y)) > (fabsV (satV x))), true), (decide (divPV (fabsV (satV x)) (fabsV (satV y)) 30 > 444758426), false), ((fabsV (satV y)) == 0, false), (decide ((fabsV (satV y)) > (fabsV (satV x))), true)]) := by kernel_rfl
theorem ratfft (y x : Int) (hb : Bool) (ty : TypeId) : (runF Try.prog S36 Zl 2000 47 [A0, I y, I x] [(0, flag ty hb)] 1 [some true, some false, some false, none, none, none, none, none, none, none, none, none, none, none, none, some true, some false, some true]).map acc3 = some (I (atanB false true false true (divPV (fabsV (satV x)) (fabsV (satV y)) 30)), some (flag ty (atanHG false (fabsV (satV x)) (fabsV (satV y)) (hb || satH y || satH x))), [(decide (satV y < 0), true), (decide (satV x < 0), false), (decide ((fabsV (satV y)) > (fabsV (satV x))), true), (decide (divPV (fabsV (satV x)) (fabsV (satV y)) 30 > 444758426), false), ((fabsV (satV y)) == 0, false), (decide ((fabsV (satV y)) > (fabsV (satV x))), true)]) := by kernel_rfl
theorem ratfff (y x : Int) (hb : Bool) (ty : TypeId) : (runF Try.prog S36 Zl 2000 47 [A0, I y, I x] [(0, flag ty hb)] 1 [some true, some false, some false, none, none, none, none, none, none, none, none, none, none, none, none, some true, some false, some false]).map acc3 = some (I (atanB false true false false (divPV (fabsV (satV x)) (fabsV (satV y)) 30)), some (flag ty (atanHG false (fabsV (satV x)) (fabsV (satV y)) (hb || satH y || satH x))), [(decide (satV y < 0), false), (decide (satV x < 0), false), (decide ((fabsV (satV y)) > (fabsV (satV x))), true), (decide (divPV (fabsV (satV x)) (fabsV (satV y)) 30 > 444758426), false), ((fabsV (satV y)) == 0, false), (decide ((fabsV (satV y)) > (fabsV (satV x))), true)]) := by kernel_rfl
theorem razf (y x : Int) (hb : Bool) (ty : TypeId) : (runF Try.prog S36 Zl 2000 47 [A0, I y, I x] [(0, flag ty hb)] 1 [some false, some true]).map acc3 = some (I 0, some (flag ty (hb || satH y || satH x)), [((fabsV (satV x)) == 0, true), (decide ((fabsV (satV y)) > (fabsV (satV x))), false)]) := by kernel_rfl
theorem rafttt (y x : Int) (hb : Bool) (ty : TypeId) : (runF Try.prog S36 Zl 2000 47 [A0, I y, I x] [(0, flag ty hb)] 1 [some false, some false, some true, none, none, none, none, none, none, none, none, none, none, none, none, some false, some true, some true]).map acc3 = some (I (atanB true false true true (divPV (fabsV (satV y)) (fabsV (satV x)) 30)), some (flag ty (atanHG true (fabsV (satV y)) (fabsV (satV x)) (hb || satH y || satH x))), [(decide (satV y < 0), true), (decide (satV x < 0), true), (decide ((fabsV (satV y)) > (fabsV (satV x))), false), (decide (divPV (fabsV (satV y)) (fabsV (satV x)) 30 > 444758426), true), ((fabsV (satV x)) == 0, false), (decide ((fabsV (satV y)) > (fabsV (satV x))), false)]) := by kernel_rfl
theorem rafttf (y x : Int) (hb : Bool) (ty : TypeId) : (runF Try.prog S36 Zl 2000 47 [A0, I y, I x] [(0, flag ty hb)] 1 [some false, some false, some true, none, none, none, none, none, none, none, none, none, none, none, none, some false, some true, some false]).map acc3 = some (I (atanB true false true false (divPV (fabsV (satV y)) (fabsV (satV x)) 30)), some (flag ty (atanHG true (fabsV (satV y)) (fabsV (satV x)) (hb || satH y || satH x))), [(decide (satV y < 0), false), (decide (satV x < 0), true), (decide ((fabsV (satV y)) > (fabsV (satV x))), false), (decide (divPV (fabsV (satV y)) (fabsV (satV x)) 30 > 444758426), true), ((fabsV (satV x)) == 0, false), (decide ((fabsV (satV y)) > (fabsV (satV x))), false)]) := by kernel_rfl
theorem raftft (y x : Int) (hb : Bool) (ty : TypeId) : (runF Try.prog S36 Zl 2000 47 [A0, I y, I x] [(0, flag ty hb)] 1 [some false, some false, some true, none, none, none, none, none, none, none, none, none, none, none, none, some false, some false, some true]).map acc3 = some (I (atanB true false false true (divPV (fabsV (satV y)) (fabsV (satV x)) 30)), some (flag ty (atanHG true (fabsV (satV y)) (fabsV (satV x)) (hb || satH y || satH x))), [(decide (satV y < 0), true), (decide (satV x < 0), false), (decide ((fabsV (satV y)) > (fabsV (satV x))), false), (decide (divPV (fabsV (satV y)) (fabsV (satV x)) 30 > 444758426), true), ((fabsV (satV x)) == 0, false), (decide ((fabsV (satV y)) > (fabsV (satV x))), false)]) := by kernel_rfl
theorem raftff (y x : Int) (hb : Bool) (ty : TypeId) : (runF Try.prog S36 Zl 2000 47 [A0, I y, I x] [(0, flag ty hb)] 1 [some false, some false, some true, none, none, none, none, none, none, none, none, none, none, none, none, some false, some false, some false]).map acc3 = some (I (atanB true false false false (divPV (fabsV (satV y)) (fabsV (satV x)) 30)), some (flag ty (atanHG true (fabsV (satV y)) (fabsV (satV x)) (hb || satH y || satH x))), [(decide (satV y < 0), false), (decide (satV x < 0), false), (decide ((fabsV (satV y)) > (fabsV (satV x))), false), (decide (divPV (fabsV (satV y)) (fabsV (satV x)) 30 > 444758426), true), ((fabsV (satV x)) == 0, false), (decide ((fabsV (satV y)) > (fabsV (satV x))), false)]) := by kernel_rfl
theorem rafftt (y x : Int) (hb : Bool) (ty : TypeId) : (runF Try.prog S36 Zl 2000 47 [A0, I y, I x] [(0, flag ty hb)] 1 [some false, some false, some false, none, none, none, none, none, none, none, none, none, none, none, none, some false, some true, some true]).map acc3 = some (I (atanB false false true true (divPV (fabsV (satV y)) (fabsV (satV x)) 30)), some (flag ty (atanHG false (fabsV (satV y)) (fabsV (satV x)) (hb || satH y || satH x))), [(decide (satV y < 0), true), (decide (satV x < 0), true), (decide ((fabsV (satV y)) > (fabsV (satV x))), false), (decide (divPV (fabsV (satV y)) (fabsV (satV x)) 30 > 444758426), false), ((fabsV (satV x)) == 0, false), (decide ((fabsV (satV y)) > (fabsV (satV x))), false)]) := by kernel_rfl
theorem rafftf (y x : Int) (hb : Bool) (ty : TypeId) : (runF Try.prog S36 Zl 2000 47 [A0, I y, I x] [(0, flag ty hb)] 1 [some false, some false, some false, none, none, none, none, none, none, none, none, none, none, none, none, some false, some true, some false]).map acc3 = some (I (atanB false false true false (divPV (fabsV (satV y)) (fabsV (satV x)) 30)), some (flag ty (atanHG false (fabsV (satV y)) (fabsV (satV x)) (hb || satH y || satH x))), [(decide (satV y < 0), false), (decide (satV x < 0), true), (decide ((fabsV (satV y)) > (fabsV (satV x))), false), (decide (divPV (fabsV (satV y)) (fabsV (satV x)) 30 > 444758426), false), ((fabsV (satV x)) == 0, false), (decide ((fabsV (satV y)) > (fabsV (satV x))), false)]) := by kernel_rfl
theorem raffft (y x : Int) (hb : Bool) (ty : TypeId) : (runF Try.prog S36 Zl 2000 47 [A0, I y, I x] [(0, flag ty hb)] 1 [some false, some false, some false, none, none, none, none, none, none, none, none, none, none, none, none, some false, some false, some true]).map acc3 = some (I (atanB false false false true (divPV (fabsV (satV y)) (fabsV (satV x)) 30)), some (flag ty (atanHG false (fabsV (satV y)) (fabsV (satV x)) (hb || satH y || satH x))), [(decide (satV y < 0), true), (decide (satV x < 0), false), (decide ((fabsV (satV y)) > (fabsV (satV x))), false), (decide (divPV (fabsV (satV y)) (fabsV (satV x)) 30 > 444758426), false), ((fabsV (satV x)) == 0, false), (decide ((fabsV (satV y)) > (fabsV (satV x))), false)]) := by kernel_rfl
theorem raffff (y x : Int) (hb : Bool) (ty : TypeId) : (runF Try.prog S36 Zl 2000 47 [A0, I y, I x] [(0, flag ty hb)] 1 [some false, some false, some false, none, none, none, none, none, none, none, none, none, none, none, none, some false, some false, some false]).map acc3 = some (I (atanB false false false false (divPV (fabsV (satV y)) (fabsV (satV x)) 30)), some (flag ty (atanHG false (fabsV (satV y)) (fabsV (satV x)) (hb || satH y || satH x))), [(decide (satV y < 0), false), (decide (satV x < 0), false), (decide ((fabsV (satV y)) > (fabsV (satV x))), false), (decide (divPV (fabsV (satV y)) (fabsV (satV x)) 30 > 444758426), false), ((fabsV (satV x)) == 0, false), (decide ((fabsV (satV y)) > (fabsV (satV x))), false)]) := by kernel_rfl

def ratV (v u y x : Int) (s : Bool) : Int := bif u == 0 then 0 else atanB (decide (divPV v u 30 > 444758426)) s (decide (satV x < 0)) (decide (satV y < 0)) (divPV v u 30)
def ratH (v u : Int) (h : Bool) : Bool := bif u == 0 then h else atanHG (decide (divPV v u 30 > 444758426)) v u h
def ratanS : List LV → Bool → Option (LV × Bool × List (Bool × Bool))
  | [.v (.one (.int .i64 y)), .v (.one (.int .i64 x))], hb => bif decide (fabsV (satV y) > fabsV (satV x)) then some (I (ratV (fabsV (satV x)) (fabsV (satV y)) y x true), ratH (fabsV (satV x)) (fabsV (satV y)) (hb || satH y || satH x), []) else some (I (ratV (fabsV (satV y)) (fabsV (satV x)) y x false), ratH (fabsV (satV y)) (fabsV (satV x)) (hb || satH y || satH x), [])
  | _, _ => none
theorem sumRatan0 (ty : TypeId) : SumOK Try.prog 47 (accSum ty ratanS) := by
  refine accSum_run (z := Zl) sound36 (own_of sound36 Try.func47 (by kernel_rfl)) fun args hb v h' cs hF hc => ?_
  unfold ratanS at hF
  split at hF
  · rename_i y x
    rcases bool_cases (decide (fabsV (satV y) > fabsV (satV x))) with h0 | h0
    · rw [cond_t h0] at hF
      cases hF
      refine ⟨rfl, ?_⟩
      unfold ratV ratH
      rcases bool_cases ((fabsV (satV y)) == 0) with h1 | h1
      · rw [cond_t h1, cond_t h1]; exact ⟨2000, _, _, razt y x hb ty, ae_cons h1 (ae_cons h0 ae_nil)⟩
      · rw [cond_f h1, cond_f h1]
        rcases bool_cases (decide (divPV (fabsV (satV x)) (fabsV (satV y)) 30 > 444758426)) with h2 | h2 <;> rcases bool_cases (decide (satV x < 0)) with h3 | h3 <;> rcases bool_cases (decide (satV y < 0)) with h4 | h4 <;> rw [h2, h3, h4]
        · exact ⟨2000, _, _, ratttt y x hb ty, ae_cons h4 (ae_cons h3 (ae_cons h0 (ae_cons h2 (ae_cons h1 (ae_cons h0 ae_nil)))))⟩
        · exact ⟨2000, _, _, ratttf y x hb ty, ae_cons h4 (ae_cons h3 (ae_cons h0 (ae_cons h2 (ae_cons h1 (ae_cons h0 ae_nil)))))⟩
        · exact ⟨2000, _, _, rattft y x hb ty, ae_cons h4 (ae_cons h3 (ae_cons h0 (ae_cons h2 (ae_cons h1 (ae_cons h0 ae_nil)))))⟩
        · exact ⟨2000, _, _, rattff y x hb ty, ae_cons h4 (ae_cons h3 (ae_cons h0 (ae_cons h2 (ae_cons h1 (ae_cons h0 ae_nil)))))⟩
        · exact ⟨2000, _, _, ratftt y x hb ty, ae_cons h4 (ae_cons h3 (ae_cons h0 (ae_cons h2 (ae_cons h1 (ae_cons h0 ae_nil)))))⟩
        · exact ⟨2000, _, _, ratftf y x hb ty, ae_cons h4 (ae_cons h3 (ae_cons h0 (ae_cons h2 (ae_cons h1 (ae_cons h0 ae_nil)))))⟩
        · exact ⟨2000, _, _, ratfft y x hb ty, ae_cons h4 (ae_cons h3 (ae_cons h0 (ae_cons h2 (ae_cons h1 (ae_cons h0 ae_nil)))))⟩
        · exact ⟨2000, _, _, ratfff y x hb ty, ae_cons h4 (ae_cons h3 (ae_cons h0 (ae_cons h2 (ae_cons h1 (ae_cons h0 ae_nil)))))⟩
    · rw [cond_f h0] at hF
      cases hF
      refine ⟨rfl, ?_⟩
      unfold ratV ratH
      rcases bool_cases ((fabsV (satV x)) == 0) with h1 | h1
      · rw [cond_t h1, cond_t h1]; exact ⟨2000, _, _, razf y x hb ty, ae_cons h1 (ae_cons h0 ae_nil)⟩
      · rw [cond_f h1, cond_f h1]
        rcases bool_cases (decide (divPV (fabsV (satV y)) (fabsV (satV x)) 30 > 444758426)) with h2 | h2 <;> rcases bool_cases (decide (satV x < 0)) with h3 | h3 <;> rcases bool_cases (decide (satV y < 0)) with h4 | h4 <;> rw [h2, h3, h4]
        · exact ⟨2000, _, _, rafttt y x hb ty, ae_cons h4 (ae_cons h3 (ae_cons h0 (ae_cons h2 (ae_cons h1 (ae_cons h0 ae_nil)))))⟩
        · exact ⟨2000, _, _, rafttf y x hb ty, ae_cons h4 (ae_cons h3 (ae_cons h0 (ae_cons h2 (ae_cons h1 (ae_cons h0 ae_nil)))))⟩
        · exact ⟨2000, _, _, raftft y x hb ty, ae_cons h4 (ae_cons h3 (ae_cons h0 (ae_cons h2 (ae_cons h1 (ae_cons h0 ae_nil)))))⟩
        · exact ⟨2000, _, _, raftff y x hb ty, ae_cons h4 (ae_cons h3 (ae_cons h0 (ae_cons h2 (ae_cons h1 (ae_cons h0 ae_nil)))))⟩
        · exact ⟨2000, _, _, rafftt y x hb ty, ae_cons h4 (ae_cons h3 (ae_cons h0 (ae_cons h2 (ae_cons h1 (ae_cons h0 ae_nil)))))⟩
        · exact ⟨2000, _, _, rafftf y x hb ty, ae_cons h4 (ae_cons h3 (ae_cons h0 (ae_cons h2 (ae_cons h1 (ae_cons h0 ae_nil)))))⟩
        · exact ⟨2000, _, _, raffft y x hb ty, ae_cons h4 (ae_cons h3 (ae_cons h0 (ae_cons h2 (ae_cons h1 (ae_cons h0 ae_nil)))))⟩
        · exact ⟨2000, _, _, raffff y x hb ty, ae_cons h4 (ae_cons h3 (ae_cons h0 (ae_cons h2 (ae_cons h1 (ae_cons h0 ae_nil)))))⟩
  · cases hF
theorem sumRatan (ty : TypeId) : SumOK Try.prog 47 (accSum ty atanS) := by
  refine (sumRatan0 ty).acc_re fun args hb v h' cs hF hc => ?_
  unfold atanS at hF
  split at hF
  · rename_i y x
    cases hF
    refine ⟨[], ?_, ae_nil⟩
    unfold ratanS
    show (bif decide (fabsV (satV y) > fabsV (satV x)) then _ else _) = _
    have eH : ∀ b h, atanHB b y x h = atanHG b (mnV y x) (mxV y x) h := fun b h => rfl
    have eT : t0V y x = divPV (mnV y x) (mxV y x) 30 := rfl
    unfold atanV atanH ratV ratH
    rw [eH, eT]
    by_cases h : fabsV (satV y) > fabsV (satV x)
    · have e1 : mnV y x = fabsV (satV x) := by unfold mnV; rw [if_pos h]
      have e2 : mxV y x = fabsV (satV y) := by unfold mxV; rw [if_neg (by omega)]
      rw [cond_t (decide_eq_true h), e1, e2, decide_eq_true h]
    · have e1 : mnV y x = fabsV (satV y) := by unfold mnV; rw [if_neg (by omega)]
      have e2 : mxV y x = fabsV (satV x) := by unfold mxV; split <;> omega
      rw [cond_f (decide_eq_false h), e1, e2, decide_eq_false h]
  · cases hF
noncomputable def S38 : FuncId → Option SumK := more (more (more S36 42 (accSum 27 sinS)) 43 (accAny sinS)) 47 (accAny atanS)
theorem sound38 : Sound Try.prog S38 := ((sound36.more sumSin).more (accAny_ok sumRsin)).more (accAny_ok sumRatan)

/-- The cosine; the angle of a sine. -/
def cosV (a : Int) : Int := sinV (wr IntKind.i64 (1686629713 + wrapV a))
def cosH (a : Int) (h : Bool) : Bool := sinH (wr IntKind.i64 (1686629713 + wrapV a)) h
def asinV (a : Int) : Int := atanV (clO a) (sqrtV (wr IntKind.i64 (1073741824 - mulV (clO a) (clO a) 30)))
def asinH (a : Int) (h : Bool) : Bool := atanH (clO a) (sqrtV (wr IntKind.i64 (1073741824 - mulV (clO a) (clO a) 30))) (h || clampH a (-1073741824) 1073741824 || mulH (clO a) (clO a) 30 || sqrtH (wr IntKind.i64 (1073741824 - mulV (clO a) (clO a) 30)))
def cosS : List LV → Bool → Option (LV × Bool × List (Bool × Bool))
  | [.v (.one (.int .i64 a))], hb => some (I (cosV a), cosH a hb, [])
  | _, _ => none
def asinS : List LV → Bool → Option (LV × Bool × List (Bool × Bool))
  | [.v (.one (.int .i64 a))], hb => some (I (asinV a), asinH a hb, [])
  | _, _ => none
theorem runCos (a : Int) (hb : Bool) (ty : TypeId) (ht : ty = 27) : (runF Try.prog S38 Zl 2000 44 [A0, I a] [(0, flag ty hb)] 1 []).map acc3 = some (I (cosV a), some (flag ty (cosH a hb)), []) := by subst ht; kernel_rfl
theorem sumCos : SumOK Try.prog 44 (accSum 27 cosS) := by
  refine accSum_run (z := Zl) sound38 (own_of sound38 Try.func44 (by kernel_rfl)) fun args hb v h' cs hF hc => ?_
  unfold cosS at hF
  split at hF
  · rename_i a
    cases hF
    exact ⟨rfl, 2000, _, _, runCos a hb _ rfl, ae_nil⟩
  · cases hF
theorem runRcos (a : Int) (hb : Bool) (ty : TypeId) : (runF Try.prog S38 Zl 2000 45 [A0, I a] [(0, flag ty hb)] 1 []).map acc3 = some (I (cosV a), some (flag ty (cosH a hb)), []) := by kernel_rfl
theorem sumRcos (ty : TypeId) : SumOK Try.prog 45 (accSum ty cosS) := by
  refine accSum_run (z := Zl) sound38 (own_of sound38 Try.func45 (by kernel_rfl)) fun args hb v h' cs hF hc => ?_
  unfold cosS at hF
  split at hF
  · rename_i a
    cases hF
    exact ⟨rfl, 2000, _, _, runRcos a hb _, ae_nil⟩
  · cases hF
theorem runAsin (a : Int) (hb : Bool) (ty : TypeId) (ht : ty = 27) : (runF Try.prog S38 Zl 2000 48 [A0, I a] [(0, flag ty hb)] 1 []).map acc3 = some (I (asinV a), some (flag ty (asinH a hb)), []) := by subst ht; kernel_rfl
theorem sumAsin : SumOK Try.prog 48 (accSum 27 asinS) := by
  refine accSum_run (z := Zl) sound38 (own_of sound38 Try.func48 (by kernel_rfl)) fun args hb v h' cs hF hc => ?_
  unfold asinS at hF
  split at hF
  · rename_i a
    cases hF
    exact ⟨rfl, 2000, _, _, runAsin a hb _ rfl, ae_nil⟩
  · cases hF
theorem runRasin (a : Int) (hb : Bool) (ty : TypeId) : (runF Try.prog S38 Zl 2000 49 [A0, I a] [(0, flag ty hb)] 1 []).map acc3 = some (I (asinV a), some (flag ty (asinH a hb)), []) := by kernel_rfl
theorem sumRasin (ty : TypeId) : SumOK Try.prog 49 (accSum ty asinS) := by
  refine accSum_run (z := Zl) sound38 (own_of sound38 Try.func49 (by kernel_rfl)) fun args hb v h' cs hF hc => ?_
  unfold asinS at hF
  split at hF
  · rename_i a
    cases hF
    exact ⟨rfl, 2000, _, _, runRasin a hb _, ae_nil⟩
  · cases hF
noncomputable def S39 : FuncId → Option SumK := more (more (more (more (more S38 44 (accSum 27 cosS)) 45 (accAny cosS)) 48 (accSum 27 asinS)) 49 (accAny asinS)) 41 (pureSum trueF)
theorem sound39 : Sound Try.prog S39 := ((((sound38.more sumCos).more (accAny_ok sumRcos)).more sumAsin).more (accAny_ok sumRasin)).more sumAwakeD
end Go.Proofs.Ythfanchjkkeejaa

/- Quaternions in both answers: their runs, against what they compute. -/
namespace Go.Proofs.Ythfanchjkkeejaa
open Go.Lr
set_option linter.unusedVariables false
set_option linter.unusedSimpArgs false

theorem qsameR1 (a0 a1 a2 a3 b0 b1 b2 b3 : Int) : (runF Try.prog S34 Zl 2000 32 [.v (.agg [.int .i64 a0, .int .i64 a1, .int .i64 a2, .int .i64 a3]), .v (.agg [.int .i64 b0, .int .i64 b1, .int .i64 b2, .int .i64 b3])] [] 0 [none, none, none, none, none, none, none, none, none, none, some true, some true, some true, some true, some true, none, some true, some true, some true, some true, some true, some true, some true, some true, some true, some true, some true, some true, some true, some true, none, some true, some true, some true, some true, some true, some true, some true, some true, some true, some true, some true, some true, some true, some true, none, some true, some true, some true, some true, some true, some true, some true, some true, some true, some true, some true, some true, some true, some true, none, some true, some true]).map (fun r => (r.1, r.2.2.2)) = some (LV.v (V1.one (At.bool true)), [(a0 == b0 && (a1 == b1 && (a2 == b2 && (a3 == b3 && true))), true), (a0 == b0 && (a1 == b1 && (a2 == b2 && (a3 == b3 && true))), true), (a3 == wr IntKind.i64 (0 - b3), true), (a3 == wr IntKind.i64 (0 - b3), true), (a3 == wr IntKind.i64 (0 - b3), true), (a3 == wr IntKind.i64 (0 - b3), true), (a3 == wr IntKind.i64 (0 - b3), true), (a2 != -9223372036854775808, true), (a2 != -9223372036854775808, true), (a2 != -9223372036854775808, true), (a2 != -9223372036854775808, true), (a2 != -9223372036854775808, true), (a2 != -9223372036854775808, true), (a2 != -9223372036854775808, true), (a2 != -9223372036854775808, true), (a2 != -9223372036854775808, true), (a2 == wr IntKind.i64 (0 - b2), true), (a2 == wr IntKind.i64 (0 - b2), true), (a2 == wr IntKind.i64 (0 - b2), true), (a2 == wr IntKind.i64 (0 - b2), true), (a2 == wr IntKind.i64 (0 - b2), true), (a1 != -9223372036854775808, true), (a1 != -9223372036854775808, true), (a1 != -9223372036854775808, true), (a1 != -9223372036854775808, true), (a1 != -9223372036854775808, true), (a1 != -9223372036854775808, true), (a1 != -9223372036854775808, true), (a1 != -9223372036854775808, true), (a1 != -9223372036854775808, true), (a1 == wr IntKind.i64 (0 - b1), true), (a1 == wr IntKind.i64 (0 - b1), true), (a1 == wr IntKind.i64 (0 - b1), true), (a1 == wr IntKind.i64 (0 - b1), true), (a1 == wr IntKind.i64 (0 - b1), true), (a0 != -9223372036854775808, true), (a0 != -9223372036854775808, true), (a0 != -9223372036854775808, true), (a0 != -9223372036854775808, true), (a0 != -9223372036854775808, true), (a0 != -9223372036854775808, true), (a0 != -9223372036854775808, true), (a0 != -9223372036854775808, true), (a0 != -9223372036854775808, true), (a0 == wr IntKind.i64 (0 - b0), true), (a0 == wr IntKind.i64 (0 - b0), true), (a0 == wr IntKind.i64 (0 - b0), true), (a0 == wr IntKind.i64 (0 - b0), true), (a0 == wr IntKind.i64 (0 - b0), true)]) := by kernel_rfl
theorem qsameR2 (a0 a1 a2 a3 b0 b1 b2 b3 : Int) : (runF Try.prog S34 Zl 2000 32 [.v (.agg [.int .i64 a0, .int .i64 a1, .int .i64 a2, .int .i64 a3]), .v (.agg [.int .i64 b0, .int .i64 b1, .int .i64 b2, .int .i64 b3])] [] 0 [none, none, none, none, none, none, none, none, none, none, some true, some true, some true, some true, some true, none, some true, some true, some true, some true, some true, some true, some true, some true, some true, some true, some true, some true, some true, some true, none, some true, some true, some true, some true, some true, some true, some true, some true, some true, some true, some true, some true, some true, some true, none, some true, some true, some true, some true, some true, some true, some true, some true, some true, some true, some true, some true, some true, some true, none, some false, some false]).map (fun r => (r.1, r.2.2.2)) = some (LV.v (V1.one (At.bool (a3 != -9223372036854775808))), [(a0 == b0 && (a1 == b1 && (a2 == b2 && (a3 == b3 && true))), false), (a0 == b0 && (a1 == b1 && (a2 == b2 && (a3 == b3 && true))), false), (a3 == wr IntKind.i64 (0 - b3), true), (a3 == wr IntKind.i64 (0 - b3), true), (a3 == wr IntKind.i64 (0 - b3), true), (a3 == wr IntKind.i64 (0 - b3), true), (a3 == wr IntKind.i64 (0 - b3), true), (a2 != -9223372036854775808, true), (a2 != -9223372036854775808, true), (a2 != -9223372036854775808, true), (a2 != -9223372036854775808, true), (a2 != -9223372036854775808, true), (a2 != -9223372036854775808, true), (a2 != -9223372036854775808, true), (a2 != -9223372036854775808, true), (a2 != -9223372036854775808, true), (a2 == wr IntKind.i64 (0 - b2), true), (a2 == wr IntKind.i64 (0 - b2), true), (a2 == wr IntKind.i64 (0 - b2), true), (a2 == wr IntKind.i64 (0 - b2), true), (a2 == wr IntKind.i64 (0 - b2), true), (a1 != -9223372036854775808, true), (a1 != -9223372036854775808, true), (a1 != -9223372036854775808, true), (a1 != -9223372036854775808, true), (a1 != -9223372036854775808, true), (a1 != -9223372036854775808, true), (a1 != -9223372036854775808, true), (a1 != -9223372036854775808, true), (a1 != -9223372036854775808, true), (a1 == wr IntKind.i64 (0 - b1), true), (a1 == wr IntKind.i64 (0 - b1), true), (a1 == wr IntKind.i64 (0 - b1), true), (a1 == wr IntKind.i64 (0 - b1), true), (a1 == wr IntKind.i64 (0 - b1), true), (a0 != -9223372036854775808, true), (a0 != -9223372036854775808, true), (a0 != -9223372036854775808, true), (a0 != -9223372036854775808, true), (a0 != -9223372036854775808, true), (a0 != -9223372036854775808, true), (a0 != -9223372036854775808, true), (a0 != -9223372036854775808, true), (a0 != -9223372036854775808, true), (a0 == wr IntKind.i64 (0 - b0), true), (a0 == wr IntKind.i64 (0 - b0), true), (a0 == wr IntKind.i64 (0 - b0), true), (a0 == wr IntKind.i64 (0 - b0), true), (a0 == wr IntKind.i64 (0 - b0), true)]) := by kernel_rfl
theorem qsameR3 (a0 a1 a2 a3 b0 b1 b2 b3 : Int) : (runF Try.prog S34 Zl 2000 32 [.v (.agg [.int .i64 a0, .int .i64 a1, .int .i64 a2, .int .i64 a3]), .v (.agg [.int .i64 b0, .int .i64 b1, .int .i64 b2, .int .i64 b3])] [] 0 [none, none, none, none, none, none, none, none, none, none, some true, some true, some true, some true, some true, none, some true, some true, some true, some true, some true, some true, some true, some true, some true, some true, some true, some true, some true, some true, none, some true, some true, some true, some true, some true, some true, some true, some true, some true, some true, some true, some true, some true, some true, none, some true, some true, some true, some true, some true, some true, some true, some true, some true, some false, some false, some false, some false, some false, none, some true, some true]).map (fun r => (r.1, r.2.2.2)) = some (LV.v (V1.one (At.bool true)), [(a0 == b0 && (a1 == b1 && (a2 == b2 && (a3 == b3 && true))), true), (a0 == b0 && (a1 == b1 && (a2 == b2 && (a3 == b3 && true))), true), (a3 == wr IntKind.i64 (0 - b3), false), (a3 == wr IntKind.i64 (0 - b3), false), (a3 == wr IntKind.i64 (0 - b3), false), (a3 == wr IntKind.i64 (0 - b3), false), (a3 == wr IntKind.i64 (0 - b3), false), (a2 != -9223372036854775808, true), (a2 != -9223372036854775808, true), (a2 != -9223372036854775808, true), (a2 != -9223372036854775808, true), (a2 != -9223372036854775808, true), (a2 != -9223372036854775808, true), (a2 != -9223372036854775808, true), (a2 != -9223372036854775808, true), (a2 != -9223372036854775808, true), (a2 == wr IntKind.i64 (0 - b2), true), (a2 == wr IntKind.i64 (0 - b2), true), (a2 == wr IntKind.i64 (0 - b2), true), (a2 == wr IntKind.i64 (0 - b2), true), (a2 == wr IntKind.i64 (0 - b2), true), (a1 != -9223372036854775808, true), (a1 != -9223372036854775808, true), (a1 != -9223372036854775808, true), (a1 != -9223372036854775808, true), (a1 != -9223372036854775808, true), (a1 != -9223372036854775808, true), (a1 != -9223372036854775808, true), (a1 != -9223372036854775808, true), (a1 != -9223372036854775808, true), (a1 == wr IntKind.i64 (0 - b1), true), (a1 == wr IntKind.i64 (0 - b1), true), (a1 == wr IntKind.i64 (0 - b1), true), (a1 == wr IntKind.i64 (0 - b1), true), (a1 == wr IntKind.i64 (0 - b1), true), (a0 != -9223372036854775808, true), (a0 != -9223372036854775808, true), (a0 != -9223372036854775808, true), (a0 != -9223372036854775808, true), (a0 != -9223372036854775808, true), (a0 != -9223372036854775808, true), (a0 != -9223372036854775808, true), (a0 != -9223372036854775808, true), (a0 != -9223372036854775808, true), (a0 == wr IntKind.i64 (0 - b0), true), (a0 == wr IntKind.i64 (0 - b0), true), (a0 == wr IntKind.i64 (0 - b0), true), (a0 == wr IntKind.i64 (0 - b0), true), (a0 == wr IntKind.i64 (0 - b0), true)]) := by kernel_rfl
theorem qsameR4 (a0 a1 a2 a3 b0 b1 b2 b3 : Int) : (runF Try.prog S34 Zl 2000 32 [.v (.agg [.int .i64 a0, .int .i64 a1, .int .i64 a2, .int .i64 a3]), .v (.agg [.int .i64 b0, .int .i64 b1, .int .i64 b2, .int .i64 b3])] [] 0 [none, none, none, none, none, none, none, none, none, none, some true, some true, some true, some true, some true, none, some true, some true, some true, some true, some true, some true, some true, some true, some true, some true, some true, some true, some true, some true, none, some true, some true, some true, some true, some true, some true, some true, some true, some true, some true, some true, some true, some true, some true, none, some true, some true, some true, some true, some true, some true, some true, some true, some true, some false, some false, some false, some false, some false, none, some false, some false]).map (fun r => (r.1, r.2.2.2)) = some (LV.v (V1.one (At.bool false)), [(a0 == b0 && (a1 == b1 && (a2 == b2 && (a3 == b3 && true))), false), (a0 == b0 && (a1 == b1 && (a2 == b2 && (a3 == b3 && true))), false), (a3 == wr IntKind.i64 (0 - b3), false), (a3 == wr IntKind.i64 (0 - b3), false), (a3 == wr IntKind.i64 (0 - b3), false), (a3 == wr IntKind.i64 (0 - b3), false), (a3 == wr IntKind.i64 (0 - b3), false), (a2 != -9223372036854775808, true), (a2 != -9223372036854775808, true), (a2 != -9223372036854775808, true), (a2 != -9223372036854775808, true), (a2 != -9223372036854775808, true), (a2 != -9223372036854775808, true), (a2 != -9223372036854775808, true), (a2 != -9223372036854775808, true), (a2 != -9223372036854775808, true), (a2 == wr IntKind.i64 (0 - b2), true), (a2 == wr IntKind.i64 (0 - b2), true), (a2 == wr IntKind.i64 (0 - b2), true), (a2 == wr IntKind.i64 (0 - b2), true), (a2 == wr IntKind.i64 (0 - b2), true), (a1 != -9223372036854775808, true), (a1 != -9223372036854775808, true), (a1 != -9223372036854775808, true), (a1 != -9223372036854775808, true), (a1 != -9223372036854775808, true), (a1 != -9223372036854775808, true), (a1 != -9223372036854775808, true), (a1 != -9223372036854775808, true), (a1 != -9223372036854775808, true), (a1 == wr IntKind.i64 (0 - b1), true), (a1 == wr IntKind.i64 (0 - b1), true), (a1 == wr IntKind.i64 (0 - b1), true), (a1 == wr IntKind.i64 (0 - b1), true), (a1 == wr IntKind.i64 (0 - b1), true), (a0 != -9223372036854775808, true), (a0 != -9223372036854775808, true), (a0 != -9223372036854775808, true), (a0 != -9223372036854775808, true), (a0 != -9223372036854775808, true), (a0 != -9223372036854775808, true), (a0 != -9223372036854775808, true), (a0 != -9223372036854775808, true), (a0 != -9223372036854775808, true), (a0 == wr IntKind.i64 (0 - b0), true), (a0 == wr IntKind.i64 (0 - b0), true), (a0 == wr IntKind.i64 (0 - b0), true), (a0 == wr IntKind.i64 (0 - b0), true), (a0 == wr IntKind.i64 (0 - b0), true)]) := by kernel_rfl
theorem qsameR5 (a0 a1 a2 a3 b0 b1 b2 b3 : Int) : (runF Try.prog S34 Zl 2000 32 [.v (.agg [.int .i64 a0, .int .i64 a1, .int .i64 a2, .int .i64 a3]), .v (.agg [.int .i64 b0, .int .i64 b1, .int .i64 b2, .int .i64 b3])] [] 0 [none, none, none, none, none, none, none, none, none, none, some true, some true, some true, some true, some true, none, some true, some true, some true, some true, some true, some true, some true, some true, some true, some true, some true, some true, some true, some true, none, some true, some true, some true, some true, some true, some true, some true, some true, some true, some true, some true, some true, some true, some true, none, some false, some false, some false, some false, some false, some false, some false, some false, some false, none, none, none, none, none, none, some true, some true]).map (fun r => (r.1, r.2.2.2)) = some (LV.v (V1.one (At.bool true)), [(a0 == b0 && (a1 == b1 && (a2 == b2 && (a3 == b3 && true))), true), (a0 == b0 && (a1 == b1 && (a2 == b2 && (a3 == b3 && true))), true), (a2 != -9223372036854775808, false), (a2 != -9223372036854775808, false), (a2 != -9223372036854775808, false), (a2 != -9223372036854775808, false), (a2 != -9223372036854775808, false), (a2 != -9223372036854775808, false), (a2 != -9223372036854775808, false), (a2 != -9223372036854775808, false), (a2 != -9223372036854775808, false), (a2 == wr IntKind.i64 (0 - b2), true), (a2 == wr IntKind.i64 (0 - b2), true), (a2 == wr IntKind.i64 (0 - b2), true), (a2 == wr IntKind.i64 (0 - b2), true), (a2 == wr IntKind.i64 (0 - b2), true), (a1 != -9223372036854775808, true), (a1 != -9223372036854775808, true), (a1 != -9223372036854775808, true), (a1 != -9223372036854775808, true), (a1 != -9223372036854775808, true), (a1 != -9223372036854775808, true), (a1 != -9223372036854775808, true), (a1 != -9223372036854775808, true), (a1 != -9223372036854775808, true), (a1 == wr IntKind.i64 (0 - b1), true), (a1 == wr IntKind.i64 (0 - b1), true), (a1 == wr IntKind.i64 (0 - b1), true), (a1 == wr IntKind.i64 (0 - b1), true), (a1 == wr IntKind.i64 (0 - b1), true), (a0 != -9223372036854775808, true), (a0 != -9223372036854775808, true), (a0 != -9223372036854775808, true), (a0 != -9223372036854775808, true), (a0 != -9223372036854775808, true), (a0 != -9223372036854775808, true), (a0 != -9223372036854775808, true), (a0 != -9223372036854775808, true), (a0 != -9223372036854775808, true), (a0 == wr IntKind.i64 (0 - b0), true), (a0 == wr IntKind.i64 (0 - b0), true), (a0 == wr IntKind.i64 (0 - b0), true), (a0 == wr IntKind.i64 (0 - b0), true), (a0 == wr IntKind.i64 (0 - b0), true)]) := by kernel_rfl
theorem qsameR6 (a0 a1 a2 a3 b0 b1 b2 b3 : Int) : (runF Try.prog S34 Zl 2000 32 [.v (.agg [.int .i64 a0, .int .i64 a1, .int .i64 a2, .int .i64 a3]), .v (.agg [.int .i64 b0, .int .i64 b1, .int .i64 b2, .int .i64 b3])] [] 0 [none, none, none, none, none, none, none, none, none, none, some true, some true, some true, some true, some true, none, some true, some true, some true, some true, some true, some true, some true, some true, some true, some true, some true, some true, some true, some true, none, some true, some true, some true, some true, some true, some true, some true, some true, some true, some true, some true, some true, some true, some true, none, some false, some false, some false, some false, some false, some false, some false, some false, some false, none, none, none, none, none, none, some false, some false]).map (fun r => (r.1, r.2.2.2)) = some (LV.v (V1.one (At.bool false)), [(a0 == b0 && (a1 == b1 && (a2 == b2 && (a3 == b3 && true))), false), (a0 == b0 && (a1 == b1 && (a2 == b2 && (a3 == b3 && true))), false), (a2 != -9223372036854775808, false), (a2 != -9223372036854775808, false), (a2 != -9223372036854775808, false), (a2 != -9223372036854775808, false), (a2 != -9223372036854775808, false), (a2 != -9223372036854775808, false), (a2 != -9223372036854775808, false), (a2 != -9223372036854775808, false), (a2 != -9223372036854775808, false), (a2 == wr IntKind.i64 (0 - b2), true), (a2 == wr IntKind.i64 (0 - b2), true), (a2 == wr IntKind.i64 (0 - b2), true), (a2 == wr IntKind.i64 (0 - b2), true), (a2 == wr IntKind.i64 (0 - b2), true), (a1 != -9223372036854775808, true), (a1 != -9223372036854775808, true), (a1 != -9223372036854775808, true), (a1 != -9223372036854775808, true), (a1 != -9223372036854775808, true), (a1 != -9223372036854775808, true), (a1 != -9223372036854775808, true), (a1 != -9223372036854775808, true), (a1 != -9223372036854775808, true), (a1 == wr IntKind.i64 (0 - b1), true), (a1 == wr IntKind.i64 (0 - b1), true), (a1 == wr IntKind.i64 (0 - b1), true), (a1 == wr IntKind.i64 (0 - b1), true), (a1 == wr IntKind.i64 (0 - b1), true), (a0 != -9223372036854775808, true), (a0 != -9223372036854775808, true), (a0 != -9223372036854775808, true), (a0 != -9223372036854775808, true), (a0 != -9223372036854775808, true), (a0 != -9223372036854775808, true), (a0 != -9223372036854775808, true), (a0 != -9223372036854775808, true), (a0 != -9223372036854775808, true), (a0 == wr IntKind.i64 (0 - b0), true), (a0 == wr IntKind.i64 (0 - b0), true), (a0 == wr IntKind.i64 (0 - b0), true), (a0 == wr IntKind.i64 (0 - b0), true), (a0 == wr IntKind.i64 (0 - b0), true)]) := by kernel_rfl
theorem qsameR7 (a0 a1 a2 a3 b0 b1 b2 b3 : Int) : (runF Try.prog S34 Zl 2000 32 [.v (.agg [.int .i64 a0, .int .i64 a1, .int .i64 a2, .int .i64 a3]), .v (.agg [.int .i64 b0, .int .i64 b1, .int .i64 b2, .int .i64 b3])] [] 0 [none, none, none, none, none, none, none, none, none, none, some true, some true, some true, some true, some true, none, some true, some true, some true, some true, some true, some true, some true, some true, some true, some true, some true, some true, some true, some true, none, some true, some true, some true, some true, some true, some true, some true, some true, some true, some false, some false, some false, some false, some false, none, none, none, none, none, none, none, none, none, none, none, none, none, none, none, none, some true, some true]).map (fun r => (r.1, r.2.2.2)) = some (LV.v (V1.one (At.bool true)), [(a0 == b0 && (a1 == b1 && (a2 == b2 && (a3 == b3 && true))), true), (a0 == b0 && (a1 == b1 && (a2 == b2 && (a3 == b3 && true))), true), (a2 == wr IntKind.i64 (0 - b2), false), (a2 == wr IntKind.i64 (0 - b2), false), (a2 == wr IntKind.i64 (0 - b2), false), (a2 == wr IntKind.i64 (0 - b2), false), (a2 == wr IntKind.i64 (0 - b2), false), (a1 != -9223372036854775808, true), (a1 != -9223372036854775808, true), (a1 != -9223372036854775808, true), (a1 != -9223372036854775808, true), (a1 != -9223372036854775808, true), (a1 != -9223372036854775808, true), (a1 != -9223372036854775808, true), (a1 != -9223372036854775808, true), (a1 != -9223372036854775808, true), (a1 == wr IntKind.i64 (0 - b1), true), (a1 == wr IntKind.i64 (0 - b1), true), (a1 == wr IntKind.i64 (0 - b1), true), (a1 == wr IntKind.i64 (0 - b1), true), (a1 == wr IntKind.i64 (0 - b1), true), (a0 != -9223372036854775808, true), (a0 != -9223372036854775808, true), (a0 != -9223372036854775808, true), (a0 != -9223372036854775808, true), (a0 != -9223372036854775808, true), (a0 != -9223372036854775808, true), (a0 != -9223372036854775808, true), (a0 != -9223372036854775808, true), (a0 != -9223372036854775808, true), (a0 == wr IntKind.i64 (0 - b0), true), (a0 == wr IntKind.i64 (0 - b0), true), (a0 == wr IntKind.i64 (0 - b0), true), (a0 == wr IntKind.i64 (0 - b0), true), (a0 == wr IntKind.i64 (0 - b0), true)]) := by kernel_rfl
theorem qsameR8 (a0 a1 a2 a3 b0 b1 b2 b3 : Int) : (runF Try.prog S34 Zl 2000 32 [.v (.agg [.int .i64 a0, .int .i64 a1, .int .i64 a2, .int .i64 a3]), .v (.agg [.int .i64 b0, .int .i64 b1, .int .i64 b2, .int .i64 b3])] [] 0 [none, none, none, none, none, none, none, none, none, none, some true, some true, some true, some true, some true, none, some true, some true, some true, some true, some true, some true, some true, some true, some true, some true, some true, some true, some true, some true, none, some true, some true, some true, some true, some true, some true, some true, some true, some true, some false, some false, some false, some false, some false, none, none, none, none, none, none, none, none, none, none, none, none, none, none, none, none, some false, some false]).map (fun r => (r.1, r.2.2.2)) = some (LV.v (V1.one (At.bool false)), [(a0 == b0 && (a1 == b1 && (a2 == b2 && (a3 == b3 && true))), false), (a0 == b0 && (a1 == b1 && (a2 == b2 && (a3 == b3 && true))), false), (a2 == wr IntKind.i64 (0 - b2), false), (a2 == wr IntKind.i64 (0 - b2), false), (a2 == wr IntKind.i64 (0 - b2), false), (a2 == wr IntKind.i64 (0 - b2), false), (a2 == wr IntKind.i64 (0 - b2), false), (a1 != -9223372036854775808, true), (a1 != -9223372036854775808, true), (a1 != -9223372036854775808, true), (a1 != -9223372036854775808, true), (a1 != -9223372036854775808, true), (a1 != -9223372036854775808, true), (a1 != -9223372036854775808, true), (a1 != -9223372036854775808, true), (a1 != -9223372036854775808, true), (a1 == wr IntKind.i64 (0 - b1), true), (a1 == wr IntKind.i64 (0 - b1), true), (a1 == wr IntKind.i64 (0 - b1), true), (a1 == wr IntKind.i64 (0 - b1), true), (a1 == wr IntKind.i64 (0 - b1), true), (a0 != -9223372036854775808, true), (a0 != -9223372036854775808, true), (a0 != -9223372036854775808, true), (a0 != -9223372036854775808, true), (a0 != -9223372036854775808, true), (a0 != -9223372036854775808, true), (a0 != -9223372036854775808, true), (a0 != -9223372036854775808, true), (a0 != -9223372036854775808, true), (a0 == wr IntKind.i64 (0 - b0), true), (a0 == wr IntKind.i64 (0 - b0), true), (a0 == wr IntKind.i64 (0 - b0), true), (a0 == wr IntKind.i64 (0 - b0), true), (a0 == wr IntKind.i64 (0 - b0), true)]) := by kernel_rfl
theorem qsameR9 (a0 a1 a2 a3 b0 b1 b2 b3 : Int) : (runF Try.prog S34 Zl 2000 32 [.v (.agg [.int .i64 a0, .int .i64 a1, .int .i64 a2, .int .i64 a3]), .v (.agg [.int .i64 b0, .int .i64 b1, .int .i64 b2, .int .i64 b3])] [] 0 [none, none, none, none, none, none, none, none, none, none, some true, some true, some true, some true, some true, none, some true, some true, some true, some true, some true, some true, some true, some true, some true, some true, some true, some true, some true, some true, none, some false, some false, some false, some false, some false, some false, some false, some false, some false, none, none, none, none, none, none, none, none, none, none, none, none, none, none, none, none, none, none, none, none, none, some true, some true]).map (fun r => (r.1, r.2.2.2)) = some (LV.v (V1.one (At.bool true)), [(a0 == b0 && (a1 == b1 && (a2 == b2 && (a3 == b3 && true))), true), (a0 == b0 && (a1 == b1 && (a2 == b2 && (a3 == b3 && true))), true), (a1 != -9223372036854775808, false), (a1 != -9223372036854775808, false), (a1 != -9223372036854775808, false), (a1 != -9223372036854775808, false), (a1 != -9223372036854775808, false), (a1 != -9223372036854775808, false), (a1 != -9223372036854775808, false), (a1 != -9223372036854775808, false), (a1 != -9223372036854775808, false), (a1 == wr IntKind.i64 (0 - b1), true), (a1 == wr IntKind.i64 (0 - b1), true), (a1 == wr IntKind.i64 (0 - b1), true), (a1 == wr IntKind.i64 (0 - b1), true), (a1 == wr IntKind.i64 (0 - b1), true), (a0 != -9223372036854775808, true), (a0 != -9223372036854775808, true), (a0 != -9223372036854775808, true), (a0 != -9223372036854775808, true), (a0 != -9223372036854775808, true), (a0 != -9223372036854775808, true), (a0 != -9223372036854775808, true), (a0 != -9223372036854775808, true), (a0 != -9223372036854775808, true), (a0 == wr IntKind.i64 (0 - b0), true), (a0 == wr IntKind.i64 (0 - b0), true), (a0 == wr IntKind.i64 (0 - b0), true), (a0 == wr IntKind.i64 (0 - b0), true), (a0 == wr IntKind.i64 (0 - b0), true)]) := by kernel_rfl
theorem qsameR10 (a0 a1 a2 a3 b0 b1 b2 b3 : Int) : (runF Try.prog S34 Zl 2000 32 [.v (.agg [.int .i64 a0, .int .i64 a1, .int .i64 a2, .int .i64 a3]), .v (.agg [.int .i64 b0, .int .i64 b1, .int .i64 b2, .int .i64 b3])] [] 0 [none, none, none, none, none, none, none, none, none, none, some true, some true, some true, some true, some true, none, some true, some true, some true, some true, some true, some true, some true, some true, some true, some true, some true, some true, some true, some true, none, some false, some false, some false, some false, some false, some false, some false, some false, some false, none, none, none, none, none, none, none, none, none, none, none, none, none, none, none, none, none, none, none, none, none, some false, some false]).map (fun r => (r.1, r.2.2.2)) = some (LV.v (V1.one (At.bool false)), [(a0 == b0 && (a1 == b1 && (a2 == b2 && (a3 == b3 && true))), false), (a0 == b0 && (a1 == b1 && (a2 == b2 && (a3 == b3 && true))), false), (a1 != -9223372036854775808, false), (a1 != -9223372036854775808, false), (a1 != -9223372036854775808, false), (a1 != -9223372036854775808, false), (a1 != -9223372036854775808, false), (a1 != -9223372036854775808, false), (a1 != -9223372036854775808, false), (a1 != -9223372036854775808, false), (a1 != -9223372036854775808, false), (a1 == wr IntKind.i64 (0 - b1), true), (a1 == wr IntKind.i64 (0 - b1), true), (a1 == wr IntKind.i64 (0 - b1), true), (a1 == wr IntKind.i64 (0 - b1), true), (a1 == wr IntKind.i64 (0 - b1), true), (a0 != -9223372036854775808, true), (a0 != -9223372036854775808, true), (a0 != -9223372036854775808, true), (a0 != -9223372036854775808, true), (a0 != -9223372036854775808, true), (a0 != -9223372036854775808, true), (a0 != -9223372036854775808, true), (a0 != -9223372036854775808, true), (a0 != -9223372036854775808, true), (a0 == wr IntKind.i64 (0 - b0), true), (a0 == wr IntKind.i64 (0 - b0), true), (a0 == wr IntKind.i64 (0 - b0), true), (a0 == wr IntKind.i64 (0 - b0), true), (a0 == wr IntKind.i64 (0 - b0), true)]) := by kernel_rfl
theorem qsameR11 (a0 a1 a2 a3 b0 b1 b2 b3 : Int) : (runF Try.prog S34 Zl 2000 32 [.v (.agg [.int .i64 a0, .int .i64 a1, .int .i64 a2, .int .i64 a3]), .v (.agg [.int .i64 b0, .int .i64 b1, .int .i64 b2, .int .i64 b3])] [] 0 [none, none, none, none, none, none, none, none, none, none, some true, some true, some true, some true, some true, none, some true, some true, some true, some true, some true, some true, some true, some true, some true, some false, some false, some false, some false, some false, none, none, none, none, none, none, none, none, none, none, none, none, none, none, none, none, none, none, none, none, none, none, none, none, none, none, none, none, none, none, none, some true, some true]).map (fun r => (r.1, r.2.2.2)) = some (LV.v (V1.one (At.bool true)), [(a0 == b0 && (a1 == b1 && (a2 == b2 && (a3 == b3 && true))), true), (a0 == b0 && (a1 == b1 && (a2 == b2 && (a3 == b3 && true))), true), (a1 == wr IntKind.i64 (0 - b1), false), (a1 == wr IntKind.i64 (0 - b1), false), (a1 == wr IntKind.i64 (0 - b1), false), (a1 == wr IntKind.i64 (0 - b1), false), (a1 == wr IntKind.i64 (0 - b1), false), (a0 != -9223372036854775808, true), (a0 != -9223372036854775808, true), (a0 != -9223372036854775808, true), (a0 != -9223372036854775808, true), (a0 != -9223372036854775808, true), (a0 != -9223372036854775808, true), (a0 != -9223372036854775808, true), (a0 != -9223372036854775808, true), (a0 != -9223372036854775808, true), (a0 == wr IntKind.i64 (0 - b0), true), (a0 == wr IntKind.i64 (0 - b0), true), (a0 == wr IntKind.i64 (0 - b0), true), (a0 == wr IntKind.i64 (0 - b0), true), (a0 == wr IntKind.i64 (0 - b0), true)]) := by kernel_rfl
theorem qsameR12 (a0 a1 a2 a3 b0 b1 b2 b3 : Int) : (runF Try.prog S34 Zl 2000 32 [.v (.agg [.int .i64 a0, .int .i64 a1, .int .i64 a2, .int .i64 a3]), .v (.agg [.int .i64 b0, .int .i64 b1, .int .i64 b2, .int .i64 b3])] [] 0 [none, none, none, none, none, none, none, none, none, none, some true, some true, some true, some true, some true, none, some true, some true, some true, some true, some true, some true, some true, some true, some true, some false, some false, some false, some false, some false, none, none, none, none, none, none, none, none, none, none, none, none, none, none, none, none, none, none, none, none, none, none, none, none, none, none, none, none, none, none, none, some false, some false]).map (fun r => (r.1, r.2.2.2)) = some (LV.v (V1.one (At.bool false)), [(a0 == b0 && (a1 == b1 && (a2 == b2 && (a3 == b3 && true))), false), (a0 == b0 && (a1 == b1 && (a2 == b2 && (a3 == b3 && true))), false), (a1 == wr IntKind.i64 (0 - b1), false), (a1 == wr IntKind.i64 (0 - b1), false), (a1 == wr IntKind.i64 (0 - b1), false), (a1 == wr IntKind.i64 (0 - b1), false), (a1 == wr IntKind.i64 (0 - b1), false), (a0 != -9223372036854775808, true), (a0 != -9223372036854775808, true), (a0 != -9223372036854775808, true), (a0 != -9223372036854775808, true), (a0 != -9223372036854775808, true), (a0 != -9223372036854775808, true), (a0 != -9223372036854775808, true), (a0 != -9223372036854775808, true), (a0 != -9223372036854775808, true), (a0 == wr IntKind.i64 (0 - b0), true), (a0 == wr IntKind.i64 (0 - b0), true), (a0 == wr IntKind.i64 (0 - b0), true), (a0 == wr IntKind.i64 (0 - b0), true), (a0 == wr IntKind.i64 (0 - b0), true)]) := by kernel_rfl
theorem qsameR13 (a0 a1 a2 a3 b0 b1 b2 b3 : Int) : (runF Try.prog S34 Zl 2000 32 [.v (.agg [.int .i64 a0, .int .i64 a1, .int .i64 a2, .int .i64 a3]), .v (.agg [.int .i64 b0, .int .i64 b1, .int .i64 b2, .int .i64 b3])] [] 0 [none, none, none, none, none, none, none, none, none, none, some true, some true, some true, some true, some true, none, some false, some false, some false, some false, some false, some false, some false, some false, some false, none, none, none, none, none, none, none, none, none, none, none, none, none, none, none, none, none, none, none, none, none, none, none, none, none, none, none, none, none, none, none, none, none, none, none, none, some true, some true]).map (fun r => (r.1, r.2.2.2)) = some (LV.v (V1.one (At.bool true)), [(a0 == b0 && (a1 == b1 && (a2 == b2 && (a3 == b3 && true))), true), (a0 == b0 && (a1 == b1 && (a2 == b2 && (a3 == b3 && true))), true), (a0 != -9223372036854775808, false), (a0 != -9223372036854775808, false), (a0 != -9223372036854775808, false), (a0 != -9223372036854775808, false), (a0 != -9223372036854775808, false), (a0 != -9223372036854775808, false), (a0 != -9223372036854775808, false), (a0 != -9223372036854775808, false), (a0 != -9223372036854775808, false), (a0 == wr IntKind.i64 (0 - b0), true), (a0 == wr IntKind.i64 (0 - b0), true), (a0 == wr IntKind.i64 (0 - b0), true), (a0 == wr IntKind.i64 (0 - b0), true), (a0 == wr IntKind.i64 (0 - b0), true)]) := by kernel_rfl
theorem qsameR14 (a0 a1 a2 a3 b0 b1 b2 b3 : Int) : (runF Try.prog S34 Zl 2000 32 [.v (.agg [.int .i64 a0, .int .i64 a1, .int .i64 a2, .int .i64 a3]), .v (.agg [.int .i64 b0, .int .i64 b1, .int .i64 b2, .int .i64 b3])] [] 0 [none, none, none, none, none, none, none, none, none, none, some true, some true, some true, some true, some true, none, some false, some false, some false, some false, some false, some false, some false, some false, some false, none, none, none, none, none, none, none, none, none, none, none, none, none, none, none, none, none, none, none, none, none, none, none, none, none, none, none, none, none, none, none, none, none, none, none, none, some false, some false]).map (fun r => (r.1, r.2.2.2)) = some (LV.v (V1.one (At.bool false)), [(a0 == b0 && (a1 == b1 && (a2 == b2 && (a3 == b3 && true))), false), (a0 == b0 && (a1 == b1 && (a2 == b2 && (a3 == b3 && true))), false), (a0 != -9223372036854775808, false), (a0 != -9223372036854775808, false), (a0 != -9223372036854775808, false), (a0 != -9223372036854775808, false), (a0 != -9223372036854775808, false), (a0 != -9223372036854775808, false), (a0 != -9223372036854775808, false), (a0 != -9223372036854775808, false), (a0 != -9223372036854775808, false), (a0 == wr IntKind.i64 (0 - b0), true), (a0 == wr IntKind.i64 (0 - b0), true), (a0 == wr IntKind.i64 (0 - b0), true), (a0 == wr IntKind.i64 (0 - b0), true), (a0 == wr IntKind.i64 (0 - b0), true)]) := by kernel_rfl
theorem qsameR15 (a0 a1 a2 a3 b0 b1 b2 b3 : Int) : (runF Try.prog S34 Zl 2000 32 [.v (.agg [.int .i64 a0, .int .i64 a1, .int .i64 a2, .int .i64 a3]), .v (.agg [.int .i64 b0, .int .i64 b1, .int .i64 b2, .int .i64 b3])] [] 0 [none, none, none, none, none, none, none, none, none, none, some false, some false, some false, some false, some false, none, none, none, none, none, none, none, none, none, none, none, none, none, none, none, none, none, none, none, none, none, none, none, none, none, none, none, none, none, none, none, none, none, none, none, none, none, none, none, none, none, none, none, none, none, none, some true, some true]).map (fun r => (r.1, r.2.2.2)) = some (LV.v (V1.one (At.bool true)), [(a0 == b0 && (a1 == b1 && (a2 == b2 && (a3 == b3 && true))), true), (a0 == b0 && (a1 == b1 && (a2 == b2 && (a3 == b3 && true))), true), (a0 == wr IntKind.i64 (0 - b0), false), (a0 == wr IntKind.i64 (0 - b0), false), (a0 == wr IntKind.i64 (0 - b0), false), (a0 == wr IntKind.i64 (0 - b0), false), (a0 == wr IntKind.i64 (0 - b0), false)]) := by kernel_rfl
theorem qsameR16 (a0 a1 a2 a3 b0 b1 b2 b3 : Int) : (runF Try.prog S34 Zl 2000 32 [.v (.agg [.int .i64 a0, .int .i64 a1, .int .i64 a2, .int .i64 a3]), .v (.agg [.int .i64 b0, .int .i64 b1, .int .i64 b2, .int .i64 b3])] [] 0 [none, none, none, none, none, none, none, none, none, none, some false, some false, some false, some false, some false, none, none, none, none, none, none, none, none, none, none, none, none, none, none, none, none, none, none, none, none, none, none, none, none, none, none, none, none, none, none, none, none, none, none, none, none, none, none, none, none, none, none, none, none, none, none, some false, some false]).map (fun r => (r.1, r.2.2.2)) = some (LV.v (V1.one (At.bool false)), [(a0 == b0 && (a1 == b1 && (a2 == b2 && (a3 == b3 && true))), false), (a0 == b0 && (a1 == b1 && (a2 == b2 && (a3 == b3 && true))), false), (a0 == wr IntKind.i64 (0 - b0), false), (a0 == wr IntKind.i64 (0 - b0), false), (a0 == wr IntKind.i64 (0 - b0), false), (a0 == wr IntKind.i64 (0 - b0), false), (a0 == wr IntKind.i64 (0 - b0), false)]) := by kernel_rfl
def qsameT (a0 a1 a2 a3 b0 b1 b2 b3 : Int) : Option (LV × List (Bool × Bool)) := 
  bif (a0 == wr IntKind.i64 (0 - b0)) then 
    bif (a0 != -9223372036854775808) then 
      bif (a1 == wr IntKind.i64 (0 - b1)) then 
        bif (a1 != -9223372036854775808) then 
          bif (a2 == wr IntKind.i64 (0 - b2)) then 
            bif (a2 != -9223372036854775808) then 
              bif (a3 == wr IntKind.i64 (0 - b3)) then 
                bif (a0 == b0 && (a1 == b1 && (a2 == b2 && (a3 == b3 && true)))) then some (LV.v (V1.one (At.bool true)), [])
                else some (LV.v (V1.one (At.bool (a3 != -9223372036854775808))), [])
              else 
                bif (a0 == b0 && (a1 == b1 && (a2 == b2 && (a3 == b3 && true)))) then some (LV.v (V1.one (At.bool true)), [])
                else some (LV.v (V1.one (At.bool false)), [])
            else 
              bif (a0 == b0 && (a1 == b1 && (a2 == b2 && (a3 == b3 && true)))) then some (LV.v (V1.one (At.bool true)), [])
              else some (LV.v (V1.one (At.bool false)), [])
          else 
            bif (a0 == b0 && (a1 == b1 && (a2 == b2 && (a3 == b3 && true)))) then some (LV.v (V1.one (At.bool true)), [])
            else some (LV.v (V1.one (At.bool false)), [])
        else 
          bif (a0 == b0 && (a1 == b1 && (a2 == b2 && (a3 == b3 && true)))) then some (LV.v (V1.one (At.bool true)), [])
          else some (LV.v (V1.one (At.bool false)), [])
      else 
        bif (a0 == b0 && (a1 == b1 && (a2 == b2 && (a3 == b3 && true)))) then some (LV.v (V1.one (At.bool true)), [])
        else some (LV.v (V1.one (At.bool false)), [])
    else 
      bif (a0 == b0 && (a1 == b1 && (a2 == b2 && (a3 == b3 && true)))) then some (LV.v (V1.one (At.bool true)), [])
      else some (LV.v (V1.one (At.bool false)), [])
  else 
    bif (a0 == b0 && (a1 == b1 && (a2 == b2 && (a3 == b3 && true)))) then some (LV.v (V1.one (At.bool true)), [])
    else some (LV.v (V1.one (At.bool false)), [])
def qsameF : List LV → Option (LV × List (Bool × Bool))
  | [.v (.agg [.int .i64 a0, .int .i64 a1, .int .i64 a2, .int .i64 a3]), .v (.agg [.int .i64 b0, .int .i64 b1, .int .i64 b2, .int .i64 b3])] => qsameT a0 a1 a2 a3 b0 b1 b2 b3
  | _ => none
theorem sumqsame : SumOK Try.prog 32 (pureSum qsameF) := by
  refine pureSum_run (z := Zl) sound34 (own_of sound34 Try.func32 (by kernel_rfl)) fun args v cs hF hc => ?_
  unfold qsameF at hF
  split at hF
  · rename_i a0 a1 a2 a3 b0 b1 b2 b3
    unfold qsameT at hF
    rcases bool_cases (a0 == wr IntKind.i64 (0 - b0)) with h0 | h0
    · rw [cond_t h0] at hF
      rcases bool_cases (a0 != -9223372036854775808) with h1 | h1
      · rw [cond_t h1] at hF
        rcases bool_cases (a1 == wr IntKind.i64 (0 - b1)) with h2 | h2
        · rw [cond_t h2] at hF
          rcases bool_cases (a1 != -9223372036854775808) with h3 | h3
          · rw [cond_t h3] at hF
            rcases bool_cases (a2 == wr IntKind.i64 (0 - b2)) with h4 | h4
            · rw [cond_t h4] at hF
              rcases bool_cases (a2 != -9223372036854775808) with h5 | h5
              · rw [cond_t h5] at hF
                rcases bool_cases (a3 == wr IntKind.i64 (0 - b3)) with h6 | h6
                · rw [cond_t h6] at hF
                  rcases bool_cases (a0 == b0 && (a1 == b1 && (a2 == b2 && (a3 == b3 && true)))) with h7 | h7
                  · rw [cond_t h7] at hF
                    cases hF
                    exact ⟨2000, [none, none, none, none, none, none, none, none, none, none, some true, some true, some true, some true, some true, none, some true, some true, some true, some true, some true, some true, some true, some true, some true, some true, some true, some true, some true, some true, none, some true, some true, some true, some true, some true, some true, some true, some true, some true, some true, some true, some true, some true, some true, none, some true, some true, some true, some true, some true, some true, some true, some true, some true, some true, some true, some true, some true, some true, none, some true, some true], _, qsameR1 a0 a1 a2 a3 b0 b1 b2 b3, ae_cons (h7) (ae_cons (h7) (ae_cons (h6) (ae_cons (h6) (ae_cons (h6) (ae_cons (h6) (ae_cons (h6) (ae_cons (h5) (ae_cons (h5) (ae_cons (h5) (ae_cons (h5) (ae_cons (h5) (ae_cons (h5) (ae_cons (h5) (ae_cons (h5) (ae_cons (h5) (ae_cons (h4) (ae_cons (h4) (ae_cons (h4) (ae_cons (h4) (ae_cons (h4) (ae_cons (h3) (ae_cons (h3) (ae_cons (h3) (ae_cons (h3) (ae_cons (h3) (ae_cons (h3) (ae_cons (h3) (ae_cons (h3) (ae_cons (h3) (ae_cons (h2) (ae_cons (h2) (ae_cons (h2) (ae_cons (h2) (ae_cons (h2) (ae_cons (h1) (ae_cons (h1) (ae_cons (h1) (ae_cons (h1) (ae_cons (h1) (ae_cons (h1) (ae_cons (h1) (ae_cons (h1) (ae_cons (h1) (ae_cons (h0) (ae_cons (h0) (ae_cons (h0) (ae_cons (h0) (ae_cons (h0) (ae_nil)))))))))))))))))))))))))))))))))))))))))))))))))⟩
                  · rw [cond_f h7] at hF
                    cases hF
                    exact ⟨2000, [none, none, none, none, none, none, none, none, none, none, some true, some true, some true, some true, some true, none, some true, some true, some true, some true, some true, some true, some true, some true, some true, some true, some true, some true, some true, some true, none, some true, some true, some true, some true, some true, some true, some true, some true, some true, some true, some true, some true, some true, some true, none, some true, some true, some true, some true, some true, some true, some true, some true, some true, some true, some true, some true, some true, some true, none, some false, some false], _, qsameR2 a0 a1 a2 a3 b0 b1 b2 b3, ae_cons (h7) (ae_cons (h7) (ae_cons (h6) (ae_cons (h6) (ae_cons (h6) (ae_cons (h6) (ae_cons (h6) (ae_cons (h5) (ae_cons (h5) (ae_cons (h5) (ae_cons (h5) (ae_cons (h5) (ae_cons (h5) (ae_cons (h5) (ae_cons (h5) (ae_cons (h5) (ae_cons (h4) (ae_cons (h4) (ae_cons (h4) (ae_cons (h4) (ae_cons (h4) (ae_cons (h3) (ae_cons (h3) (ae_cons (h3) (ae_cons (h3) (ae_cons (h3) (ae_cons (h3) (ae_cons (h3) (ae_cons (h3) (ae_cons (h3) (ae_cons (h2) (ae_cons (h2) (ae_cons (h2) (ae_cons (h2) (ae_cons (h2) (ae_cons (h1) (ae_cons (h1) (ae_cons (h1) (ae_cons (h1) (ae_cons (h1) (ae_cons (h1) (ae_cons (h1) (ae_cons (h1) (ae_cons (h1) (ae_cons (h0) (ae_cons (h0) (ae_cons (h0) (ae_cons (h0) (ae_cons (h0) (ae_nil)))))))))))))))))))))))))))))))))))))))))))))))))⟩
                · rw [cond_f h6] at hF
                  rcases bool_cases (a0 == b0 && (a1 == b1 && (a2 == b2 && (a3 == b3 && true)))) with h7 | h7
                  · rw [cond_t h7] at hF
                    cases hF
                    exact ⟨2000, [none, none, none, none, none, none, none, none, none, none, some true, some true, some true, some true, some true, none, some true, some true, some true, some true, some true, some true, some true, some true, some true, some true, some true, some true, some true, some true, none, some true, some true, some true, some true, some true, some true, some true, some true, some true, some true, some true, some true, some true, some true, none, some true, some true, some true, some true, some true, some true, some true, some true, some true, some false, some false, some false, some false, some false, none, some true, some true], _, qsameR3 a0 a1 a2 a3 b0 b1 b2 b3, ae_cons (h7) (ae_cons (h7) (ae_cons (h6) (ae_cons (h6) (ae_cons (h6) (ae_cons (h6) (ae_cons (h6) (ae_cons (h5) (ae_cons (h5) (ae_cons (h5) (ae_cons (h5) (ae_cons (h5) (ae_cons (h5) (ae_cons (h5) (ae_cons (h5) (ae_cons (h5) (ae_cons (h4) (ae_cons (h4) (ae_cons (h4) (ae_cons (h4) (ae_cons (h4) (ae_cons (h3) (ae_cons (h3) (ae_cons (h3) (ae_cons (h3) (ae_cons (h3) (ae_cons (h3) (ae_cons (h3) (ae_cons (h3) (ae_cons (h3) (ae_cons (h2) (ae_cons (h2) (ae_cons (h2) (ae_cons (h2) (ae_cons (h2) (ae_cons (h1) (ae_cons (h1) (ae_cons (h1) (ae_cons (h1) (ae_cons (h1) (ae_cons (h1) (ae_cons (h1) (ae_cons (h1) (ae_cons (h1) (ae_cons (h0) (ae_cons (h0) (ae_cons (h0) (ae_cons (h0) (ae_cons (h0) (ae_nil)))))))))))))))))))))))))))))))))))))))))))))))))⟩
                  · rw [cond_f h7] at hF
                    cases hF
                    exact ⟨2000, [none, none, none, none, none, none, none, none, none, none, some true, some true, some true, some true, some true, none, some true, some true, some true, some true, some true, some true, some true, some true, some true, some true, some true, some true, some true, some true, none, some true, some true, some true, some true, some true, some true, some true, some true, some true, some true, some true, some true, some true, some true, none, some true, some true, some true, some true, some true, some true, some true, some true, some true, some false, some false, some false, some false, some false, none, some false, some false], _, qsameR4 a0 a1 a2 a3 b0 b1 b2 b3, ae_cons (h7) (ae_cons (h7) (ae_cons (h6) (ae_cons (h6) (ae_cons (h6) (ae_cons (h6) (ae_cons (h6) (ae_cons (h5) (ae_cons (h5) (ae_cons (h5) (ae_cons (h5) (ae_cons (h5) (ae_cons (h5) (ae_cons (h5) (ae_cons (h5) (ae_cons (h5) (ae_cons (h4) (ae_cons (h4) (ae_cons (h4) (ae_cons (h4) (ae_cons (h4) (ae_cons (h3) (ae_cons (h3) (ae_cons (h3) (ae_cons (h3) (ae_cons (h3) (ae_cons (h3) (ae_cons (h3) (ae_cons (h3) (ae_cons (h3) (ae_cons (h2) (ae_cons (h2) (ae_cons (h2) (ae_cons (h2) (ae_cons (h2) (ae_cons (h1) (ae_cons (h1) (ae_cons (h1) (ae_cons (h1) (ae_cons (h1) (ae_cons (h1) (ae_cons (h1) (ae_cons (h1) (ae_cons (h1) (ae_cons (h0) (ae_cons (h0) (ae_cons (h0) (ae_cons (h0) (ae_cons (h0) (ae_nil)))))))))))))))))))))))))))))))))))))))))))))))))⟩
              · rw [cond_f h5] at hF
                rcases bool_cases (a0 == b0 && (a1 == b1 && (a2 == b2 && (a3 == b3 && true)))) with h6 | h6
                · rw [cond_t h6] at hF
                  cases hF
                  exact ⟨2000, [none, none, none, none, none, none, none, none, none, none, some true, some true, some true, some true, some true, none, some true, some true, some true, some true, some true, some true, some true, some true, some true, some true, some true, some true, some true, some true, none, some true, some true, some true, some true, some true, some true, some true, some true, some true, some true, some true, some true, some true, some true, none, some false, some false, some false, some false, some false, some false, some false, some false, some false, none, none, none, none, none, none, some true, some true], _, qsameR5 a0 a1 a2 a3 b0 b1 b2 b3, ae_cons (h6) (ae_cons (h6) (ae_cons (h5) (ae_cons (h5) (ae_cons (h5) (ae_cons (h5) (ae_cons (h5) (ae_cons (h5) (ae_cons (h5) (ae_cons (h5) (ae_cons (h5) (ae_cons (h4) (ae_cons (h4) (ae_cons (h4) (ae_cons (h4) (ae_cons (h4) (ae_cons (h3) (ae_cons (h3) (ae_cons (h3) (ae_cons (h3) (ae_cons (h3) (ae_cons (h3) (ae_cons (h3) (ae_cons (h3) (ae_cons (h3) (ae_cons (h2) (ae_cons (h2) (ae_cons (h2) (ae_cons (h2) (ae_cons (h2) (ae_cons (h1) (ae_cons (h1) (ae_cons (h1) (ae_cons (h1) (ae_cons (h1) (ae_cons (h1) (ae_cons (h1) (ae_cons (h1) (ae_cons (h1) (ae_cons (h0) (ae_cons (h0) (ae_cons (h0) (ae_cons (h0) (ae_cons (h0) (ae_nil))))))))))))))))))))))))))))))))))))))))))))⟩
                · rw [cond_f h6] at hF
                  cases hF
                  exact ⟨2000, [none, none, none, none, none, none, none, none, none, none, some true, some true, some true, some true, some true, none, some true, some true, some true, some true, some true, some true, some true, some true, some true, some true, some true, some true, some true, some true, none, some true, some true, some true, some true, some true, some true, some true, some true, some true, some true, some true, some true, some true, some true, none, some false, some false, some false, some false, some false, some false, some false, some false, some false, none, none, none, none, none, none, some false, some false], _, qsameR6 a0 a1 a2 a3 b0 b1 b2 b3, ae_cons (h6) (ae_cons (h6) (ae_cons (h5) (ae_cons (h5) (ae_cons (h5) (ae_cons (h5) (ae_cons (h5) (ae_cons (h5) (ae_cons (h5) (ae_cons (h5) (ae_cons (h5) (ae_cons (h4) (ae_cons (h4) (ae_cons (h4) (ae_cons (h4) (ae_cons (h4) (ae_cons (h3) (ae_cons (h3) (ae_cons (h3) (ae_cons (h3) (ae_cons (h3) (ae_cons (h3) (ae_cons (h3) (ae_cons (h3) (ae_cons (h3) (ae_cons (h2) (ae_cons (h2) (ae_cons (h2) (ae_cons (h2) (ae_cons (h2) (ae_cons (h1) (ae_cons (h1) (ae_cons (h1) (ae_cons (h1) (ae_cons (h1) (ae_cons (h1) (ae_cons (h1) (ae_cons (h1) (ae_cons (h1) (ae_cons (h0) (ae_cons (h0) (ae_cons (h0) (ae_cons (h0) (ae_cons (h0) (ae_nil))))))))))))))))))))))))))))))))))))))))))))⟩
            · rw [cond_f h4] at hF
              rcases bool_cases (a0 == b0 && (a1 == b1 && (a2 == b2 && (a3 == b3 && true)))) with h5 | h5
              · rw [cond_t h5] at hF
                cases hF
                exact ⟨2000, [none, none, none, none, none, none, none, none, none, none, some true, some true, some true, some true, some true, none, some true, some true, some true, some true, some true, some true, some true, some true, some true, some true, some true, some true, some true, some true, none, some true, some true, some true, some true, some true, some true, some true, some true, some true, some false, some false, some false, some false, some false, none, none, none, none, none, none, none, none, none, none, none, none, none, none, none, none, some true, some true], _, qsameR7 a0 a1 a2 a3 b0 b1 b2 b3, ae_cons (h5) (ae_cons (h5) (ae_cons (h4) (ae_cons (h4) (ae_cons (h4) (ae_cons (h4) (ae_cons (h4) (ae_cons (h3) (ae_cons (h3) (ae_cons (h3) (ae_cons (h3) (ae_cons (h3) (ae_cons (h3) (ae_cons (h3) (ae_cons (h3) (ae_cons (h3) (ae_cons (h2) (ae_cons (h2) (ae_cons (h2) (ae_cons (h2) (ae_cons (h2) (ae_cons (h1) (ae_cons (h1) (ae_cons (h1) (ae_cons (h1) (ae_cons (h1) (ae_cons (h1) (ae_cons (h1) (ae_cons (h1) (ae_cons (h1) (ae_cons (h0) (ae_cons (h0) (ae_cons (h0) (ae_cons (h0) (ae_cons (h0) (ae_nil)))))))))))))))))))))))))))))))))))⟩
              · rw [cond_f h5] at hF
                cases hF
                exact ⟨2000, [none, none, none, none, none, none, none, none, none, none, some true, some true, some true, some true, some true, none, some true, some true, some true, some true, some true, some true, some true, some true, some true, some true, some true, some true, some true, some true, none, some true, some true, some true, some true, some true, some true, some true, some true, some true, some false, some false, some false, some false, some false, none, none, none, none, none, none, none, none, none, none, none, none, none, none, none, none, some false, some false], _, qsameR8 a0 a1 a2 a3 b0 b1 b2 b3, ae_cons (h5) (ae_cons (h5) (ae_cons (h4) (ae_cons (h4) (ae_cons (h4) (ae_cons (h4) (ae_cons (h4) (ae_cons (h3) (ae_cons (h3) (ae_cons (h3) (ae_cons (h3) (ae_cons (h3) (ae_cons (h3) (ae_cons (h3) (ae_cons (h3) (ae_cons (h3) (ae_cons (h2) (ae_cons (h2) (ae_cons (h2) (ae_cons (h2) (ae_cons (h2) (ae_cons (h1) (ae_cons (h1) (ae_cons (h1) (ae_cons (h1) (ae_cons (h1) (ae_cons (h1) (ae_cons (h1) (ae_cons (h1) (ae_cons (h1) (ae_cons (h0) (ae_cons (h0) (ae_cons (h0) (ae_cons (h0) (ae_cons (h0) (ae_nil)))))))))))))))))))))))))))))))))))⟩
          · rw [cond_f h3] at hF
            rcases bool_cases (a0 == b0 && (a1 == b1 && (a2 == b2 && (a3 == b3 && true)))) with h4 | h4
            · rw [cond_t h4] at hF
              cases hF
              exact ⟨2000, [none, none, none, none, none, none, none, none, none, none, some true, some true, some true, some true, some true, none, some true, some true, some true, some true, some true, some true, some true, some true, some true, some true, some true, some true, some true, some true, none, some false, some false, some false, some false, some false, some false, some false, some false, some false, none, none, none, none, none, none, none, none, none, none, none, none, none, none, none, none, none, none, none, none, none, some true, some true], _, qsameR9 a0 a1 a2 a3 b0 b1 b2 b3, ae_cons (h4) (ae_cons (h4) (ae_cons (h3) (ae_cons (h3) (ae_cons (h3) (ae_cons (h3) (ae_cons (h3) (ae_cons (h3) (ae_cons (h3) (ae_cons (h3) (ae_cons (h3) (ae_cons (h2) (ae_cons (h2) (ae_cons (h2) (ae_cons (h2) (ae_cons (h2) (ae_cons (h1) (ae_cons (h1) (ae_cons (h1) (ae_cons (h1) (ae_cons (h1) (ae_cons (h1) (ae_cons (h1) (ae_cons (h1) (ae_cons (h1) (ae_cons (h0) (ae_cons (h0) (ae_cons (h0) (ae_cons (h0) (ae_cons (h0) (ae_nil))))))))))))))))))))))))))))))⟩
            · rw [cond_f h4] at hF
              cases hF
              exact ⟨2000, [none, none, none, none, none, none, none, none, none, none, some true, some true, some true, some true, some true, none, some true, some true, some true, some true, some true, some true, some true, some true, some true, some true, some true, some true, some true, some true, none, some false, some false, some false, some false, some false, some false, some false, some false, some false, none, none, none, none, none, none, none, none, none, none, none, none, none, none, none, none, none, none, none, none, none, some false, some false], _, qsameR10 a0 a1 a2 a3 b0 b1 b2 b3, ae_cons (h4) (ae_cons (h4) (ae_cons (h3) (ae_cons (h3) (ae_cons (h3) (ae_cons (h3) (ae_cons (h3) (ae_cons (h3) (ae_cons (h3) (ae_cons (h3) (ae_cons (h3) (ae_cons (h2) (ae_cons (h2) (ae_cons (h2) (ae_cons (h2) (ae_cons (h2) (ae_cons (h1) (ae_cons (h1) (ae_cons (h1) (ae_cons (h1) (ae_cons (h1) (ae_cons (h1) (ae_cons (h1) (ae_cons (h1) (ae_cons (h1) (ae_cons (h0) (ae_cons (h0) (ae_cons (h0) (ae_cons (h0) (ae_cons (h0) (ae_nil))))))))))))))))))))))))))))))⟩
        · rw [cond_f h2] at hF
          rcases bool_cases (a0 == b0 && (a1 == b1 && (a2 == b2 && (a3 == b3 && true)))) with h3 | h3
          · rw [cond_t h3] at hF
            cases hF
            exact ⟨2000, [none, none, none, none, none, none, none, none, none, none, some true, some true, some true, some true, some true, none, some true, some true, some true, some true, some true, some true, some true, some true, some true, some false, some false, some false, some false, some false, none, none, none, none, none, none, none, none, none, none, none, none, none, none, none, none, none, none, none, none, none, none, none, none, none, none, none, none, none, none, none, some true, some true], _, qsameR11 a0 a1 a2 a3 b0 b1 b2 b3, ae_cons (h3) (ae_cons (h3) (ae_cons (h2) (ae_cons (h2) (ae_cons (h2) (ae_cons (h2) (ae_cons (h2) (ae_cons (h1) (ae_cons (h1) (ae_cons (h1) (ae_cons (h1) (ae_cons (h1) (ae_cons (h1) (ae_cons (h1) (ae_cons (h1) (ae_cons (h1) (ae_cons (h0) (ae_cons (h0) (ae_cons (h0) (ae_cons (h0) (ae_cons (h0) (ae_nil)))))))))))))))))))))⟩
          · rw [cond_f h3] at hF
            cases hF
            exact ⟨2000, [none, none, none, none, none, none, none, none, none, none, some true, some true, some true, some true, some true, none, some true, some true, some true, some true, some true, some true, some true, some true, some true, some false, some false, some false, some false, some false, none, none, none, none, none, none, none, none, none, none, none, none, none, none, none, none, none, none, none, none, none, none, none, none, none, none, none, none, none, none, none, some false, some false], _, qsameR12 a0 a1 a2 a3 b0 b1 b2 b3, ae_cons (h3) (ae_cons (h3) (ae_cons (h2) (ae_cons (h2) (ae_cons (h2) (ae_cons (h2) (ae_cons (h2) (ae_cons (h1) (ae_cons (h1) (ae_cons (h1) (ae_cons (h1) (ae_cons (h1) (ae_cons (h1) (ae_cons (h1) (ae_cons (h1) (ae_cons (h1) (ae_cons (h0) (ae_cons (h0) (ae_cons (h0) (ae_cons (h0) (ae_cons (h0) (ae_nil)))))))))))))))))))))⟩
      · rw [cond_f h1] at hF
        rcases bool_cases (a0 == b0 && (a1 == b1 && (a2 == b2 && (a3 == b3 && true)))) with h2 | h2
        · rw [cond_t h2] at hF
          cases hF
          exact ⟨2000, [none, none, none, none, none, none, none, none, none, none, some true, some true, some true, some true, some true, none, some false, some false, some false, some false, some false, some false, some false, some false, some false, none, none, none, none, none, none, none, none, none, none, none, none, none, none, none, none, none, none, none, none, none, none, none, none, none, none, none, none, none, none, none, none, none, none, none, none, some true, some true], _, qsameR13 a0 a1 a2 a3 b0 b1 b2 b3, ae_cons (h2) (ae_cons (h2) (ae_cons (h1) (ae_cons (h1) (ae_cons (h1) (ae_cons (h1) (ae_cons (h1) (ae_cons (h1) (ae_cons (h1) (ae_cons (h1) (ae_cons (h1) (ae_cons (h0) (ae_cons (h0) (ae_cons (h0) (ae_cons (h0) (ae_cons (h0) (ae_nil))))))))))))))))⟩
        · rw [cond_f h2] at hF
          cases hF
          exact ⟨2000, [none, none, none, none, none, none, none, none, none, none, some true, some true, some true, some true, some true, none, some false, some false, some false, some false, some false, some false, some false, some false, some false, none, none, none, none, none, none, none, none, none, none, none, none, none, none, none, none, none, none, none, none, none, none, none, none, none, none, none, none, none, none, none, none, none, none, none, none, some false, some false], _, qsameR14 a0 a1 a2 a3 b0 b1 b2 b3, ae_cons (h2) (ae_cons (h2) (ae_cons (h1) (ae_cons (h1) (ae_cons (h1) (ae_cons (h1) (ae_cons (h1) (ae_cons (h1) (ae_cons (h1) (ae_cons (h1) (ae_cons (h1) (ae_cons (h0) (ae_cons (h0) (ae_cons (h0) (ae_cons (h0) (ae_cons (h0) (ae_nil))))))))))))))))⟩
    · rw [cond_f h0] at hF
      rcases bool_cases (a0 == b0 && (a1 == b1 && (a2 == b2 && (a3 == b3 && true)))) with h1 | h1
      · rw [cond_t h1] at hF
        cases hF
        exact ⟨2000, [none, none, none, none, none, none, none, none, none, none, some false, some false, some false, some false, some false, none, none, none, none, none, none, none, none, none, none, none, none, none, none, none, none, none, none, none, none, none, none, none, none, none, none, none, none, none, none, none, none, none, none, none, none, none, none, none, none, none, none, none, none, none, none, some true, some true], _, qsameR15 a0 a1 a2 a3 b0 b1 b2 b3, ae_cons (h1) (ae_cons (h1) (ae_cons (h0) (ae_cons (h0) (ae_cons (h0) (ae_cons (h0) (ae_cons (h0) (ae_nil)))))))⟩
      · rw [cond_f h1] at hF
        cases hF
        exact ⟨2000, [none, none, none, none, none, none, none, none, none, none, some false, some false, some false, some false, some false, none, none, none, none, none, none, none, none, none, none, none, none, none, none, none, none, none, none, none, none, none, none, none, none, none, none, none, none, none, none, none, none, none, none, none, none, none, none, none, none, none, none, none, none, none, none, some false, some false], _, qsameR16 a0 a1 a2 a3 b0 b1 b2 b3, ae_cons (h1) (ae_cons (h1) (ae_cons (h0) (ae_cons (h0) (ae_cons (h0) (ae_cons (h0) (ae_cons (h0) (ae_nil)))))))⟩
  · cases hF


/-- Are they the same rotation? -/
def sameB (a0 a1 a2 a3 b0 b1 b2 b3 : Int) : Bool :=
  (a0 == b0 && (a1 == b1 && (a2 == b2 && (a3 == b3 && true)))) || (a0 == wr IntKind.i64 (0 - b0) && (a0 != -9223372036854775808 && (a1 == wr IntKind.i64 (0 - b1) && (a1 != -9223372036854775808 && (a2 == wr IntKind.i64 (0 - b2) && (a2 != -9223372036854775808 && (a3 == wr IntKind.i64 (0 - b3) && a3 != -9223372036854775808)))))))
def sameS : List LV → Option (LV × List (Bool × Bool))
  | [.v (.agg [.int .i64 a0, .int .i64 a1, .int .i64 a2, .int .i64 a3]), .v (.agg [.int .i64 b0, .int .i64 b1, .int .i64 b2, .int .i64 b3])] => some (.v (.one (.bool (sameB a0 a1 a2 a3 b0 b1 b2 b3))), [])
  | _ => none
theorem same_eq (a0 a1 a2 a3 b0 b1 b2 b3 : Int) : qsameT a0 a1 a2 a3 b0 b1 b2 b3 = some (.v (.one (.bool (sameB a0 a1 a2 a3 b0 b1 b2 b3))), []) := by
  unfold qsameT sameB
  generalize (a0 == b0 && (a1 == b1 && (a2 == b2 && (a3 == b3 && true)))) = e
  generalize (a0 == wr IntKind.i64 (0 - b0)) = p0
  generalize (a0 != -9223372036854775808) = q0
  generalize (a1 == wr IntKind.i64 (0 - b1)) = p1
  generalize (a1 != -9223372036854775808) = q1
  generalize (a2 == wr IntKind.i64 (0 - b2)) = p2
  generalize (a2 != -9223372036854775808) = q2
  generalize (a3 == wr IntKind.i64 (0 - b3)) = p3
  generalize (a3 != -9223372036854775808) = q3
  cases p0 <;> cases q0 <;> cases p1 <;> cases q1 <;> cases p2 <;> cases q2 <;> cases p3 <;> cases e <;> simp
theorem sumSame : SumOK Try.prog 32 (pureSum sameS) := by
  refine sumqsame.pure_re fun args v cs hF hc => ?_
  unfold sameS at hF
  split at hF
  · cases hF
    exact ⟨[], same_eq _ _ _ _ _ _ _ _, ae_nil⟩
  · cases hF

/-- Made one of length One, twice. -/
def uE (x a0 a1 a2 a3 : Int) : Int := divPV (divPV x (hypV [a0, a1, a2, a3]) 30) (hypV [divPV a0 (hypV [a0, a1, a2, a3]) 30, divPV a1 (hypV [a0, a1, a2, a3]) 30, divPV a2 (hypV [a0, a1, a2, a3]) 30, divPV a3 (hypV [a0, a1, a2, a3]) 30]) 30
def uM (a0 a1 a2 a3 : Int) : Int := hypV [divPV a0 (hypV [a0, a1, a2, a3]) 30, divPV a1 (hypV [a0, a1, a2, a3]) 30, divPV a2 (hypV [a0, a1, a2, a3]) 30, divPV a3 (hypV [a0, a1, a2, a3]) 30]
def uH (h : Bool) (a0 a1 a2 a3 : Int) : Bool := h || hypH [a0, a1, a2, a3] || divPH a0 (hypV [a0, a1, a2, a3]) 30 || divPH a1 (hypV [a0, a1, a2, a3]) 30 || divPH a2 (hypV [a0, a1, a2, a3]) 30 || divPH a3 (hypV [a0, a1, a2, a3]) 30 || hypH [divPV a0 (hypV [a0, a1, a2, a3]) 30, divPV a1 (hypV [a0, a1, a2, a3]) 30, divPV a2 (hypV [a0, a1, a2, a3]) 30, divPV a3 (hypV [a0, a1, a2, a3]) 30] || divPH (divPV a0 (hypV [a0, a1, a2, a3]) 30) (uM a0 a1 a2 a3) 30 || divPH (divPV a1 (hypV [a0, a1, a2, a3]) 30) (uM a0 a1 a2 a3) 30 || divPH (divPV a2 (hypV [a0, a1, a2, a3]) 30) (uM a0 a1 a2 a3) 30 || divPH (divPV a3 (hypV [a0, a1, a2, a3]) 30) (uM a0 a1 a2 a3) 30
def uZ (a0 a1 a2 a3 : Int) : Bool := satV a0 == 0 && (satV a1 == 0 && (satV a2 == 0 && (satV a3 == 0 && true)))
def uS (h : Bool) (a0 a1 a2 a3 : Int) : Bool := h || satH a0 || satH a1 || satH a2 || satH a3
def unitS : List LV → Bool → Option (LV × Bool × List (Bool × Bool))
  | [.v (.agg [.int .i64 a0, .int .i64 a1, .int .i64 a2, .int .i64 a3])], hb => some (.v (.agg [.int .i64 (bif uZ a0 a1 a2 a3 then 1073741824 else uE (satV a0) (satV a0) (satV a1) (satV a2) (satV a3)), .int .i64 (bif uZ a0 a1 a2 a3 then 0 else uE (satV a1) (satV a0) (satV a1) (satV a2) (satV a3)), .int .i64 (bif uZ a0 a1 a2 a3 then 0 else uE (satV a2) (satV a0) (satV a1) (satV a2) (satV a3)), .int .i64 (bif uZ a0 a1 a2 a3 then 0 else uE (satV a3) (satV a0) (satV a1) (satV a2) (satV a3))]),
    (bif uZ a0 a1 a2 a3 then uS hb a0 a1 a2 a3 else uH (uS hb a0 a1 a2 a3) (satV a0) (satV a1) (satV a2) (satV a3)), [])
  | _, _ => none
def mulQ (a0 a1 a2 a3 b0 b1 b2 b3 : Int) : LV := .v (.agg [.int .i64 (dotV 30 [satV a0, satV a1, satV a2, satV a3] [satV b0, wr IntKind.i64 (0 - satV b1), wr IntKind.i64 (0 - satV b2), wr IntKind.i64 (0 - satV b3)]), .int .i64 (dotV 30 [satV a0, satV a1, satV a2, satV a3] [satV b1, satV b0, satV b3, wr IntKind.i64 (0 - satV b2)]), .int .i64 (dotV 30 [satV a0, satV a1, satV a2, satV a3] [satV b2, wr IntKind.i64 (0 - satV b3), satV b0, satV b1]), .int .i64 (dotV 30 [satV a0, satV a1, satV a2, satV a3] [satV b3, satV b2, wr IntKind.i64 (0 - satV b1), satV b0])])
def mulQH (h : Bool) (a0 a1 a2 a3 b0 b1 b2 b3 : Int) : Bool := h || satH a0 || satH a1 || satH a2 || satH a3 || satH b0 || satH b1 || satH b2 || satH b3 || dotH 30 [satV a0, satV a1, satV a2, satV a3] [satV b0, wr IntKind.i64 (0 - satV b1), wr IntKind.i64 (0 - satV b2), wr IntKind.i64 (0 - satV b3)] || dotH 30 [satV a0, satV a1, satV a2, satV a3] [satV b1, satV b0, satV b3, wr IntKind.i64 (0 - satV b2)] || dotH 30 [satV a0, satV a1, satV a2, satV a3] [satV b2, wr IntKind.i64 (0 - satV b3), satV b0, satV b1] || dotH 30 [satV a0, satV a1, satV a2, satV a3] [satV b3, satV b2, wr IntKind.i64 (0 - satV b1), satV b0]
def mulQS : List LV → Bool → Option (LV × Bool × List (Bool × Bool))
  | [.v (.agg [.int .i64 a0, .int .i64 a1, .int .i64 a2, .int .i64 a3]), .v (.agg [.int .i64 b0, .int .i64 b1, .int .i64 b2, .int .i64 b3])], hb => some (mulQ a0 a1 a2 a3 b0 b1 b2 b3, mulQH hb a0 a1 a2 a3 b0 b1 b2 b3, [])
  | _, _ => none
theorem puZ (a0 a1 a2 a3 : Int) (hb : Bool) : (runF Try.prog S34 Zl 2000 24 [A0, .v (.agg [.int .i64 a0, .int .i64 a1, .int .i64 a2, .int .i64 a3])] [(0, flag 27 hb)] 1 [some true]).map acc3 = some (.v (.agg [.int .i64 1073741824, .int .i64 0, .int .i64 0, .int .i64 0]), some (flag 27 (uS hb a0 a1 a2 a3)), [(uZ a0 a1 a2 a3, true)]) := by kernel_rfl
theorem puN (a0 a1 a2 a3 : Int) (hb : Bool) : (runF Try.prog S34 Zl 2000 24 [A0, .v (.agg [.int .i64 a0, .int .i64 a1, .int .i64 a2, .int .i64 a3])] [(0, flag 27 hb)] 1 [some false, none, none, none, none, none, none, none, none, none, none, none, none, none, none, none]).map acc3 = some (.v (.agg [.int .i64 (uE (satV a0) (satV a0) (satV a1) (satV a2) (satV a3)), .int .i64 (uE (satV a1) (satV a0) (satV a1) (satV a2) (satV a3)), .int .i64 (uE (satV a2) (satV a0) (satV a1) (satV a2) (satV a3)), .int .i64 (uE (satV a3) (satV a0) (satV a1) (satV a2) (satV a3))]), some (flag 27 (uH (uS hb a0 a1 a2 a3) (satV a0) (satV a1) (satV a2) (satV a3))), [(uZ a0 a1 a2 a3, false)]) := by kernel_rfl
theorem sumpu : SumOK Try.prog 24 (accSum 27 unitS) := by
  refine accSum_run (z := Zl) sound34 (own_of sound34 Try.func24 (by kernel_rfl)) fun args hb v h' cs hF hc => ?_
  unfold unitS at hF
  split at hF
  · rename_i a0 a1 a2 a3
    cases hF
    refine ⟨rfl, ?_⟩
    rcases bool_cases (uZ a0 a1 a2 a3) with h | h
    · rw [h]; exact ⟨2000, _, _, puZ a0 a1 a2 a3 hb, ae_cons h ae_nil⟩
    · rw [h]; exact ⟨2000, _, _, puN a0 a1 a2 a3 hb, ae_cons h ae_nil⟩
  · cases hF
theorem ruZ (a0 a1 a2 a3 : Int) (hb : Bool) (ty : TypeId) : (runF Try.prog S34 Zl 2000 29 [A0, .v (.agg [.int .i64 a0, .int .i64 a1, .int .i64 a2, .int .i64 a3])] [(0, flag ty hb)] 1 [some true]).map acc3 = some (.v (.agg [.int .i64 1073741824, .int .i64 0, .int .i64 0, .int .i64 0]), some (flag ty (uS hb a0 a1 a2 a3)), [(uZ a0 a1 a2 a3, true)]) := by kernel_rfl
theorem ruN (a0 a1 a2 a3 : Int) (hb : Bool) (ty : TypeId) : (runF Try.prog S34 Zl 2000 29 [A0, .v (.agg [.int .i64 a0, .int .i64 a1, .int .i64 a2, .int .i64 a3])] [(0, flag ty hb)] 1 [some false, none, none, none, none, none, none, none, none, none, none, none, none, none, none, none]).map acc3 = some (.v (.agg [.int .i64 (uE (satV a0) (satV a0) (satV a1) (satV a2) (satV a3)), .int .i64 (uE (satV a1) (satV a0) (satV a1) (satV a2) (satV a3)), .int .i64 (uE (satV a2) (satV a0) (satV a1) (satV a2) (satV a3)), .int .i64 (uE (satV a3) (satV a0) (satV a1) (satV a2) (satV a3))]), some (flag ty (uH (uS hb a0 a1 a2 a3) (satV a0) (satV a1) (satV a2) (satV a3))), [(uZ a0 a1 a2 a3, false)]) := by kernel_rfl
theorem sumru (ty : TypeId) : SumOK Try.prog 29 (accSum ty unitS) := by
  refine accSum_run (z := Zl) sound34 (own_of sound34 Try.func29 (by kernel_rfl)) fun args hb v h' cs hF hc => ?_
  unfold unitS at hF
  split at hF
  · rename_i a0 a1 a2 a3
    cases hF
    refine ⟨rfl, ?_⟩
    rcases bool_cases (uZ a0 a1 a2 a3) with h | h
    · rw [h]; exact ⟨2000, _, _, ruZ a0 a1 a2 a3 hb ty, ae_cons h ae_nil⟩
    · rw [h]; exact ⟨2000, _, _, ruN a0 a1 a2 a3 hb ty, ae_cons h ae_nil⟩
  · cases hF
theorem pmR (a0 a1 a2 a3 b0 b1 b2 b3 : Int) (hb : Bool) : (runF Try.prog S34 Zl 2000 22 [A0, .v (.agg [.int .i64 a0, .int .i64 a1, .int .i64 a2, .int .i64 a3]), .v (.agg [.int .i64 b0, .int .i64 b1, .int .i64 b2, .int .i64 b3])] [(0, flag 27 hb)] 1 []).map acc3 = some (mulQ a0 a1 a2 a3 b0 b1 b2 b3, some (flag 27 (mulQH hb a0 a1 a2 a3 b0 b1 b2 b3)), []) := by kernel_rfl
theorem sumpm : SumOK Try.prog 22 (accSum 27 mulQS) := by
  refine accSum_run (z := Zl) sound34 (own_of sound34 Try.func22 (by kernel_rfl)) fun args hb v h' cs hF hc => ?_
  unfold mulQS at hF
  split at hF
  · rename_i a0 a1 a2 a3 b0 b1 b2 b3
    cases hF
    exact ⟨rfl, 2000, _, _, pmR a0 a1 a2 a3 b0 b1 b2 b3 hb, ae_nil⟩
  · cases hF
theorem rmR (a0 a1 a2 a3 b0 b1 b2 b3 : Int) (hb : Bool) (ty : TypeId) : (runF Try.prog S34 Zl 2000 28 [A0, .v (.agg [.int .i64 a0, .int .i64 a1, .int .i64 a2, .int .i64 a3]), .v (.agg [.int .i64 b0, .int .i64 b1, .int .i64 b2, .int .i64 b3])] [(0, flag ty hb)] 1 []).map acc3 = some (mulQ a0 a1 a2 a3 b0 b1 b2 b3, some (flag ty (mulQH hb a0 a1 a2 a3 b0 b1 b2 b3)), []) := by kernel_rfl
theorem sumrm (ty : TypeId) : SumOK Try.prog 28 (accSum ty mulQS) := by
  refine accSum_run (z := Zl) sound34 (own_of sound34 Try.func28 (by kernel_rfl)) fun args hb v h' cs hF hc => ?_
  unfold mulQS at hF
  split at hF
  · rename_i a0 a1 a2 a3 b0 b1 b2 b3
    cases hF
    exact ⟨rfl, 2000, _, _, rmR a0 a1 a2 a3 b0 b1 b2 b3 hb ty, ae_nil⟩
  · cases hF

theorem runAwakeQ : (runF Try.prog S24 Zc 4000 20 [] [] 0 []).map (fun r => (r.1, r.2.2.2)) = some (B true, []) := by kernel_rfl
theorem sumAwakeQ : SumOK Try.prog 20 (pureSum trueF) := pureSum_const sound24 (own_of sound24 Try.func20 (by kernel_rfl)) runAwakeQ
noncomputable def S41 : FuncId → Option SumK := more (more (more (more (more (more (more S34 32 (pureSum sameS)) 24 (accSum 27 unitS)) 29 (accAny unitS)) 22 (accSum 27 mulQS)) 28 (accAny mulQS)) 31 (autoP Try.prog S34 Zl 2000 31)) 20 (pureSum trueF)
theorem sound41 : Sound Try.prog S41 := ((((((sound34.more sumSame).more sumpu).more (accAny_ok sumru)).more sumpm).more (accAny_ok sumrm)).more (autoP_ok sound34 (own_of sound34 Try.func31 (by kernel_rfl)))).more sumAwakeQ
end Go.Proofs.Ythfanchjkkeejaa

/- Rotations' matrices in both answers: the second answer's Of, Apply, Back in the program's words. -/
namespace Go.Proofs.Ythfanchjkkeejaa
open Go.Lr
set_option linter.unusedVariables false
set_option linter.unusedSimpArgs false

def inS (a : Int) : Prop := -1152921504606846976 ≤ a ∧ a ≤ 1152921504606846976
theorem inS_sat (a : Int) : inS (satV a) := sat_bd a
theorem wneg {a : Int} (h : inS a) : wr IntKind.i64 (0 - a) = -a := by
  unfold inS at h
  have := w64_in (x := 0 - a) (by omega) (by omega); rw [wr_i, this]; omega
theorem inS_neg {a : Int} (h : inS a) : inS (-a) := by unfold inS at *; omega
theorem wone {a : Int} (h : inS a) : wr IntKind.i64 (1 * a) = a := by
  unfold inS at h; rw [Int.one_mul]; exact w64_in (by omega) (by omega)
theorem wmone {a : Int} (h : inS a) : wr IntKind.i64 (-1 * a) = -a := by
  unfold inS at h
  have e : -1 * a = -a := by omega
  rw [e]; exact w64_in (by omega) (by omega)
theorem dot4 {x0 x1 x2 x3 y0 y1 y2 y3 : Int} (a0 : inS x0) (a1 : inS x1) (a2 : inS x2) (a3 : inS x3) (b0 : inS y0) (b1 : inS y1) (b2 : inS y2) (b3 : inS y3) :
    dotV 30 [x0, x1, x2, x3] [y0, y1, y2, y3] = rndS (x0 * y0 + (x1 * y1 + (x2 * y2 + (x3 * y3 + 0)))) 30 ∧ dotH 30 [x0, x1, x2, x3] [y0, y1, y2, y3] = rndH (x0 * y0 + (x1 * y1 + (x2 * y2 + (x3 * y3 + 0)))) 30 := by
  have e : dotS [x0, x1, x2, x3] [y0, y1, y2, y3] = x0 * y0 + (x1 * y1 + (x2 * y2 + (x3 * y3 + 0))) := by
    simp only [dotS]
    rw [sat_in a0.1 a0.2, sat_in a1.1 a1.2, sat_in a2.1 a2.2, sat_in a3.1 a3.2, sat_in b0.1 b0.2, sat_in b1.1 b1.2, sat_in b2.1 b2.2, sat_in b3.1 b3.2]
  have f : dotFl [x0, x1, x2, x3] [y0, y1, y2, y3] = false := by
    simp only [dotFl]
    rw [satH_in a0.1 a0.2, satH_in a1.1 a1.2, satH_in a2.1 a2.2, satH_in a3.1 a3.2, satH_in b0.1 b0.2, satH_in b1.1 b1.2, satH_in b2.1 b2.2, satH_in b3.1 b3.2]
    rfl
  refine ⟨?_, ?_⟩
  · show rndS (dotS [x0, x1, x2, x3] [y0, y1, y2, y3]) 30 = _; rw [e]
  · show (dotFl [x0, x1, x2, x3] [y0, y1, y2, y3] || rndH (dotS [x0, x1, x2, x3] [y0, y1, y2, y3]) 30) = _; rw [e, f]; rfl
theorem dot4_eq {x0 x1 x2 x3 y0 y1 y2 y3 u0 u1 u2 u3 v0 v1 v2 v3 : Int} (a0 : inS x0) (a1 : inS x1) (a2 : inS x2) (a3 : inS x3) (b0 : inS y0) (b1 : inS y1) (b2 : inS y2) (b3 : inS y3)
    (c0 : inS u0) (c1 : inS u1) (c2 : inS u2) (c3 : inS u3) (d0 : inS v0) (d1 : inS v1) (d2 : inS v2) (d3 : inS v3) (h : x0 * y0 + (x1 * y1 + (x2 * y2 + (x3 * y3 + 0))) = u0 * v0 + (u1 * v1 + (u2 * v2 + (u3 * v3 + 0)))) :
    dotV 30 [x0, x1, x2, x3] [y0, y1, y2, y3] = dotV 30 [u0, u1, u2, u3] [v0, v1, v2, v3] ∧ dotH 30 [x0, x1, x2, x3] [y0, y1, y2, y3] = dotH 30 [u0, u1, u2, u3] [v0, v1, v2, v3] := by
  obtain ⟨e1, e2⟩ := dot4 a0 a1 a2 a3 b0 b1 b2 b3
  obtain ⟨f1, f2⟩ := dot4 c0 c1 c2 c3 d0 d1 d2 d3
  rw [e1, e2, f1, f2, h]; exact ⟨rfl, rfl⟩
/-- The minus on the other list. -/
theorem t1_neg {a b d e : Int} (ha : inS a) (hb : inS b) (hd : inS d) (he : inS e) :
    dotV 30 [a, a, d, d] [b, b, wr IntKind.i64 (0 - e), wr IntKind.i64 (0 - e)] = t1V a b (wr IntKind.i64 (0 - d)) e ∧ dotH 30 [a, a, d, d] [b, b, wr IntKind.i64 (0 - e), wr IntKind.i64 (0 - e)] = t1H a b (wr IntKind.i64 (0 - d)) e := by
  unfold t1V t1H
  rw [wneg hd, wneg he]
  exact dot4_eq ha ha hd hd hb hb (inS_neg he) (inS_neg he) ha ha (inS_neg hd) (inS_neg hd) hb hb he he (by rw [Int.mul_neg, Int.neg_mul])
theorem t1_swap {a b d e : Int} (ha : inS a) (hb : inS b) (hd : inS d) (he : inS e) : t1V b a d e = t1V a b d e ∧ t1H b a d e = t1H a b d e := by
  unfold t1V t1H
  exact dot4_eq hb hb hd hd ha ha he he ha ha hd hd hb hb he he (by rw [Int.mul_comm b a])
theorem s1_a {a b c d : Int} (ha : inS a) (hb : inS b) (hc : inS c) (hd : inS d) :
    dotV 30 [a, b, wr IntKind.i64 (0 - c), wr IntKind.i64 (0 - d)] [a, b, c, d] = s1V 1 1 (-1) (-1) a b c d ∧ dotH 30 [a, b, wr IntKind.i64 (0 - c), wr IntKind.i64 (0 - d)] [a, b, c, d] = s1H 1 1 (-1) (-1) a b c d := by
  unfold s1V s1H
  rw [wneg hc, wneg hd, wone ha, wone hb, wmone hc, wmone hd]
  exact dot4_eq ha hb (inS_neg hc) (inS_neg hd) ha hb hc hd ha hb hc hd ha hb (inS_neg hc) (inS_neg hd) (by simp only [Int.mul_neg, Int.neg_mul])
theorem s1_b {a b c d : Int} (ha : inS a) (hb : inS b) (hc : inS c) (hd : inS d) :
    dotV 30 [a, c, wr IntKind.i64 (0 - d), wr IntKind.i64 (0 - b)] [a, c, d, b] = s1V 1 (-1) 1 (-1) a b c d ∧ dotH 30 [a, c, wr IntKind.i64 (0 - d), wr IntKind.i64 (0 - b)] [a, c, d, b] = s1H 1 (-1) 1 (-1) a b c d := by
  unfold s1V s1H
  rw [wneg hd, wneg hb, wone ha, wone hc, wmone hb, wmone hd]
  exact dot4_eq ha hc (inS_neg hd) (inS_neg hb) ha hc hd hb ha hb hc hd ha (inS_neg hb) hc (inS_neg hd) (by simp only [Int.mul_neg, Int.neg_mul]; generalize a * a = p; generalize b * b = q; generalize c * c = r; generalize d * d = s; omega)
theorem s1_c {a b c d : Int} (ha : inS a) (hb : inS b) (hc : inS c) (hd : inS d) :
    dotV 30 [a, d, wr IntKind.i64 (0 - b), wr IntKind.i64 (0 - c)] [a, d, b, c] = s1V 1 (-1) (-1) 1 a b c d ∧ dotH 30 [a, d, wr IntKind.i64 (0 - b), wr IntKind.i64 (0 - c)] [a, d, b, c] = s1H 1 (-1) (-1) 1 a b c d := by
  unfold s1V s1H
  rw [wneg hb, wneg hc, wone ha, wone hd, wmone hb, wmone hc]
  exact dot4_eq ha hd (inS_neg hb) (inS_neg hc) ha hd hb hc ha hb hc hd ha (inS_neg hb) (inS_neg hc) hd (by simp only [Int.mul_neg, Int.neg_mul]; generalize a * a = p; generalize b * b = q; generalize c * c = r; generalize d * d = s; omega)
end Go.Proofs.Ythfanchjkkeejaa

/- The second answer's matrix of a quaternion: its run (printed), in the program's words. -/
namespace Go.Proofs.Ythfanchjkkeejaa
open Go.Lr
set_option linter.unusedVariables false
set_option linter.unusedSimpArgs false

theorem r4ofR (a0 a1 a2 a3 : Int) (hb : Bool) (ty : TypeId) : (runF Try.prog S34 Zl 2000 56 [A0, .v (.agg [.int .i64 a0, .int .i64 a1, .int .i64 a2, .int .i64 a3])] [(0, flag ty hb)] 1 [none, none, none, none, none, none, none, none, none, none, none, none, none, none, none, none, none, none, none, none, none, none, none, none, none, none, none, none, none, none, none]).map acc3 = some (LV.v (V1.agg [At.int IntKind.i64 (dotV 30 [satV a0, satV a1, wr IntKind.i64 (0 - satV a2), wr IntKind.i64 (0 - satV a3)] [satV a0, satV a1, satV a2, satV a3]), At.int IntKind.i64 (dotV 30 [satV a1, satV a1, satV a0, satV a0] [satV a2, satV a2, wr IntKind.i64 (0 - satV a3), wr IntKind.i64 (0 - satV a3)]), At.int IntKind.i64 (dotV 30 [satV a1, satV a1, satV a0, satV a0] [satV a3, satV a3, satV a2, satV a2]), At.int IntKind.i64 (dotV 30 [satV a2, satV a2, satV a0, satV a0] [satV a1, satV a1, satV a3, satV a3]), At.int IntKind.i64 (dotV 30 [satV a0, satV a2, wr IntKind.i64 (0 - satV a3), wr IntKind.i64 (0 - satV a1)] [satV a0, satV a2, satV a3, satV a1]), At.int IntKind.i64 (dotV 30 [satV a2, satV a2, satV a0, satV a0] [satV a3, satV a3, wr IntKind.i64 (0 - satV a1), wr IntKind.i64 (0 - satV a1)]), At.int IntKind.i64 (dotV 30 [satV a3, satV a3, satV a0, satV a0] [satV a1, satV a1, wr IntKind.i64 (0 - satV a2), wr IntKind.i64 (0 - satV a2)]), At.int IntKind.i64 (dotV 30 [satV a3, satV a3, satV a0, satV a0] [satV a2, satV a2, satV a1, satV a1]), At.int IntKind.i64 (dotV 30 [satV a0, satV a3, wr IntKind.i64 (0 - satV a1), wr IntKind.i64 (0 - satV a2)] [satV a0, satV a3, satV a1, satV a2])]), some { ty := ty, fr := (0, 0), es := 0, cells := [At.bool (hb || satH a0 || satH a1 || satH a2 || satH a3 || dotH 30 [satV a0, satV a1, wr IntKind.i64 (0 - satV a2), wr IntKind.i64 (0 - satV a3)] [satV a0, satV a1, satV a2, satV a3] || dotH 30 [satV a1, satV a1, satV a0, satV a0] [satV a2, satV a2, wr IntKind.i64 (0 - satV a3), wr IntKind.i64 (0 - satV a3)] || dotH 30 [satV a1, satV a1, satV a0, satV a0] [satV a3, satV a3, satV a2, satV a2] || dotH 30 [satV a2, satV a2, satV a0, satV a0] [satV a1, satV a1, satV a3, satV a3] || dotH 30 [satV a0, satV a2, wr IntKind.i64 (0 - satV a3), wr IntKind.i64 (0 - satV a1)] [satV a0, satV a2, satV a3, satV a1] || dotH 30 [satV a2, satV a2, satV a0, satV a0] [satV a3, satV a3, wr IntKind.i64 (0 - satV a1), wr IntKind.i64 (0 - satV a1)] || dotH 30 [satV a3, satV a3, satV a0, satV a0] [satV a1, satV a1, wr IntKind.i64 (0 - satV a2), wr IntKind.i64 (0 - satV a2)] || dotH 30 [satV a3, satV a3, satV a0, satV a0] [satV a2, satV a2, satV a1, satV a1] || dotH 30 [satV a0, satV a3, wr IntKind.i64 (0 - satV a1), wr IntKind.i64 (0 - satV a2)] [satV a0, satV a3, satV a1, satV a2])] }, []) := by kernel_rfl
theorem sumR4of (ty : TypeId) : SumOK Try.prog 56 (accSum ty rofF) := by
  refine accSum_run (z := Zl) sound34 (own_of sound34 Try.func56 (by kernel_rfl)) fun args hb v h' cs hF hc => ?_
  unfold rofF at hF
  split at hF
  · rename_i a0 a1 a2 a3
    unfold rofT at hF
    cases hF
    have i0 := inS_sat a0
    have i1 := inS_sat a1
    have i2 := inS_sat a2
    have i3 := inS_sat a3
    have in0 : inS (wr IntKind.i64 (0 - satV a0)) := by rw [wneg i0]; exact inS_neg i0
    obtain ⟨e0, f0⟩ := s1_a i0 i1 i2 i3
    obtain ⟨e1, f1⟩ := t1_neg i1 i2 i0 i3
    obtain ⟨e3, f3⟩ := t1_swap i1 i2 i0 i3
    obtain ⟨e4, f4⟩ := s1_b i0 i1 i2 i3
    obtain ⟨e5, f5⟩ := t1_neg i2 i3 i0 i1
    obtain ⟨e6, f6⟩ := t1_neg i3 i1 i0 i2
    obtain ⟨g6, k6⟩ := t1_swap i1 i3 in0 i2
    obtain ⟨e7, f7⟩ := t1_swap i2 i3 i0 i1
    obtain ⟨e8, f8⟩ := s1_c i0 i1 i2 i3
    refine ⟨rfl, 2000, _, [], (r4ofR a0 a1 a2 a3 hb ty).trans ?_, ae_nil⟩
    rw [e0, e1, e4, e5, e6, e8, g6, f0, f1, f4, f5, f6, f8, k6]
    rw [← e3, ← e7, ← f3, ← f7]
    rfl
  · cases hF
end Go.Proofs.Ythfanchjkkeejaa

/- Headings in both answers: their runs, against what they compute. -/
namespace Go.Proofs.Ythfanchjkkeejaa
open Go.Lr
set_option linter.unusedVariables false
set_option linter.unusedSimpArgs false

noncomputable def S42 : FuncId → Option SumK := more (more (more S39 24 (accSum 27 unitS)) 29 (accAny unitS)) 56 (accAny rofF)
theorem sound42 : Sound Try.prog S42 := ((sound39.more sumpu).more (accAny_ok sumru)).more (accAny_ok sumR4of)

def acc3S (ty : TypeId) (r : Option (LV × Bool × List (Bool × Bool))) : Option (LV × Option Blk × List (Bool × Bool)) := r.map fun q => (q.1, some (flag ty q.2.1), q.2.2)
/-- The rotation that heads so; the heading of a rotation. -/
def fyS : List LV → Bool → Option (LV × Bool × List (Bool × Bool))
  | [.v (.one (.int .i64 a))], hb => unitS [.v (.agg [.int .i64 (cosV (mulV (wrapV a) 536870912 30)), .int .i64 0, .int .i64 0, .int .i64 (sinV (mulV (wrapV a) 536870912 30))])] (sinH (mulV (wrapV a) 536870912 30) (cosH (mulV (wrapV a) 536870912 30) (hb || mulH (wrapV a) 536870912 30)))
  | _, _ => none
def yawS : List LV → Bool → Option (LV × Bool × List (Bool × Bool))
  | [.v (.agg [.int .i64 a0, .int .i64 a1, .int .i64 a2, .int .i64 a3])], hb => match rofF [.v (.agg [.int .i64 a0, .int .i64 a1, .int .i64 a2, .int .i64 a3])] hb with
    | some (_, h, _) => some (I (atanV (t1V (satV a1) (satV a2) (satV a0) (satV a3)) (s1V 1 1 (-1) (-1) (satV a0) (satV a1) (satV a2) (satV a3))), atanH (t1V (satV a1) (satV a2) (satV a0) (satV a3)) (s1V 1 1 (-1) (-1) (satV a0) (satV a1) (satV a2) (satV a3)) h, [])
    | none => none
  | _, _ => none
theorem pfyR (a : Int) (hb : Bool) : (runF Try.prog S42 Zl 2000 65 [A0, I a] [(0, flag 27 hb)] 1 []).map acc3 = acc3S 27 (fyS [I a] hb) := by kernel_rfl
theorem rfyR (a : Int) (hb : Bool) (ty : TypeId) : (runF Try.prog S42 Zl 2000 39 [A0, I a] [(0, flag ty hb)] 1 []).map acc3 = acc3S ty (fyS [I a] hb) := by kernel_rfl
theorem pyawR (a0 a1 a2 a3 : Int) (hb : Bool) : (runF Try.prog S42 Zl 2000 63 [A0, .v (.agg [.int .i64 a0, .int .i64 a1, .int .i64 a2, .int .i64 a3])] [(0, flag 27 hb)] 1 []).map acc3 = acc3S 27 (yawS [.v (.agg [.int .i64 a0, .int .i64 a1, .int .i64 a2, .int .i64 a3])] hb) := by kernel_rfl
theorem ryawR (a0 a1 a2 a3 : Int) (hb : Bool) (ty : TypeId) : (runF Try.prog S42 Zl 2000 64 [A0, .v (.agg [.int .i64 a0, .int .i64 a1, .int .i64 a2, .int .i64 a3])] [(0, flag ty hb)] 1 []).map acc3 = acc3S ty (yawS [.v (.agg [.int .i64 a0, .int .i64 a1, .int .i64 a2, .int .i64 a3])] hb) := by kernel_rfl
end Go.Proofs.Ythfanchjkkeejaa

/- Exponentials in both answers: their runs, against what they compute. -/
namespace Go.Proofs.Ythfanchjkkeejaa
open Go.Lr
set_option linter.unusedVariables false
set_option linter.unusedSimpArgs false

def exN (v0 v1 v2 : Int) : Int := hypV [satV v0, satV v1, satV v2]
def exH0 (h : Bool) (v0 v1 v2 : Int) : Bool := h || satH v0 || satH v1 || satH v2 || hypH [satV v0, satV v1, satV v2]
def exA (v0 v1 v2 : Int) : Int := mulV (exN v0 v1 v2) 536870912 30
def exS (v0 v1 v2 : Int) : Int := divPV (sinV (exA v0 v1 v2)) (exN v0 v1 v2) 30
def exH1 (h : Bool) (v0 v1 v2 : Int) : Bool := cosH (exA v0 v1 v2) (sinH (exA v0 v1 v2) (exH0 h v0 v1 v2 || mulH (exN v0 v1 v2) 536870912 30) || divPH (sinV (exA v0 v1 v2)) (exN v0 v1 v2) 30) || mulH (satV v0) (exS v0 v1 v2) 30 || mulH (satV v1) (exS v0 v1 v2) 30 || mulH (satV v2) (exS v0 v1 v2) 30
def exB (v0 v1 v2 : Int) (hb : Bool) : Option (LV × Bool × List (Bool × Bool)) := unitS [.v (.agg [.int .i64 (cosV (exA v0 v1 v2)), .int .i64 (mulV (satV v0) (exS v0 v1 v2) 30), .int .i64 (mulV (satV v1) (exS v0 v1 v2) 30), .int .i64 (mulV (satV v2) (exS v0 v1 v2) 30)])] (exH1 hb v0 v1 v2)
def withAsk (c : Bool × Bool) (r : Option (LV × Option Blk × List (Bool × Bool))) : Option (LV × Option Blk × List (Bool × Bool)) := r.map fun q => (q.1, q.2.1, c :: q.2.2)
theorem pexZ (v0 v1 v2 : Int) (hb : Bool) : (runF Try.prog S42 Zl 2000 61 [A0, .v (.agg [.int .i64 v0, .int .i64 v1, .int .i64 v2])] [(0, flag 27 hb)] 1 [some true]).map acc3 = some (.v (.agg [.int .i64 1073741824, .int .i64 0, .int .i64 0, .int .i64 0]), some (flag 27 (exH0 hb v0 v1 v2)), [(exN v0 v1 v2 == 0, true)]) := by kernel_rfl
theorem rexZ (v0 v1 v2 : Int) (hb : Bool) (ty : TypeId) : (runF Try.prog S42 Zl 2000 62 [A0, .v (.agg [.int .i64 v0, .int .i64 v1, .int .i64 v2])] [(0, flag ty hb)] 1 [some true]).map acc3 = some (.v (.agg [.int .i64 1073741824, .int .i64 0, .int .i64 0, .int .i64 0]), some (flag ty (exH0 hb v0 v1 v2)), [(exN v0 v1 v2 == 0, true)]) := by kernel_rfl
theorem pexN (v0 v1 v2 : Int) (hb : Bool) : (runF Try.prog S42 Zl 2000 61 [A0, .v (.agg [.int .i64 v0, .int .i64 v1, .int .i64 v2])] [(0, flag 27 hb)] 1 [some false]).map acc3 = withAsk (exN v0 v1 v2 == 0, false) (acc3S 27 (exB v0 v1 v2 hb)) := by kernel_rfl
theorem rexN (v0 v1 v2 : Int) (hb : Bool) (ty : TypeId) : (runF Try.prog S42 Zl 2000 62 [A0, .v (.agg [.int .i64 v0, .int .i64 v1, .int .i64 v2])] [(0, flag ty hb)] 1 [some false]).map acc3 = withAsk (exN v0 v1 v2 == 0, false) (acc3S ty (exB v0 v1 v2 hb)) := by kernel_rfl
end Go.Proofs.Ythfanchjkkeejaa

/- Headings and exponentials in both answers: their summaries; turning vectors. -/
namespace Go.Proofs.Ythfanchjkkeejaa
open Go.Lr
set_option linter.unusedVariables false
set_option linter.unusedSimpArgs false

theorem unitS_inv {a0 a1 a2 a3 : Int} {hb : Bool} : ∃ v h, unitS [.v (.agg [.int .i64 a0, .int .i64 a1, .int .i64 a2, .int .i64 a3])] hb = some (v, h, []) ∧ v.ok noP = true := ⟨_, _, rfl, rfl⟩
theorem acc3S_some {ty : TypeId} {r : Option (LV × Bool × List (Bool × Bool))} {v : LV} {h : Bool} {cs : List (Bool × Bool)} (e : r = some (v, h, cs)) : acc3S ty r = some (v, some (flag ty h), cs) := by subst e; rfl
theorem sumPfy : SumOK Try.prog 65 (accSum 27 fyS) := by
  refine accSum_run (z := Zl) sound42 (own_of sound42 Try.func65 (by kernel_rfl)) fun args hb v h' cs hF hc => ?_
  have hF0 := hF
  unfold fyS at hF
  split at hF
  · rename_i a
    obtain ⟨v1, h1, e, ok⟩ := unitS_inv (a0 := cosV (mulV (wrapV a) 536870912 30)) (a1 := 0) (a2 := 0) (a3 := sinV (mulV (wrapV a) 536870912 30)) (hb := sinH (mulV (wrapV a) 536870912 30) (cosH (mulV (wrapV a) 536870912 30) (hb || mulH (wrapV a) 536870912 30)))
    have hF1 := hF
    rw [e] at hF1
    cases hF1
    exact ⟨ok, 2000, [], _, (pfyR a hb).trans (acc3S_some hF0), ae_nil⟩
  · cases hF
theorem sumRfy (ty : TypeId) : SumOK Try.prog 39 (accSum ty fyS) := by
  refine accSum_run (z := Zl) sound42 (own_of sound42 Try.func39 (by kernel_rfl)) fun args hb v h' cs hF hc => ?_
  have hF0 := hF
  unfold fyS at hF
  split at hF
  · rename_i a
    obtain ⟨v1, h1, e, ok⟩ := unitS_inv (a0 := cosV (mulV (wrapV a) 536870912 30)) (a1 := 0) (a2 := 0) (a3 := sinV (mulV (wrapV a) 536870912 30)) (hb := sinH (mulV (wrapV a) 536870912 30) (cosH (mulV (wrapV a) 536870912 30) (hb || mulH (wrapV a) 536870912 30)))
    have hF1 := hF
    rw [e] at hF1
    cases hF1
    exact ⟨ok, 2000, [], _, (rfyR a hb ty).trans (acc3S_some hF0), ae_nil⟩
  · cases hF
theorem sumPyaw : SumOK Try.prog 63 (accSum 27 yawS) := by
  refine accSum_run (z := Zl) sound42 (own_of sound42 Try.func63 (by kernel_rfl)) fun args hb v h' cs hF hc => ?_
  have hF0 := hF
  unfold yawS at hF
  split at hF
  · rename_i a0 a1 a2 a3
    split at hF
    · cases hF
      exact ⟨rfl, 2000, [], _, (pyawR a0 a1 a2 a3 hb).trans (acc3S_some hF0), ae_nil⟩
    · cases hF
  · cases hF
theorem sumRyaw (ty : TypeId) : SumOK Try.prog 64 (accSum ty yawS) := by
  refine accSum_run (z := Zl) sound42 (own_of sound42 Try.func64 (by kernel_rfl)) fun args hb v h' cs hF hc => ?_
  have hF0 := hF
  unfold yawS at hF
  split at hF
  · rename_i a0 a1 a2 a3
    split at hF
    · cases hF
      exact ⟨rfl, 2000, [], _, (ryawR a0 a1 a2 a3 hb ty).trans (acc3S_some hF0), ae_nil⟩
    · cases hF
  · cases hF
end Go.Proofs.Ythfanchjkkeejaa

/- Exponentials in both answers: their summaries; the second answer's turning of vectors. -/
namespace Go.Proofs.Ythfanchjkkeejaa
open Go.Lr
set_option linter.unusedVariables false
set_option linter.unusedSimpArgs false

def expS : List LV → Bool → Option (LV × Bool × List (Bool × Bool))
  | [.v (.agg [.int .i64 v0, .int .i64 v1, .int .i64 v2])], hb => bif exN v0 v1 v2 == 0 then some (.v (.agg [.int .i64 1073741824, .int .i64 0, .int .i64 0, .int .i64 0]), exH0 hb v0 v1 v2, []) else exB v0 v1 v2 hb
  | _, _ => none
theorem exB_inv (v0 v1 v2 : Int) (hb : Bool) : ∃ v h, exB v0 v1 v2 hb = some (v, h, []) ∧ v.ok noP = true := unitS_inv
theorem sumPexp : SumOK Try.prog 61 (accSum 27 expS) := by
  refine accSum_run (z := Zl) sound42 (own_of sound42 Try.func61 (by kernel_rfl)) fun args hb v h' cs hF hc => ?_
  unfold expS at hF
  split at hF
  · rename_i v0 v1 v2
    rcases bool_cases (exN v0 v1 v2 == 0) with h | h
    · rw [cond_t h] at hF
      cases hF
      exact ⟨rfl, 2000, _, _, pexZ v0 v1 v2 hb, ae_cons h ae_nil⟩
    · rw [cond_f h] at hF
      obtain ⟨v1', h1, e, ok⟩ := exB_inv v0 v1 v2 hb
      have hF1 := hF
      rw [e] at hF1
      cases hF1
      have hr := pexN v0 v1 v2 hb
      rw [acc3S_some hF] at hr
      exact ⟨ok, 2000, _, _, hr, ae_cons h ae_nil⟩
  · cases hF
theorem sumRexp (ty : TypeId) : SumOK Try.prog 62 (accSum ty expS) := by
  refine accSum_run (z := Zl) sound42 (own_of sound42 Try.func62 (by kernel_rfl)) fun args hb v h' cs hF hc => ?_
  unfold expS at hF
  split at hF
  · rename_i v0 v1 v2
    rcases bool_cases (exN v0 v1 v2 == 0) with h | h
    · rw [cond_t h] at hF
      cases hF
      exact ⟨rfl, 2000, _, _, rexZ v0 v1 v2 hb ty, ae_cons h ae_nil⟩
    · rw [cond_f h] at hF
      obtain ⟨v1', h1, e, ok⟩ := exB_inv v0 v1 v2 hb
      have hF1 := hF
      rw [e] at hF1
      cases hF1
      have hr := rexN v0 v1 v2 hb ty
      rw [acc3S_some hF] at hr
      exact ⟨ok, 2000, _, _, hr, ae_cons h ae_nil⟩
  · cases hF
end Go.Proofs.Ythfanchjkkeejaa

/- Tilts in both answers: the plain facts. -/
namespace Go.Proofs.Ythfanchjkkeejaa
open Go.Lr
set_option linter.unusedVariables false
set_option linter.unusedSimpArgs false

theorem sqN (a : Int) : 0 ≤ a * a := by
  have h : 0 ≤ a ∨ a ≤ 0 := by omega
  rcases h with h | h
  · exact Int.mul_nonneg h h
  · exact Int.mul_nonneg_of_nonpos_of_nonpos h h
theorem absSq (a : Int) : absV a * absV a = a * a := by rw [← absV_mul, absV_pos (sqN a)]
theorem sqS3 (x y z : Int) : sqS (List.take 64 [x, y, z]) = satV x * satV x + (satV y * satV y + satV z * satV z) := by
  show satV x * satV x + (satV y * satV y + (satV z * satV z + 0)) = _
  omega
/-- A clamped number's square. -/
theorem sqb {s : Int} (h0 : -1152921504606846976 ≤ s) (h1 : s ≤ 1152921504606846976) : 0 ≤ s * s ∧ s * s ≤ 1329227995784915872903807060280344576 := by
  refine ⟨sqN s, ?_⟩
  have := prod_lt (a := s) (b := s) (k := 1152921504606846976) (l := 1152921504606846976) (by unfold absV; split <;> omega) (by unfold absV; split <;> omega)
  omega
theorem root_side {s N : Int} (h1 : s * s ≤ N) (hN : N < 340282366920938463463374607431768211456) : s ≤ rootW N ∧ -s ≤ rootW N := by
  have h0 := sqN s
  constructor
  · refine root_ge (by omega) hN ?_
    by_cases h : s ≤ 0
    · exact .inl h
    · exact .inr (by omega)
  · refine root_ge (by omega) hN ?_
    by_cases h : -s ≤ 0
    · exact .inl h
    · right
      have e : -s * -s = s * s := by grind
      omega
/-- A length is at least each side. -/
theorem exN_side (v0 v1 v2 : Int) : (satV v0 ≤ exN v0 v1 v2 ∧ -satV v0 ≤ exN v0 v1 v2) ∧ (satV v1 ≤ exN v0 v1 v2 ∧ -satV v1 ≤ exN v0 v1 v2) ∧ (satV v2 ≤ exN v0 v1 v2 ∧ -satV v2 ≤ exN v0 v1 v2) ∧ 0 ≤ exN v0 v1 v2 ∧ exN v0 v1 v2 ≤ 1152921504606846976 := by
  unfold exN hypV
  rw [sqS3, sat_sat, sat_sat, sat_sat]
  have b0 := sat_bd v0
  have b1 := sat_bd v1
  have b2 := sat_bd v2
  generalize satV v0 = a at *
  generalize satV v1 = b at *
  generalize satV v2 = c at *
  have q0 := sqb b0.1 b0.2
  have q1 := sqb b1.1 b1.2
  have q2 := sqb b2.1 b2.2
  have hN : a * a + (b * b + c * c) < 340282366920938463463374607431768211456 := by omega
  have s0 := root_side (s := a) (N := a * a + (b * b + c * c)) (by omega) hN
  have s1 := root_side (s := b) (N := a * a + (b * b + c * c)) (by omega) hN
  have s2 := root_side (s := c) (N := a * a + (b * b + c * c)) (by omega) hN
  generalize rootW (a * a + (b * b + c * c)) = r at *
  have hr := sat_bd r
  have : satV r = r ∨ 1152921504606846976 ≤ satV r := by
    unfold satV clampV at *
    clear hr
    (repeat' split) <;> omega
  omega
theorem exN_zero {v0 v1 v2 : Int} (h0 : satV v0 = 0) (h1 : satV v1 = 0) (h2 : satV v2 = 0) : exN v0 v1 v2 = 0 ∧ hypH [satV v0, satV v1, satV v2] = false := by
  unfold exN
  rw [h0, h1, h2]
  exact ⟨by kernel_rfl, by kernel_rfl⟩
def tlZ (v0 v1 v2 : Int) : Bool := satV v0 == 0 && (satV v1 == 0 && (satV v2 == 0 && true))
theorem tlZ_eq (v0 v1 v2 : Int) : tlZ v0 v1 v2 = (exN v0 v1 v2 == 0) := by
  have hs := exN_side v0 v1 v2
  unfold tlZ
  by_cases h : exN v0 v1 v2 = 0
  · have e0 : satV v0 = 0 := by omega
    have e1 : satV v1 = 0 := by omega
    have e2 : satV v2 = 0 := by omega
    rw [e0, e1, e2, h]
    rfl
  · have e : (exN v0 v1 v2 == 0) = false := by simpa using h
    rw [e]
    by_cases e0 : satV v0 = 0
    · by_cases e1 : satV v1 = 0
      · by_cases e2 : satV v2 = 0
        · exact absurd (exN_zero e0 e1 e2).1 h
        · simp [e2]
      · simp [e1]
    · simp [e0]
theorem tl_h {v0 v1 v2 : Int} (h : (exN v0 v1 v2 == 0) = true) (hb : Bool) : exH0 hb v0 v1 v2 = (hb || satH v0 || satH v1 || satH v2) := by
  have hs := exN_side v0 v1 v2
  have h : exN v0 v1 v2 = 0 := by simpa using h
  unfold exH0
  rw [(exN_zero (v0 := v0) (v1 := v1) (v2 := v2) (by omega) (by omega) (by omega)).2, Bool.or_false]
/-- Divided by a length: the bounds, the flag. -/
theorem dpass {v u : Int} (h0 : v ≤ u) (h1 : -v ≤ u) (h2 : 1 ≤ u) (h3 : u ≤ 1152921504606846976) :
    (-u ≤ 2 * (divPV v u 30 * u - v * 1073741824) ∧ 2 * (divPV v u 30 * u - v * 1073741824) ≤ u) ∧ (-1073741824 ≤ divPV v u 30 ∧ divPV v u 30 ≤ 1073741824) ∧ divPH v u 30 = false := by
  have key : ∀ w : Int, 0 ≤ w → w ≤ u → -u ≤ 2 * (divV (w * 1073741824) u * u - w * 1073741824) ∧ 2 * (divV (w * 1073741824) u * u - w * 1073741824) ≤ u := by
    intro w w0 w1
    rw [div_pos (a := w * 1073741824) (b := u) (by omega) (by omega)]
    exact quo_bd (by omega) (by omega)
  have odd : ∀ w : Int, divV (-w) u = -divV w u := by
    intro w
    unfold divV
    rw [absV_negate]
    have hu : decide (u < 0) = false := by simp; omega
    rw [hu]
    by_cases g0 : w = 0
    · subst g0
      have : quoR (absV 0) (absV u) = 0 := by
        rw [show absV 0 = 0 from rfl]
        exact quoR_zero (by unfold absV; split <;> omega)
      rw [this]; rfl
    · by_cases g1 : w < 0
      · have e1 : decide (w < 0) = true := by simpa using g1
        have e2 : decide (-w < 0) = false := by simp; omega
        rw [e1, e2]; unfold sgn; simp
      · have e1 : decide (w < 0) = false := by simp; omega
        have e2 : decide (-w < 0) = true := by simp; omega
        rw [e1, e2]; unfold sgn; simp
  have hd : -u ≤ 2 * (divV (v * 1073741824) u * u - v * 1073741824) ∧ 2 * (divV (v * 1073741824) u * u - v * 1073741824) ≤ u := by
    by_cases h : 0 ≤ v
    · exact key v h h0
    · have k := key (-v) (by omega) h1
      rw [show -v * 1073741824 = -(v * 1073741824) by omega, odd, Int.neg_mul] at k
      omega
  have e : pow2 (Int.toNat 30) = 1073741824 := rfl
  have hb : -1073741824 ≤ divV (v * 1073741824) u ∧ divV (v * 1073741824) u ≤ 1073741824 := by
    generalize divV (v * 1073741824) u = t at *
    constructor
    · rcases Int.lt_or_le t (-1073741824) with h | h
      · exfalso
        have : t * u ≤ -1073741825 * u := Int.mul_le_mul_of_nonneg_right (by omega) (by omega)
        omega
      · exact h
    · rcases Int.lt_or_le 1073741824 t with h | h
      · exfalso
        have : 1073741825 * u ≤ t * u := Int.mul_le_mul_of_nonneg_right (by omega) (by omega)
        omega
      · exact h
  have hs : -1152921504606846976 ≤ v ∧ v ≤ 1152921504606846976 := by omega
  have ev : divPV v u 30 = divV (v * 1073741824) u := by
    unfold divPV byV
    rw [if_neg (by decide), if_neg (by decide), e, sat_in (a := v) hs.1 hs.2, sat_in (a := u) (by omega) h3, if_neg (by omega), sat_in (by omega) (by omega)]
  refine ⟨by rw [ev]; exact hd, by rw [ev]; exact hb, ?_⟩
  unfold divPH byH
  rw [e, sat_in (a := v) hs.1 hs.2, sat_in (a := u) (by omega) h3, satH_in (a := v) hs.1 hs.2, satH_in (a := u) (by omega) h3, satH_in (a := divV (v * 1073741824) u) (by omega) (by omega)]
  have : (u == 0) = false := by simp; omega
  rw [this]; rfl

theorem sub_one {u : Int} (h0 : -1073741824 ≤ u) (h1 : u ≤ 1073741824) : subV 1073741824 u = wr .i64 (1073741824 - u) ∧ subH 1073741824 u = false := by
  unfold subV subH
  rw [sat_in (a := u) (by omega) (by omega), sat_in (a := 1073741824) (by omega) (by omega), satH_in (a := u) (by omega) (by omega), satH_in (a := 1073741824) (by omega) (by omega), satH_in (a := 1073741824 - u) (by omega) (by omega), sat_in (a := 1073741824 - u) (by omega) (by omega), wr_i, w64_in (by omega) (by omega)]
  exact ⟨rfl, rfl⟩

/-- What Unit makes: its four numbers, its flag. -/
def uV0 (a0 a1 a2 a3 : Int) : Int := bif uZ a0 a1 a2 a3 then 1073741824 else uE (satV a0) (satV a0) (satV a1) (satV a2) (satV a3)
def uV1 (a0 a1 a2 a3 : Int) : Int := bif uZ a0 a1 a2 a3 then 0 else uE (satV a1) (satV a0) (satV a1) (satV a2) (satV a3)
def uV2 (a0 a1 a2 a3 : Int) : Int := bif uZ a0 a1 a2 a3 then 0 else uE (satV a2) (satV a0) (satV a1) (satV a2) (satV a3)
def uV3 (a0 a1 a2 a3 : Int) : Int := bif uZ a0 a1 a2 a3 then 0 else uE (satV a3) (satV a0) (satV a1) (satV a2) (satV a3)
def uFl (h : Bool) (a0 a1 a2 a3 : Int) : Bool := bif uZ a0 a1 a2 a3 then uS h a0 a1 a2 a3 else uH (uS h a0 a1 a2 a3) (satV a0) (satV a1) (satV a2) (satV a3)
def tU (v v0 v1 v2 : Int) : Int := divPV (satV v) (exN v0 v1 v2) 30
theorem tU_sub {v0 v1 v2 : Int} (h : (exN v0 v1 v2 == 0) = false) : subV 1073741824 (tU v2 v0 v1 v2) = wr .i64 (1073741824 - tU v2 v0 v1 v2) ∧ subH 1073741824 (tU v2 v0 v1 v2) = false := by
  have h : exN v0 v1 v2 ≠ 0 := by simpa using h
  have hs := exN_side v0 v1 v2
  unfold tU
  have := (dpass (v := satV v2) (u := exN v0 v1 v2) (by omega) (by omega) (by omega) (by omega)).2.1
  exact sub_one this.1 this.2
end Go.Proofs.Ythfanchjkkeejaa

/- Units: plain bounds of what Unit makes. -/
namespace Go.Proofs.Ythfanchjkkeejaa
open Go.Lr
set_option linter.unusedVariables false
set_option linter.unusedSimpArgs false

theorem sqS4 (x y z w : Int) : sqS (List.take 64 [x, y, z, w]) = satV x * satV x + (satV y * satV y + (satV z * satV z + satV w * satV w)) := by
  show satV x * satV x + (satV y * satV y + (satV z * satV z + (satV w * satV w + 0))) = _
  omega
def n4 (a b c d : Int) : Int := a * a + (b * b + (c * c + d * d))
/-- A length of four. -/
theorem hyp4 {a b c d : Int} (ha : inS a) (hb : inS b) (hc : inS c) (hd : inS d) (h : 1 ≤ n4 a b c d) :
    (1 ≤ hypV [a, b, c, d] ∧ hypV [a, b, c, d] ≤ 1152921504606846976) ∧ (a ≤ hypV [a, b, c, d] ∧ -a ≤ hypV [a, b, c, d]) ∧ (b ≤ hypV [a, b, c, d] ∧ -b ≤ hypV [a, b, c, d]) ∧ (c ≤ hypV [a, b, c, d] ∧ -c ≤ hypV [a, b, c, d]) ∧ (d ≤ hypV [a, b, c, d] ∧ -d ≤ hypV [a, b, c, d]) ∧
    hypV [a, b, c, d] * hypV [a, b, c, d] - hypV [a, b, c, d] + 1 ≤ n4 a b c d ∧ (n4 a b c d ≤ 1329227995784915872903807060280344576 → n4 a b c d ≤ hypV [a, b, c, d] * hypV [a, b, c, d] + hypV [a, b, c, d] ∧ hypH [a, b, c, d] = false) := by
  have eH : hypH [a, b, c, d] = satH (rootW (n4 a b c d)) := by
    unfold hypH
    rw [sqS4, sat_in ha.1 ha.2, sat_in hb.1 hb.2, sat_in hc.1 hc.2, sat_in hd.1 hd.2]
    show ((satH a || (satH b || (satH c || (satH d || false)))) || _) = _
    rw [satH_in ha.1 ha.2, satH_in hb.1 hb.2, satH_in hc.1 hc.2, satH_in hd.1 hd.2]
    rfl
  have eV : hypV [a, b, c, d] = satV (rootW (n4 a b c d)) := by
    unfold hypV
    rw [sqS4, sat_in ha.1 ha.2, sat_in hb.1 hb.2, sat_in hc.1 hc.2, sat_in hd.1 hd.2]
    rfl
  rw [eV, eH]
  have q0 := sqb ha.1 ha.2
  have q1 := sqb hb.1 hb.2
  have q2 := sqb hc.1 hc.2
  have q3 := sqb hd.1 hd.2
  have hN : n4 a b c d < 340282366920938463463374607431768211456 := by unfold n4; omega
  have s0 := root_side (s := a) (N := n4 a b c d) (by unfold n4; omega) hN
  have s1 := root_side (s := b) (N := n4 a b c d) (by unfold n4; omega) hN
  have s2 := root_side (s := c) (N := n4 a b c d) (by unfold n4; omega) hN
  have s3 := root_side (s := d) (N := n4 a b c d) (by unfold n4; omega) hN
  obtain ⟨r0, r1, r2⟩ := rootW_spec (N := n4 a b c d) (by omega) hN
  generalize rootW (n4 a b c d) = r at *
  generalize n4 a b c d = N at *
  unfold inS at ha hb hc hd
  have hr1 : 1 ≤ r := by
    rcases Int.lt_or_le r 1 with h' | h'
    · have : r = 0 := by omega
      subst this
      omega
    · exact h'
  have r2' : r * r - r + 1 ≤ N := by
    rcases r2 with h' | h'
    · omega
    · exact h'
  by_cases hle : r ≤ 1152921504606846976
  · rw [sat_in (by omega) hle, satH_in (by omega) hle]
    exact ⟨by omega, by omega, by omega, by omega, by omega, by omega, fun _ => ⟨by omega, rfl⟩⟩
  · have hs : satV r = 1152921504606846976 := by
      unfold satV clampV
      (repeat' split) <;> omega
    have hrr : 1152921504606846977 * 1152921504606846976 ≤ r * (r - 1) := Int.mul_le_mul (by omega) (by omega) (by omega) (by omega)
    have e : r * (r - 1) = r * r - r := by grind
    rw [hs]
    exact ⟨by omega, by omega, by omega, by omega, by omega, by omega, fun h => absurd h (by omega)⟩

theorem sq_low {t s n : Int} (h0 : s ≤ n) (h1 : -s ≤ n) (hn : 1 ≤ n) (e0 : -n ≤ 2 * (t * n - s * 1073741824)) (e1 : 2 * (t * n - s * 1073741824) ≤ n) :
    s * s * 1152921504606846976 - 1073741824 * (n * n) ≤ t * t * (n * n) := by
  have p := prod_lt (a := s) (b := 2 * (t * n - s * 1073741824)) (k := n) (l := n) (by unfold absV; split <;> omega) (by unfold absV; split <;> omega)
  have q := sqN (t * n - s * 1073741824)
  have g1 : s * (2 * (t * n - s * 1073741824)) = 2 * (s * t * n) - 2147483648 * (s * s) := by grind
  have g2 : (t * n - s * 1073741824) * (t * n - s * 1073741824) = t * t * (n * n) - 2147483648 * (s * t * n) + 1152921504606846976 * (s * s) := by grind
  omega
/-- One pass: the numbers are about a Unit's. -/
theorem pass1 {a b c d n : Int} (hn : 1 ≤ n) (hn1 : n ≤ 1152921504606846976) (ha : a ≤ n ∧ -a ≤ n) (hb : b ≤ n ∧ -b ≤ n) (hc : c ≤ n ∧ -c ≤ n) (hd : d ≤ n ∧ -d ≤ n) (hN : n * n - n + 1 ≤ n4 a b c d) :
    3458764496640671744 ≤ 4 * n4 (divPV a n 30) (divPV b n 30) (divPV c n 30) (divPV d n 30) := by
  have a1 := sq_low ha.1 ha.2 hn (dpass ha.1 ha.2 hn hn1).1.1 (dpass ha.1 ha.2 hn hn1).1.2
  have b1 := sq_low hb.1 hb.2 hn (dpass hb.1 hb.2 hn hn1).1.1 (dpass hb.1 hb.2 hn hn1).1.2
  have c1 := sq_low hc.1 hc.2 hn (dpass hc.1 hc.2 hn hn1).1.1 (dpass hc.1 hc.2 hn hn1).1.2
  have d1 := sq_low hd.1 hd.2 hn (dpass hd.1 hd.2 hn hn1).1.1 (dpass hd.1 hd.2 hn hn1).1.2
  generalize divPV a n 30 = a' at *
  generalize divPV b n 30 = b' at *
  generalize divPV c n 30 = c' at *
  generalize divPV d n 30 = d' at *
  unfold n4 at *
  have hp : 0 < n * n := Int.mul_pos (by omega) (by omega)
  have h3 : 3 * (n * n) ≤ 4 * (a * a + (b * b + (c * c + d * d))) := by
    have q := sqN (n - 2)
    have e : (n - 2) * (n - 2) = n * n - 4 * n + 4 := by grind
    omega
  have e : (4 * (a' * a' + (b' * b' + (c' * c' + d' * d')))) * (n * n) = 4 * (a' * a' * (n * n) + (b' * b' * (n * n) + (c' * c' * (n * n) + d' * d' * (n * n)))) := by grind
  refine Int.le_of_mul_le_mul_right (a := n * n) ?_ hp
  rw [e]
  omega

/-- The sum of four numbers' sizes against the squares' (Cauchy and Schwarz). -/
theorem cs4 {a b c d m : Int} (hm : 0 ≤ m) (h : n4 a b c d ≤ m * m + m) : absV a + absV b + absV c + absV d ≤ 2 * m := by
  unfold n4 at h
  rw [← absSq a, ← absSq b, ← absSq c, ← absSq d] at h
  have a0 := absV_nn a
  have b0 := absV_nn b
  have c0 := absV_nn c
  have d0 := absV_nn d
  generalize absV a = x at *
  generalize absV b = y at *
  generalize absV c = z at *
  generalize absV d = w at *
  rcases Int.lt_or_le (2 * m) (x + y + z + w) with hl | hl
  · exfalso
    have q : (2 * m + 1) * (2 * m + 1) ≤ (x + y + z + w) * (x + y + z + w) := Int.mul_le_mul (by omega) (by omega) (by omega) (by omega)
    have e1 : (2 * m + 1) * (2 * m + 1) = 4 * (m * m) + 4 * m + 1 := by grind
    have q1 := sqN (x - y)
    have q2 := sqN (x - z)
    have q3 := sqN (x - w)
    have q4 := sqN (y - z)
    have q5 := sqN (y - w)
    have q6 := sqN (z - w)
    have e2 : (x + y + z + w) * (x + y + z + w) = 4 * (x * x + (y * y + (z * z + w * w))) - (x - y) * (x - y) - (x - z) * (x - z) - (x - w) * (x - w) - (y - z) * (y - z) - (y - w) * (y - w) - (z - w) * (z - w) := by grind
    omega
  · exact hl
/-- One number's square after a pass. -/
theorem sq_both {u t m : Int} (e0 : -m ≤ 2 * (u * m - t * 1073741824)) (e1 : 2 * (u * m - t * 1073741824) ≤ m) :
    -(4294967296 * (absV t * m)) ≤ 4 * (u * u * (m * m)) - 4611686018427387904 * (t * t) ∧ 4 * (u * u * (m * m)) - 4611686018427387904 * (t * t) ≤ 4294967296 * (absV t * m) + m * m := by
  have p := prod_lt (a := t) (b := 2 * (u * m - t * 1073741824)) (k := absV t) (l := m) (Int.le_refl _) (by unfold absV; split <;> omega)
  have q := prod_lt (a := 2 * (u * m - t * 1073741824)) (b := 2 * (u * m - t * 1073741824)) (k := m) (l := m) (by unfold absV; split <;> omega) (by unfold absV; split <;> omega)
  have q0 := sqN (2 * (u * m - t * 1073741824))
  have g1 : t * (2 * (u * m - t * 1073741824)) = 2 * (t * u * m) - 2147483648 * (t * t) := by grind
  have g2 : 2 * (u * m - t * 1073741824) * (2 * (u * m - t * 1073741824)) = 4 * (u * u * (m * m)) - 8589934592 * (t * u * m) + 4611686018427387904 * (t * t) := by grind
  omega
/-- Near One times One. -/
def nearU (N : Int) : Prop := -7516192768 ≤ 2 * (N - 1152921504606846976) ∧ 2 * (N - 1152921504606846976) ≤ 7516192768
theorem pass2 {a b c d m : Int} (hm : 3221225472 ≤ 4 * m) (hm1 : m ≤ 1152921504606846976) (ha : a ≤ m ∧ -a ≤ m) (hb : b ≤ m ∧ -b ≤ m) (hc : c ≤ m ∧ -c ≤ m) (hd : d ≤ m ∧ -d ≤ m) (hN : m * m - m + 1 ≤ n4 a b c d) (hN1 : n4 a b c d ≤ m * m + m) :
    nearU (n4 (divPV a m 30) (divPV b m 30) (divPV c m 30) (divPV d m 30)) := by
  have hn : 1 ≤ m := by omega
  have a1 := sq_both (dpass ha.1 ha.2 hn hm1).1.1 (dpass ha.1 ha.2 hn hm1).1.2
  have b1 := sq_both (dpass hb.1 hb.2 hn hm1).1.1 (dpass hb.1 hb.2 hn hm1).1.2
  have c1 := sq_both (dpass hc.1 hc.2 hn hm1).1.1 (dpass hc.1 hc.2 hn hm1).1.2
  have d1 := sq_both (dpass hd.1 hd.2 hn hm1).1.1 (dpass hd.1 hd.2 hn hm1).1.2
  have cs := cs4 (by omega) hN1
  generalize divPV a m 30 = a' at *
  generalize divPV b m 30 = b' at *
  generalize divPV c m 30 = c' at *
  generalize divPV d m 30 = d' at *
  have hp : 0 < m * m := Int.mul_pos (by omega) (by omega)
  have hs : (absV a + absV b + absV c + absV d) * m ≤ 2 * m * m := Int.mul_le_mul_of_nonneg_right cs (by omega)
  have es : (absV a + absV b + absV c + absV d) * m = absV a * m + absV b * m + absV c * m + absV d * m := by grind
  have e2 : 2 * m * m = 2 * (m * m) := by grind
  have h4 : 3221225472 * m ≤ 4 * m * m := Int.mul_le_mul_of_nonneg_right hm (by omega)
  have e4 : 4 * m * m = 4 * (m * m) := by grind
  unfold nearU
  unfold n4 at *
  have e : (a' * a' + (b' * b' + (c' * c' + d' * d'))) * (m * m) = a' * a' * (m * m) + (b' * b' * (m * m) + (c' * c' * (m * m) + d' * d' * (m * m))) := by grind
  generalize a' * a' + (b' * b' + (c' * c' + d' * d')) = U at *
  constructor
  · refine Int.le_of_mul_le_mul_right (a := m * m) ?_ hp
    have e5 : 2 * (U - 1152921504606846976) * (m * m) = 2 * (U * (m * m)) - 2305843009213693952 * (m * m) := by grind
    rw [e5]
    omega
  · refine Int.le_of_mul_le_mul_right (a := m * m) ?_ hp
    have e5 : 2 * (U - 1152921504606846976) * (m * m) = 2 * (U * (m * m)) - 2305843009213693952 * (m * m) := by grind
    rw [e5]
    omega
end Go.Proofs.Ythfanchjkkeejaa

/- Units: what Unit makes of any numbers is near a Unit; again it is near itself. -/
namespace Go.Proofs.Ythfanchjkkeejaa
open Go.Lr
set_option linter.unusedVariables false
set_option linter.unusedSimpArgs false

/-- Numbers of a Unit. -/
structure UnitQ (a b c d : Int) : Prop where
  ha : -1073741824 ≤ a ∧ a ≤ 1073741824
  hb : -1073741824 ≤ b ∧ b ≤ 1073741824
  hc : -1073741824 ≤ c ∧ c ≤ 1073741824
  hd : -1073741824 ≤ d ∧ d ≤ 1073741824
  hn : nearU (n4 a b c d)
theorem inS_bd {a : Int} (h : -1073741824 ≤ a ∧ a ≤ 1073741824) : inS a := by unfold inS; omega
theorem n4_pos {a b c d : Int} (h : ¬ (a = 0 ∧ b = 0 ∧ c = 0 ∧ d = 0)) : 1 ≤ n4 a b c d := by
  have pos : ∀ x : Int, x ≠ 0 → 1 ≤ x * x := by
    intro x hx
    have h1 : x * x ≠ 0 := by
      intro e
      rcases Int.mul_eq_zero.1 e with h | h <;> exact hx h
    have := sqN x
    omega
  have q0 := sqN a
  have q1 := sqN b
  have q2 := sqN c
  have q3 := sqN d
  have p0 := pos a
  have p1 := pos b
  have p2 := pos c
  have p3 := pos d
  unfold n4
  by_cases e0 : a = 0
  · by_cases e1 : b = 0
    · by_cases e2 : c = 0
      · by_cases e3 : d = 0
        · exact absurd ⟨e0, e1, e2, e3⟩ h
        · have := p3 e3; omega
      · have := p2 e2; omega
    · have := p1 e1; omega
  · have := p0 e0; omega
theorem uZ_pos {a b c d : Int} (h : uZ a b c d = false) : 1 ≤ n4 (satV a) (satV b) (satV c) (satV d) := by
  refine n4_pos fun ⟨e0, e1, e2, e3⟩ => ?_
  unfold uZ at h
  rw [e0, e1, e2, e3] at h
  exact absurd h (by decide)
theorem len_big {m N : Int} (h0 : 0 ≤ m) (h1 : N ≤ m * m + m) (h2 : 3458764496640671744 ≤ 4 * N) : 3221225472 ≤ 4 * m := by
  rcases Int.lt_or_le (4 * m) 3221225472 with h | h
  · exfalso
    have : m * m ≤ 805306367 * 805306367 := Int.mul_le_mul (by omega) (by omega) (by omega) (by omega)
    omega
  · exact h
theorem n4_le {a b c d : Int} (ha : -1073741824 ≤ a ∧ a ≤ 1073741824) (hb : -1073741824 ≤ b ∧ b ≤ 1073741824) (hc : -1073741824 ≤ c ∧ c ≤ 1073741824) (hd : -1073741824 ≤ d ∧ d ≤ 1073741824) : n4 a b c d ≤ 4611686018427387904 := by
  have sq : ∀ x : Int, -1073741824 ≤ x ∧ x ≤ 1073741824 → x * x ≤ 1152921504606846976 := by
    intro x hx
    exact (prod_lt (a := x) (b := x) (k := 1073741824) (l := 1073741824) (by unfold absV; split <;> omega) (by unfold absV; split <;> omega)).2
  have p0 := sq a ha
  have p1 := sq b hb
  have p2 := sq c hc
  have p3 := sq d hd
  unfold n4
  omega
/-- The second pass. -/
theorem second {a b c d : Int} (ha : -1073741824 ≤ a ∧ a ≤ 1073741824) (hb : -1073741824 ≤ b ∧ b ≤ 1073741824) (hc : -1073741824 ≤ c ∧ c ≤ 1073741824) (hd : -1073741824 ≤ d ∧ d ≤ 1073741824) (h : 3458764496640671744 ≤ 4 * n4 a b c d) :
    UnitQ (divPV a (hypV [a, b, c, d]) 30) (divPV b (hypV [a, b, c, d]) 30) (divPV c (hypV [a, b, c, d]) 30) (divPV d (hypV [a, b, c, d]) 30) := by
  obtain ⟨m0, mA, mB, mC, mD, m1, m2⟩ := hyp4 (inS_bd ha) (inS_bd hb) (inS_bd hc) (inS_bd hd) (by omega)
  have le := n4_le ha hb hc hd
  obtain ⟨m3, -⟩ := m2 (by omega)
  have big := len_big (by omega) m3 h
  exact ⟨(dpass mA.1 mA.2 m0.1 m0.2).2.1, (dpass mB.1 mB.2 m0.1 m0.2).2.1, (dpass mC.1 mC.2 m0.1 m0.2).2.1, (dpass mD.1 mD.2 m0.1 m0.2).2.1, pass2 big m0.2 mA mB mC mD m1 m3⟩
/-- What Unit makes is a Unit. -/
theorem unit_ok (a b c d : Int) : UnitQ (uV0 a b c d) (uV1 a b c d) (uV2 a b c d) (uV3 a b c d) := by
  unfold uV0 uV1 uV2 uV3
  rcases bool_cases (uZ a b c d) with h | h
  · rw [cond_t h, cond_t h, cond_t h, cond_t h]
    exact ⟨by omega, by omega, by omega, by omega, by unfold nearU n4; omega⟩
  · rw [cond_f h, cond_f h, cond_f h, cond_f h]
    have hp := uZ_pos h
    have sa := inS_sat a
    have sb := inS_sat b
    have sc := inS_sat c
    have sd := inS_sat d
    unfold uE
    generalize satV a = a at *
    generalize satV b = b at *
    generalize satV c = c at *
    generalize satV d = d at *
    obtain ⟨m0, mA, mB, mC, mD, m1, -⟩ := hyp4 sa sb sc sd hp
    refine second (dpass mA.1 mA.2 m0.1 m0.2).2.1 (dpass mB.1 mB.2 m0.1 m0.2).2.1 (dpass mC.1 mC.2 m0.1 m0.2).2.1 (dpass mD.1 mD.2 m0.1 m0.2).2.1 ?_
    exact pass1 m0.1 m0.2 mA mB mC mD m1
/-- A Unit's length. -/
theorem unit_len {a b c d : Int} (h : UnitQ a b c d) : 1073741822 ≤ hypV [a, b, c, d] ∧ hypV [a, b, c, d] ≤ 1073741826 := by
  obtain ⟨ha, hb, hc, hd, hn⟩ := h
  unfold nearU at hn
  obtain ⟨m0, -, -, -, -, m1, m2⟩ := hyp4 (inS_bd ha) (inS_bd hb) (inS_bd hc) (inS_bd hd) (by omega)
  have le := n4_le ha hb hc hd
  obtain ⟨m3, -⟩ := m2 (by omega)
  generalize hypV [a, b, c, d] = m at *
  generalize n4 a b c d = N at *
  constructor
  · rcases Int.lt_or_le m 1073741822 with g | g
    · exfalso
      have : m * m ≤ 1073741821 * 1073741821 := Int.mul_le_mul (by omega) (by omega) (by omega) (by omega)
      omega
    · exact g
  · rcases Int.lt_or_le 1073741826 m with g | g
    · exfalso
      have : 1073741827 * 1073741826 ≤ m * (m - 1) := Int.mul_le_mul (by omega) (by omega) (by omega) (by omega)
      have e : m * (m - 1) = m * m - m := by grind
      omega
    · exact g
theorem near_div {a n : Int} (ha : -1073741824 ≤ a ∧ a ≤ 1073741824) (h0 : a ≤ n ∧ -a ≤ n) (hn : 1073741822 ≤ n) (hn1 : n ≤ 1073741826) : -2 ≤ divPV a n 30 - a ∧ divPV a n 30 - a ≤ 2 := by
  have h := (dpass h0.1 h0.2 (by omega) (by omega)).1
  generalize divPV a n 30 = t at *
  have e : t * n - a * 1073741824 = (t - a) * n + a * (n - 1073741824) := by grind
  have p := prod_lt (a := a) (b := n - 1073741824) (k := 1073741824) (l := 2) (by unfold absV; split <;> omega) (by unfold absV; split <;> omega)
  rw [e] at h
  generalize a * (n - 1073741824) = w at *
  generalize t - a = x at *
  constructor
  · rcases Int.lt_or_le x (-2) with g | g
    · exfalso
      have : x * n ≤ -3 * n := Int.mul_le_mul_of_nonneg_right (by omega) (by omega)
      omega
    · exact g
  · rcases Int.lt_or_le 2 x with g | g
    · exfalso
      have : 3 * n ≤ x * n := Int.mul_le_mul_of_nonneg_right (by omega) (by omega)
      omega
    · exact g
/-- A pass over a Unit. -/
theorem unit_pass {a b c d : Int} (h : UnitQ a b c d) : UnitQ (divPV a (hypV [a, b, c, d]) 30) (divPV b (hypV [a, b, c, d]) 30) (divPV c (hypV [a, b, c, d]) 30) (divPV d (hypV [a, b, c, d]) 30) ∧
    (-2 ≤ divPV a (hypV [a, b, c, d]) 30 - a ∧ divPV a (hypV [a, b, c, d]) 30 - a ≤ 2) ∧ (-2 ≤ divPV b (hypV [a, b, c, d]) 30 - b ∧ divPV b (hypV [a, b, c, d]) 30 - b ≤ 2) ∧ (-2 ≤ divPV c (hypV [a, b, c, d]) 30 - c ∧ divPV c (hypV [a, b, c, d]) 30 - c ≤ 2) ∧ (-2 ≤ divPV d (hypV [a, b, c, d]) 30 - d ∧ divPV d (hypV [a, b, c, d]) 30 - d ≤ 2) := by
  have hl := unit_len h
  obtain ⟨ha, hb, hc, hd, hn⟩ := h
  unfold nearU at hn
  obtain ⟨m0, mA, mB, mC, mD, m1, m2⟩ := hyp4 (inS_bd ha) (inS_bd hb) (inS_bd hc) (inS_bd hd) (by omega)
  exact ⟨second ha hb hc hd (by omega), near_div ha mA hl.1 hl.2, near_div hb mB hl.1 hl.2, near_div hc mC hl.1 hl.2, near_div hd mD hl.1 hl.2⟩
/-- A Unit made a Unit again is near itself. -/
theorem unit_again {a b c d : Int} (h : UnitQ a b c d) : (-4 ≤ uV0 a b c d - a ∧ uV0 a b c d - a ≤ 4) ∧ (-4 ≤ uV1 a b c d - b ∧ uV1 a b c d - b ≤ 4) ∧ (-4 ≤ uV2 a b c d - c ∧ uV2 a b c d - c ≤ 4) ∧ (-4 ≤ uV3 a b c d - d ∧ uV3 a b c d - d ≤ 4) := by
  have hz : uZ a b c d = false := by
    rcases bool_cases (uZ a b c d) with g | g
    · exfalso
      have hn := h.hn
      unfold uZ at g
      simp only [Bool.and_eq_true, Bool.and_true, beq_iff_eq] at g
      obtain ⟨e0, e1, e2, e3⟩ := g
      have i0 := inS_bd h.ha
      have i1 := inS_bd h.hb
      have i2 := inS_bd h.hc
      have i3 := inS_bd h.hd
      rw [sat_in i0.1 i0.2] at e0
      rw [sat_in i1.1 i1.2] at e1
      rw [sat_in i2.1 i2.2] at e2
      rw [sat_in i3.1 i3.2] at e3
      subst e0 e1 e2 e3
      unfold nearU n4 at hn
      omega
    · exact g
  have i0 := inS_bd h.ha
  have i1 := inS_bd h.hb
  have i2 := inS_bd h.hc
  have i3 := inS_bd h.hd
  obtain ⟨p, a1, b1, c1, d1⟩ := unit_pass h
  obtain ⟨-, a2, b2, c2, d2⟩ := unit_pass p
  unfold uV0 uV1 uV2 uV3
  rw [cond_f hz, cond_f hz, cond_f hz, cond_f hz, sat_in i0.1 i0.2, sat_in i1.1 i1.2, sat_in i2.1 i2.2, sat_in i3.1 i3.2]
  unfold uE
  omega
end Go.Proofs.Ythfanchjkkeejaa

/- The law folder's awake, of chapter 22: its run. -/
namespace Go.Proofs.Ythfanchjkkeejaa
open Go.Lr
theorem runAwakeW : (runF Try.prog S24 Zc 4000 15 [] [] 0 []).map (fun r => (r.1, r.2.2.2)) = some (B true, []) := by kernel_rfl
theorem sumAwakeW : SumOK Try.prog 15 (pureSum trueF) := pureSum_const sound24 (own_of sound24 Try.func15 (by kernel_rfl)) runAwakeW
noncomputable def S32 : FuncId → Option SumK := more T30 15 (pureSum trueF)
theorem sound32 : Sound Try.prog S32 := soundT30.more sumAwakeW
end Go.Proofs.Ythfanchjkkeejaa

/- The law AirRows: its runs, and why they answer true. -/
namespace Go.Proofs.Ythfanchjkkeejaa
open Go.Lr Go.RowKit
set_option linter.unusedVariables false
set_option linter.unusedSimpArgs false

/-- What is asked of the numbers within bounds; the decisions. -/
def rgA : List Int → List (Bool × Bool)
  | [] => []
  | x :: l => (decide (x > 549755813888), false) :: (decide (x < -549755813888), false) :: (decide (x < -549755813888), false) :: (decide (x < -549755813888), false) :: (decide (x < -549755813888), false) :: (decide (x < -549755813888), false) :: rgA l
def rgD : Nat → List (Option Bool)
  | 0 => []
  | n + 1 => none :: some false :: some false :: some false :: some false :: some false :: some false :: rgD n
def inR (x : Int) : Prop := -549755813888 ≤ x ∧ x ≤ 549755813888
theorem rgA_ok : ∀ l : List Int, (∀ x ∈ l, inR x) → ∀ c ∈ rgA l, c.1 = c.2
  | [], _ => by simp [rgA]
  | x :: l, h => by
    have hx := h x (by simp)
    unfold inR at hx
    have h1 : decide (x < -549755813888) = false := by simp; omega
    have h2 : decide (x > 549755813888) = false := by simp; omega
    have hl := rgA_ok l fun y hy => h y (by simp [hy])
    unfold rgA
    rw [h1, h2]
    intro c hc
    simp only [List.mem_cons] at hc
    rcases hc with rfl | rfl | rfl | rfl | rfl | rfl | hc
    · rfl
    · rfl
    · rfl
    · rfl
    · rfl
    · rfl
    · exact hl c hc
theorem arL4 (s0 s1 s2 s3 s4 s5 s6 s7 s8 s9 s10 s11 s12 s13 s14 s15 s16 s17 s18 s19 s20 s21 s22 s23 v0 v1 : Int) : (runF Try.prog S32 Zl 4000 4 [.v (.agg [.int .i64 s0, .int .i64 s1, .int .i64 s2, .int .i64 s3, .int .i64 s4, .int .i64 s5, .int .i64 s6, .int .i64 s7, .int .i64 s8, .int .i64 s9, .int .i64 s10, .int .i64 s11, .int .i64 s12, .int .i64 s13, .int .i64 s14, .int .i64 s15, .int .i64 s16, .int .i64 s17, .int .i64 s18, .int .i64 s19, .int .i64 s20, .int .i64 s21, .int .i64 s22, .int .i64 s23]), .v (.agg [.int .i64 v0, .int .i64 v1])] [] 0 (none :: (rgD 0 ++ [none, some true, some true, some true, some true, some true]))).map (fun r => (r.1, r.2.2.2)) = some (.v (.one (.bool true)), [(decide (s4 < -549755813888), true), (decide (s4 < -549755813888), true), (decide (s4 < -549755813888), true), (decide (s4 < -549755813888), true), (decide (s4 < -549755813888), true)] ++ rgA []) := by kernel_rfl
theorem arG4 (s0 s1 s2 s3 s4 s5 s6 s7 s8 s9 s10 s11 s12 s13 s14 s15 s16 s17 s18 s19 s20 s21 s22 s23 v0 v1 : Int) : (runF Try.prog S32 Zl 4000 4 [.v (.agg [.int .i64 s0, .int .i64 s1, .int .i64 s2, .int .i64 s3, .int .i64 s4, .int .i64 s5, .int .i64 s6, .int .i64 s7, .int .i64 s8, .int .i64 s9, .int .i64 s10, .int .i64 s11, .int .i64 s12, .int .i64 s13, .int .i64 s14, .int .i64 s15, .int .i64 s16, .int .i64 s17, .int .i64 s18, .int .i64 s19, .int .i64 s20, .int .i64 s21, .int .i64 s22, .int .i64 s23]), .v (.agg [.int .i64 v0, .int .i64 v1])] [] 0 (none :: (rgD 0 ++ [none, some false, some false, some false, some false, some false, some true]))).map (fun r => (r.1, r.2.2.2)) = some (.v (.one (.bool true)), [(decide (s4 > 549755813888), true), (decide (s4 < -549755813888), false), (decide (s4 < -549755813888), false), (decide (s4 < -549755813888), false), (decide (s4 < -549755813888), false), (decide (s4 < -549755813888), false)] ++ rgA []) := by kernel_rfl
theorem arL5 (s0 s1 s2 s3 s4 s5 s6 s7 s8 s9 s10 s11 s12 s13 s14 s15 s16 s17 s18 s19 s20 s21 s22 s23 v0 v1 : Int) : (runF Try.prog S32 Zl 4000 4 [.v (.agg [.int .i64 s0, .int .i64 s1, .int .i64 s2, .int .i64 s3, .int .i64 s4, .int .i64 s5, .int .i64 s6, .int .i64 s7, .int .i64 s8, .int .i64 s9, .int .i64 s10, .int .i64 s11, .int .i64 s12, .int .i64 s13, .int .i64 s14, .int .i64 s15, .int .i64 s16, .int .i64 s17, .int .i64 s18, .int .i64 s19, .int .i64 s20, .int .i64 s21, .int .i64 s22, .int .i64 s23]), .v (.agg [.int .i64 v0, .int .i64 v1])] [] 0 (none :: (rgD 1 ++ [none, some true, some true, some true, some true, some true]))).map (fun r => (r.1, r.2.2.2)) = some (.v (.one (.bool true)), [(decide (s5 < -549755813888), true), (decide (s5 < -549755813888), true), (decide (s5 < -549755813888), true), (decide (s5 < -549755813888), true), (decide (s5 < -549755813888), true)] ++ rgA [s4]) := by kernel_rfl
theorem arG5 (s0 s1 s2 s3 s4 s5 s6 s7 s8 s9 s10 s11 s12 s13 s14 s15 s16 s17 s18 s19 s20 s21 s22 s23 v0 v1 : Int) : (runF Try.prog S32 Zl 4000 4 [.v (.agg [.int .i64 s0, .int .i64 s1, .int .i64 s2, .int .i64 s3, .int .i64 s4, .int .i64 s5, .int .i64 s6, .int .i64 s7, .int .i64 s8, .int .i64 s9, .int .i64 s10, .int .i64 s11, .int .i64 s12, .int .i64 s13, .int .i64 s14, .int .i64 s15, .int .i64 s16, .int .i64 s17, .int .i64 s18, .int .i64 s19, .int .i64 s20, .int .i64 s21, .int .i64 s22, .int .i64 s23]), .v (.agg [.int .i64 v0, .int .i64 v1])] [] 0 (none :: (rgD 1 ++ [none, some false, some false, some false, some false, some false, some true]))).map (fun r => (r.1, r.2.2.2)) = some (.v (.one (.bool true)), [(decide (s5 > 549755813888), true), (decide (s5 < -549755813888), false), (decide (s5 < -549755813888), false), (decide (s5 < -549755813888), false), (decide (s5 < -549755813888), false), (decide (s5 < -549755813888), false)] ++ rgA [s4]) := by kernel_rfl
theorem arL6 (s0 s1 s2 s3 s4 s5 s6 s7 s8 s9 s10 s11 s12 s13 s14 s15 s16 s17 s18 s19 s20 s21 s22 s23 v0 v1 : Int) : (runF Try.prog S32 Zl 4000 4 [.v (.agg [.int .i64 s0, .int .i64 s1, .int .i64 s2, .int .i64 s3, .int .i64 s4, .int .i64 s5, .int .i64 s6, .int .i64 s7, .int .i64 s8, .int .i64 s9, .int .i64 s10, .int .i64 s11, .int .i64 s12, .int .i64 s13, .int .i64 s14, .int .i64 s15, .int .i64 s16, .int .i64 s17, .int .i64 s18, .int .i64 s19, .int .i64 s20, .int .i64 s21, .int .i64 s22, .int .i64 s23]), .v (.agg [.int .i64 v0, .int .i64 v1])] [] 0 (none :: (rgD 2 ++ [none, some true, some true, some true, some true, some true]))).map (fun r => (r.1, r.2.2.2)) = some (.v (.one (.bool true)), [(decide (s6 < -549755813888), true), (decide (s6 < -549755813888), true), (decide (s6 < -549755813888), true), (decide (s6 < -549755813888), true), (decide (s6 < -549755813888), true)] ++ rgA [s5, s4]) := by kernel_rfl
theorem arG6 (s0 s1 s2 s3 s4 s5 s6 s7 s8 s9 s10 s11 s12 s13 s14 s15 s16 s17 s18 s19 s20 s21 s22 s23 v0 v1 : Int) : (runF Try.prog S32 Zl 4000 4 [.v (.agg [.int .i64 s0, .int .i64 s1, .int .i64 s2, .int .i64 s3, .int .i64 s4, .int .i64 s5, .int .i64 s6, .int .i64 s7, .int .i64 s8, .int .i64 s9, .int .i64 s10, .int .i64 s11, .int .i64 s12, .int .i64 s13, .int .i64 s14, .int .i64 s15, .int .i64 s16, .int .i64 s17, .int .i64 s18, .int .i64 s19, .int .i64 s20, .int .i64 s21, .int .i64 s22, .int .i64 s23]), .v (.agg [.int .i64 v0, .int .i64 v1])] [] 0 (none :: (rgD 2 ++ [none, some false, some false, some false, some false, some false, some true]))).map (fun r => (r.1, r.2.2.2)) = some (.v (.one (.bool true)), [(decide (s6 > 549755813888), true), (decide (s6 < -549755813888), false), (decide (s6 < -549755813888), false), (decide (s6 < -549755813888), false), (decide (s6 < -549755813888), false), (decide (s6 < -549755813888), false)] ++ rgA [s5, s4]) := by kernel_rfl
theorem arL7 (s0 s1 s2 s3 s4 s5 s6 s7 s8 s9 s10 s11 s12 s13 s14 s15 s16 s17 s18 s19 s20 s21 s22 s23 v0 v1 : Int) : (runF Try.prog S32 Zl 4000 4 [.v (.agg [.int .i64 s0, .int .i64 s1, .int .i64 s2, .int .i64 s3, .int .i64 s4, .int .i64 s5, .int .i64 s6, .int .i64 s7, .int .i64 s8, .int .i64 s9, .int .i64 s10, .int .i64 s11, .int .i64 s12, .int .i64 s13, .int .i64 s14, .int .i64 s15, .int .i64 s16, .int .i64 s17, .int .i64 s18, .int .i64 s19, .int .i64 s20, .int .i64 s21, .int .i64 s22, .int .i64 s23]), .v (.agg [.int .i64 v0, .int .i64 v1])] [] 0 (none :: (rgD 3 ++ [none, some true, some true, some true, some true, some true]))).map (fun r => (r.1, r.2.2.2)) = some (.v (.one (.bool true)), [(decide (s7 < -549755813888), true), (decide (s7 < -549755813888), true), (decide (s7 < -549755813888), true), (decide (s7 < -549755813888), true), (decide (s7 < -549755813888), true)] ++ rgA [s6, s5, s4]) := by kernel_rfl
theorem arG7 (s0 s1 s2 s3 s4 s5 s6 s7 s8 s9 s10 s11 s12 s13 s14 s15 s16 s17 s18 s19 s20 s21 s22 s23 v0 v1 : Int) : (runF Try.prog S32 Zl 4000 4 [.v (.agg [.int .i64 s0, .int .i64 s1, .int .i64 s2, .int .i64 s3, .int .i64 s4, .int .i64 s5, .int .i64 s6, .int .i64 s7, .int .i64 s8, .int .i64 s9, .int .i64 s10, .int .i64 s11, .int .i64 s12, .int .i64 s13, .int .i64 s14, .int .i64 s15, .int .i64 s16, .int .i64 s17, .int .i64 s18, .int .i64 s19, .int .i64 s20, .int .i64 s21, .int .i64 s22, .int .i64 s23]), .v (.agg [.int .i64 v0, .int .i64 v1])] [] 0 (none :: (rgD 3 ++ [none, some false, some false, some false, some false, some false, some true]))).map (fun r => (r.1, r.2.2.2)) = some (.v (.one (.bool true)), [(decide (s7 > 549755813888), true), (decide (s7 < -549755813888), false), (decide (s7 < -549755813888), false), (decide (s7 < -549755813888), false), (decide (s7 < -549755813888), false), (decide (s7 < -549755813888), false)] ++ rgA [s6, s5, s4]) := by kernel_rfl
theorem arL8 (s0 s1 s2 s3 s4 s5 s6 s7 s8 s9 s10 s11 s12 s13 s14 s15 s16 s17 s18 s19 s20 s21 s22 s23 v0 v1 : Int) : (runF Try.prog S32 Zl 4000 4 [.v (.agg [.int .i64 s0, .int .i64 s1, .int .i64 s2, .int .i64 s3, .int .i64 s4, .int .i64 s5, .int .i64 s6, .int .i64 s7, .int .i64 s8, .int .i64 s9, .int .i64 s10, .int .i64 s11, .int .i64 s12, .int .i64 s13, .int .i64 s14, .int .i64 s15, .int .i64 s16, .int .i64 s17, .int .i64 s18, .int .i64 s19, .int .i64 s20, .int .i64 s21, .int .i64 s22, .int .i64 s23]), .v (.agg [.int .i64 v0, .int .i64 v1])] [] 0 (none :: (rgD 4 ++ [none, some true, some true, some true, some true, some true]))).map (fun r => (r.1, r.2.2.2)) = some (.v (.one (.bool true)), [(decide (s8 < -549755813888), true), (decide (s8 < -549755813888), true), (decide (s8 < -549755813888), true), (decide (s8 < -549755813888), true), (decide (s8 < -549755813888), true)] ++ rgA [s7, s6, s5, s4]) := by kernel_rfl
theorem arG8 (s0 s1 s2 s3 s4 s5 s6 s7 s8 s9 s10 s11 s12 s13 s14 s15 s16 s17 s18 s19 s20 s21 s22 s23 v0 v1 : Int) : (runF Try.prog S32 Zl 4000 4 [.v (.agg [.int .i64 s0, .int .i64 s1, .int .i64 s2, .int .i64 s3, .int .i64 s4, .int .i64 s5, .int .i64 s6, .int .i64 s7, .int .i64 s8, .int .i64 s9, .int .i64 s10, .int .i64 s11, .int .i64 s12, .int .i64 s13, .int .i64 s14, .int .i64 s15, .int .i64 s16, .int .i64 s17, .int .i64 s18, .int .i64 s19, .int .i64 s20, .int .i64 s21, .int .i64 s22, .int .i64 s23]), .v (.agg [.int .i64 v0, .int .i64 v1])] [] 0 (none :: (rgD 4 ++ [none, some false, some false, some false, some false, some false, some true]))).map (fun r => (r.1, r.2.2.2)) = some (.v (.one (.bool true)), [(decide (s8 > 549755813888), true), (decide (s8 < -549755813888), false), (decide (s8 < -549755813888), false), (decide (s8 < -549755813888), false), (decide (s8 < -549755813888), false), (decide (s8 < -549755813888), false)] ++ rgA [s7, s6, s5, s4]) := by kernel_rfl
theorem arL9 (s0 s1 s2 s3 s4 s5 s6 s7 s8 s9 s10 s11 s12 s13 s14 s15 s16 s17 s18 s19 s20 s21 s22 s23 v0 v1 : Int) : (runF Try.prog S32 Zl 4000 4 [.v (.agg [.int .i64 s0, .int .i64 s1, .int .i64 s2, .int .i64 s3, .int .i64 s4, .int .i64 s5, .int .i64 s6, .int .i64 s7, .int .i64 s8, .int .i64 s9, .int .i64 s10, .int .i64 s11, .int .i64 s12, .int .i64 s13, .int .i64 s14, .int .i64 s15, .int .i64 s16, .int .i64 s17, .int .i64 s18, .int .i64 s19, .int .i64 s20, .int .i64 s21, .int .i64 s22, .int .i64 s23]), .v (.agg [.int .i64 v0, .int .i64 v1])] [] 0 (none :: (rgD 5 ++ [none, some true, some true, some true, some true, some true]))).map (fun r => (r.1, r.2.2.2)) = some (.v (.one (.bool true)), [(decide (s9 < -549755813888), true), (decide (s9 < -549755813888), true), (decide (s9 < -549755813888), true), (decide (s9 < -549755813888), true), (decide (s9 < -549755813888), true)] ++ rgA [s8, s7, s6, s5, s4]) := by kernel_rfl
theorem arG9 (s0 s1 s2 s3 s4 s5 s6 s7 s8 s9 s10 s11 s12 s13 s14 s15 s16 s17 s18 s19 s20 s21 s22 s23 v0 v1 : Int) : (runF Try.prog S32 Zl 4000 4 [.v (.agg [.int .i64 s0, .int .i64 s1, .int .i64 s2, .int .i64 s3, .int .i64 s4, .int .i64 s5, .int .i64 s6, .int .i64 s7, .int .i64 s8, .int .i64 s9, .int .i64 s10, .int .i64 s11, .int .i64 s12, .int .i64 s13, .int .i64 s14, .int .i64 s15, .int .i64 s16, .int .i64 s17, .int .i64 s18, .int .i64 s19, .int .i64 s20, .int .i64 s21, .int .i64 s22, .int .i64 s23]), .v (.agg [.int .i64 v0, .int .i64 v1])] [] 0 (none :: (rgD 5 ++ [none, some false, some false, some false, some false, some false, some true]))).map (fun r => (r.1, r.2.2.2)) = some (.v (.one (.bool true)), [(decide (s9 > 549755813888), true), (decide (s9 < -549755813888), false), (decide (s9 < -549755813888), false), (decide (s9 < -549755813888), false), (decide (s9 < -549755813888), false), (decide (s9 < -549755813888), false)] ++ rgA [s8, s7, s6, s5, s4]) := by kernel_rfl
theorem arL10 (s0 s1 s2 s3 s4 s5 s6 s7 s8 s9 s10 s11 s12 s13 s14 s15 s16 s17 s18 s19 s20 s21 s22 s23 v0 v1 : Int) : (runF Try.prog S32 Zl 4000 4 [.v (.agg [.int .i64 s0, .int .i64 s1, .int .i64 s2, .int .i64 s3, .int .i64 s4, .int .i64 s5, .int .i64 s6, .int .i64 s7, .int .i64 s8, .int .i64 s9, .int .i64 s10, .int .i64 s11, .int .i64 s12, .int .i64 s13, .int .i64 s14, .int .i64 s15, .int .i64 s16, .int .i64 s17, .int .i64 s18, .int .i64 s19, .int .i64 s20, .int .i64 s21, .int .i64 s22, .int .i64 s23]), .v (.agg [.int .i64 v0, .int .i64 v1])] [] 0 (none :: (rgD 6 ++ [none, some true, some true, some true, some true, some true]))).map (fun r => (r.1, r.2.2.2)) = some (.v (.one (.bool true)), [(decide (s10 < -549755813888), true), (decide (s10 < -549755813888), true), (decide (s10 < -549755813888), true), (decide (s10 < -549755813888), true), (decide (s10 < -549755813888), true)] ++ rgA [s9, s8, s7, s6, s5, s4]) := by kernel_rfl
theorem arG10 (s0 s1 s2 s3 s4 s5 s6 s7 s8 s9 s10 s11 s12 s13 s14 s15 s16 s17 s18 s19 s20 s21 s22 s23 v0 v1 : Int) : (runF Try.prog S32 Zl 4000 4 [.v (.agg [.int .i64 s0, .int .i64 s1, .int .i64 s2, .int .i64 s3, .int .i64 s4, .int .i64 s5, .int .i64 s6, .int .i64 s7, .int .i64 s8, .int .i64 s9, .int .i64 s10, .int .i64 s11, .int .i64 s12, .int .i64 s13, .int .i64 s14, .int .i64 s15, .int .i64 s16, .int .i64 s17, .int .i64 s18, .int .i64 s19, .int .i64 s20, .int .i64 s21, .int .i64 s22, .int .i64 s23]), .v (.agg [.int .i64 v0, .int .i64 v1])] [] 0 (none :: (rgD 6 ++ [none, some false, some false, some false, some false, some false, some true]))).map (fun r => (r.1, r.2.2.2)) = some (.v (.one (.bool true)), [(decide (s10 > 549755813888), true), (decide (s10 < -549755813888), false), (decide (s10 < -549755813888), false), (decide (s10 < -549755813888), false), (decide (s10 < -549755813888), false), (decide (s10 < -549755813888), false)] ++ rgA [s9, s8, s7, s6, s5, s4]) := by kernel_rfl
theorem arL11 (s0 s1 s2 s3 s4 s5 s6 s7 s8 s9 s10 s11 s12 s13 s14 s15 s16 s17 s18 s19 s20 s21 s22 s23 v0 v1 : Int) : (runF Try.prog S32 Zl 4000 4 [.v (.agg [.int .i64 s0, .int .i64 s1, .int .i64 s2, .int .i64 s3, .int .i64 s4, .int .i64 s5, .int .i64 s6, .int .i64 s7, .int .i64 s8, .int .i64 s9, .int .i64 s10, .int .i64 s11, .int .i64 s12, .int .i64 s13, .int .i64 s14, .int .i64 s15, .int .i64 s16, .int .i64 s17, .int .i64 s18, .int .i64 s19, .int .i64 s20, .int .i64 s21, .int .i64 s22, .int .i64 s23]), .v (.agg [.int .i64 v0, .int .i64 v1])] [] 0 (none :: (rgD 7 ++ [none, some true, some true, some true, some true, some true]))).map (fun r => (r.1, r.2.2.2)) = some (.v (.one (.bool true)), [(decide (s11 < -549755813888), true), (decide (s11 < -549755813888), true), (decide (s11 < -549755813888), true), (decide (s11 < -549755813888), true), (decide (s11 < -549755813888), true)] ++ rgA [s10, s9, s8, s7, s6, s5, s4]) := by kernel_rfl
theorem arG11 (s0 s1 s2 s3 s4 s5 s6 s7 s8 s9 s10 s11 s12 s13 s14 s15 s16 s17 s18 s19 s20 s21 s22 s23 v0 v1 : Int) : (runF Try.prog S32 Zl 4000 4 [.v (.agg [.int .i64 s0, .int .i64 s1, .int .i64 s2, .int .i64 s3, .int .i64 s4, .int .i64 s5, .int .i64 s6, .int .i64 s7, .int .i64 s8, .int .i64 s9, .int .i64 s10, .int .i64 s11, .int .i64 s12, .int .i64 s13, .int .i64 s14, .int .i64 s15, .int .i64 s16, .int .i64 s17, .int .i64 s18, .int .i64 s19, .int .i64 s20, .int .i64 s21, .int .i64 s22, .int .i64 s23]), .v (.agg [.int .i64 v0, .int .i64 v1])] [] 0 (none :: (rgD 7 ++ [none, some false, some false, some false, some false, some false, some true]))).map (fun r => (r.1, r.2.2.2)) = some (.v (.one (.bool true)), [(decide (s11 > 549755813888), true), (decide (s11 < -549755813888), false), (decide (s11 < -549755813888), false), (decide (s11 < -549755813888), false), (decide (s11 < -549755813888), false), (decide (s11 < -549755813888), false)] ++ rgA [s10, s9, s8, s7, s6, s5, s4]) := by kernel_rfl
theorem arL12 (s0 s1 s2 s3 s4 s5 s6 s7 s8 s9 s10 s11 s12 s13 s14 s15 s16 s17 s18 s19 s20 s21 s22 s23 v0 v1 : Int) : (runF Try.prog S32 Zl 4000 4 [.v (.agg [.int .i64 s0, .int .i64 s1, .int .i64 s2, .int .i64 s3, .int .i64 s4, .int .i64 s5, .int .i64 s6, .int .i64 s7, .int .i64 s8, .int .i64 s9, .int .i64 s10, .int .i64 s11, .int .i64 s12, .int .i64 s13, .int .i64 s14, .int .i64 s15, .int .i64 s16, .int .i64 s17, .int .i64 s18, .int .i64 s19, .int .i64 s20, .int .i64 s21, .int .i64 s22, .int .i64 s23]), .v (.agg [.int .i64 v0, .int .i64 v1])] [] 0 (none :: (rgD 8 ++ [none, some true, some true, some true, some true, some true]))).map (fun r => (r.1, r.2.2.2)) = some (.v (.one (.bool true)), [(decide (s12 < -549755813888), true), (decide (s12 < -549755813888), true), (decide (s12 < -549755813888), true), (decide (s12 < -549755813888), true), (decide (s12 < -549755813888), true)] ++ rgA [s11, s10, s9, s8, s7, s6, s5, s4]) := by kernel_rfl
theorem arG12 (s0 s1 s2 s3 s4 s5 s6 s7 s8 s9 s10 s11 s12 s13 s14 s15 s16 s17 s18 s19 s20 s21 s22 s23 v0 v1 : Int) : (runF Try.prog S32 Zl 4000 4 [.v (.agg [.int .i64 s0, .int .i64 s1, .int .i64 s2, .int .i64 s3, .int .i64 s4, .int .i64 s5, .int .i64 s6, .int .i64 s7, .int .i64 s8, .int .i64 s9, .int .i64 s10, .int .i64 s11, .int .i64 s12, .int .i64 s13, .int .i64 s14, .int .i64 s15, .int .i64 s16, .int .i64 s17, .int .i64 s18, .int .i64 s19, .int .i64 s20, .int .i64 s21, .int .i64 s22, .int .i64 s23]), .v (.agg [.int .i64 v0, .int .i64 v1])] [] 0 (none :: (rgD 8 ++ [none, some false, some false, some false, some false, some false, some true]))).map (fun r => (r.1, r.2.2.2)) = some (.v (.one (.bool true)), [(decide (s12 > 549755813888), true), (decide (s12 < -549755813888), false), (decide (s12 < -549755813888), false), (decide (s12 < -549755813888), false), (decide (s12 < -549755813888), false), (decide (s12 < -549755813888), false)] ++ rgA [s11, s10, s9, s8, s7, s6, s5, s4]) := by kernel_rfl
theorem arL13 (s0 s1 s2 s3 s4 s5 s6 s7 s8 s9 s10 s11 s12 s13 s14 s15 s16 s17 s18 s19 s20 s21 s22 s23 v0 v1 : Int) : (runF Try.prog S32 Zl 4000 4 [.v (.agg [.int .i64 s0, .int .i64 s1, .int .i64 s2, .int .i64 s3, .int .i64 s4, .int .i64 s5, .int .i64 s6, .int .i64 s7, .int .i64 s8, .int .i64 s9, .int .i64 s10, .int .i64 s11, .int .i64 s12, .int .i64 s13, .int .i64 s14, .int .i64 s15, .int .i64 s16, .int .i64 s17, .int .i64 s18, .int .i64 s19, .int .i64 s20, .int .i64 s21, .int .i64 s22, .int .i64 s23]), .v (.agg [.int .i64 v0, .int .i64 v1])] [] 0 (none :: (rgD 9 ++ [none, some true, some true, some true, some true, some true]))).map (fun r => (r.1, r.2.2.2)) = some (.v (.one (.bool true)), [(decide (s13 < -549755813888), true), (decide (s13 < -549755813888), true), (decide (s13 < -549755813888), true), (decide (s13 < -549755813888), true), (decide (s13 < -549755813888), true)] ++ rgA [s12, s11, s10, s9, s8, s7, s6, s5, s4]) := by kernel_rfl
theorem arG13 (s0 s1 s2 s3 s4 s5 s6 s7 s8 s9 s10 s11 s12 s13 s14 s15 s16 s17 s18 s19 s20 s21 s22 s23 v0 v1 : Int) : (runF Try.prog S32 Zl 4000 4 [.v (.agg [.int .i64 s0, .int .i64 s1, .int .i64 s2, .int .i64 s3, .int .i64 s4, .int .i64 s5, .int .i64 s6, .int .i64 s7, .int .i64 s8, .int .i64 s9, .int .i64 s10, .int .i64 s11, .int .i64 s12, .int .i64 s13, .int .i64 s14, .int .i64 s15, .int .i64 s16, .int .i64 s17, .int .i64 s18, .int .i64 s19, .int .i64 s20, .int .i64 s21, .int .i64 s22, .int .i64 s23]), .v (.agg [.int .i64 v0, .int .i64 v1])] [] 0 (none :: (rgD 9 ++ [none, some false, some false, some false, some false, some false, some true]))).map (fun r => (r.1, r.2.2.2)) = some (.v (.one (.bool true)), [(decide (s13 > 549755813888), true), (decide (s13 < -549755813888), false), (decide (s13 < -549755813888), false), (decide (s13 < -549755813888), false), (decide (s13 < -549755813888), false), (decide (s13 < -549755813888), false)] ++ rgA [s12, s11, s10, s9, s8, s7, s6, s5, s4]) := by kernel_rfl
theorem arL14 (s0 s1 s2 s3 s4 s5 s6 s7 s8 s9 s10 s11 s12 s13 s14 s15 s16 s17 s18 s19 s20 s21 s22 s23 v0 v1 : Int) : (runF Try.prog S32 Zl 4000 4 [.v (.agg [.int .i64 s0, .int .i64 s1, .int .i64 s2, .int .i64 s3, .int .i64 s4, .int .i64 s5, .int .i64 s6, .int .i64 s7, .int .i64 s8, .int .i64 s9, .int .i64 s10, .int .i64 s11, .int .i64 s12, .int .i64 s13, .int .i64 s14, .int .i64 s15, .int .i64 s16, .int .i64 s17, .int .i64 s18, .int .i64 s19, .int .i64 s20, .int .i64 s21, .int .i64 s22, .int .i64 s23]), .v (.agg [.int .i64 v0, .int .i64 v1])] [] 0 (none :: (rgD 10 ++ [none, some true, some true, some true, some true, some true]))).map (fun r => (r.1, r.2.2.2)) = some (.v (.one (.bool true)), [(decide (s14 < -549755813888), true), (decide (s14 < -549755813888), true), (decide (s14 < -549755813888), true), (decide (s14 < -549755813888), true), (decide (s14 < -549755813888), true)] ++ rgA [s13, s12, s11, s10, s9, s8, s7, s6, s5, s4]) := by kernel_rfl
theorem arG14 (s0 s1 s2 s3 s4 s5 s6 s7 s8 s9 s10 s11 s12 s13 s14 s15 s16 s17 s18 s19 s20 s21 s22 s23 v0 v1 : Int) : (runF Try.prog S32 Zl 4000 4 [.v (.agg [.int .i64 s0, .int .i64 s1, .int .i64 s2, .int .i64 s3, .int .i64 s4, .int .i64 s5, .int .i64 s6, .int .i64 s7, .int .i64 s8, .int .i64 s9, .int .i64 s10, .int .i64 s11, .int .i64 s12, .int .i64 s13, .int .i64 s14, .int .i64 s15, .int .i64 s16, .int .i64 s17, .int .i64 s18, .int .i64 s19, .int .i64 s20, .int .i64 s21, .int .i64 s22, .int .i64 s23]), .v (.agg [.int .i64 v0, .int .i64 v1])] [] 0 (none :: (rgD 10 ++ [none, some false, some false, some false, some false, some false, some true]))).map (fun r => (r.1, r.2.2.2)) = some (.v (.one (.bool true)), [(decide (s14 > 549755813888), true), (decide (s14 < -549755813888), false), (decide (s14 < -549755813888), false), (decide (s14 < -549755813888), false), (decide (s14 < -549755813888), false), (decide (s14 < -549755813888), false)] ++ rgA [s13, s12, s11, s10, s9, s8, s7, s6, s5, s4]) := by kernel_rfl
theorem arL15 (s0 s1 s2 s3 s4 s5 s6 s7 s8 s9 s10 s11 s12 s13 s14 s15 s16 s17 s18 s19 s20 s21 s22 s23 v0 v1 : Int) : (runF Try.prog S32 Zl 4000 4 [.v (.agg [.int .i64 s0, .int .i64 s1, .int .i64 s2, .int .i64 s3, .int .i64 s4, .int .i64 s5, .int .i64 s6, .int .i64 s7, .int .i64 s8, .int .i64 s9, .int .i64 s10, .int .i64 s11, .int .i64 s12, .int .i64 s13, .int .i64 s14, .int .i64 s15, .int .i64 s16, .int .i64 s17, .int .i64 s18, .int .i64 s19, .int .i64 s20, .int .i64 s21, .int .i64 s22, .int .i64 s23]), .v (.agg [.int .i64 v0, .int .i64 v1])] [] 0 (none :: (rgD 11 ++ [none, some true, some true, some true, some true, some true]))).map (fun r => (r.1, r.2.2.2)) = some (.v (.one (.bool true)), [(decide (s15 < -549755813888), true), (decide (s15 < -549755813888), true), (decide (s15 < -549755813888), true), (decide (s15 < -549755813888), true), (decide (s15 < -549755813888), true)] ++ rgA [s14, s13, s12, s11, s10, s9, s8, s7, s6, s5, s4]) := by kernel_rfl
theorem arG15 (s0 s1 s2 s3 s4 s5 s6 s7 s8 s9 s10 s11 s12 s13 s14 s15 s16 s17 s18 s19 s20 s21 s22 s23 v0 v1 : Int) : (runF Try.prog S32 Zl 4000 4 [.v (.agg [.int .i64 s0, .int .i64 s1, .int .i64 s2, .int .i64 s3, .int .i64 s4, .int .i64 s5, .int .i64 s6, .int .i64 s7, .int .i64 s8, .int .i64 s9, .int .i64 s10, .int .i64 s11, .int .i64 s12, .int .i64 s13, .int .i64 s14, .int .i64 s15, .int .i64 s16, .int .i64 s17, .int .i64 s18, .int .i64 s19, .int .i64 s20, .int .i64 s21, .int .i64 s22, .int .i64 s23]), .v (.agg [.int .i64 v0, .int .i64 v1])] [] 0 (none :: (rgD 11 ++ [none, some false, some false, some false, some false, some false, some true]))).map (fun r => (r.1, r.2.2.2)) = some (.v (.one (.bool true)), [(decide (s15 > 549755813888), true), (decide (s15 < -549755813888), false), (decide (s15 < -549755813888), false), (decide (s15 < -549755813888), false), (decide (s15 < -549755813888), false), (decide (s15 < -549755813888), false)] ++ rgA [s14, s13, s12, s11, s10, s9, s8, s7, s6, s5, s4]) := by kernel_rfl
theorem arL16 (s0 s1 s2 s3 s4 s5 s6 s7 s8 s9 s10 s11 s12 s13 s14 s15 s16 s17 s18 s19 s20 s21 s22 s23 v0 v1 : Int) : (runF Try.prog S32 Zl 4000 4 [.v (.agg [.int .i64 s0, .int .i64 s1, .int .i64 s2, .int .i64 s3, .int .i64 s4, .int .i64 s5, .int .i64 s6, .int .i64 s7, .int .i64 s8, .int .i64 s9, .int .i64 s10, .int .i64 s11, .int .i64 s12, .int .i64 s13, .int .i64 s14, .int .i64 s15, .int .i64 s16, .int .i64 s17, .int .i64 s18, .int .i64 s19, .int .i64 s20, .int .i64 s21, .int .i64 s22, .int .i64 s23]), .v (.agg [.int .i64 v0, .int .i64 v1])] [] 0 (none :: (rgD 12 ++ [none, some true, some true, some true, some true, some true]))).map (fun r => (r.1, r.2.2.2)) = some (.v (.one (.bool true)), [(decide (s16 < -549755813888), true), (decide (s16 < -549755813888), true), (decide (s16 < -549755813888), true), (decide (s16 < -549755813888), true), (decide (s16 < -549755813888), true)] ++ rgA [s15, s14, s13, s12, s11, s10, s9, s8, s7, s6, s5, s4]) := by kernel_rfl
theorem arG16 (s0 s1 s2 s3 s4 s5 s6 s7 s8 s9 s10 s11 s12 s13 s14 s15 s16 s17 s18 s19 s20 s21 s22 s23 v0 v1 : Int) : (runF Try.prog S32 Zl 4000 4 [.v (.agg [.int .i64 s0, .int .i64 s1, .int .i64 s2, .int .i64 s3, .int .i64 s4, .int .i64 s5, .int .i64 s6, .int .i64 s7, .int .i64 s8, .int .i64 s9, .int .i64 s10, .int .i64 s11, .int .i64 s12, .int .i64 s13, .int .i64 s14, .int .i64 s15, .int .i64 s16, .int .i64 s17, .int .i64 s18, .int .i64 s19, .int .i64 s20, .int .i64 s21, .int .i64 s22, .int .i64 s23]), .v (.agg [.int .i64 v0, .int .i64 v1])] [] 0 (none :: (rgD 12 ++ [none, some false, some false, some false, some false, some false, some true]))).map (fun r => (r.1, r.2.2.2)) = some (.v (.one (.bool true)), [(decide (s16 > 549755813888), true), (decide (s16 < -549755813888), false), (decide (s16 < -549755813888), false), (decide (s16 < -549755813888), false), (decide (s16 < -549755813888), false), (decide (s16 < -549755813888), false)] ++ rgA [s15, s14, s13, s12, s11, s10, s9, s8, s7, s6, s5, s4]) := by kernel_rfl
theorem arL17 (s0 s1 s2 s3 s4 s5 s6 s7 s8 s9 s10 s11 s12 s13 s14 s15 s16 s17 s18 s19 s20 s21 s22 s23 v0 v1 : Int) : (runF Try.prog S32 Zl 4000 4 [.v (.agg [.int .i64 s0, .int .i64 s1, .int .i64 s2, .int .i64 s3, .int .i64 s4, .int .i64 s5, .int .i64 s6, .int .i64 s7, .int .i64 s8, .int .i64 s9, .int .i64 s10, .int .i64 s11, .int .i64 s12, .int .i64 s13, .int .i64 s14, .int .i64 s15, .int .i64 s16, .int .i64 s17, .int .i64 s18, .int .i64 s19, .int .i64 s20, .int .i64 s21, .int .i64 s22, .int .i64 s23]), .v (.agg [.int .i64 v0, .int .i64 v1])] [] 0 (none :: (rgD 13 ++ [none, some true, some true, some true, some true, some true]))).map (fun r => (r.1, r.2.2.2)) = some (.v (.one (.bool true)), [(decide (s17 < -549755813888), true), (decide (s17 < -549755813888), true), (decide (s17 < -549755813888), true), (decide (s17 < -549755813888), true), (decide (s17 < -549755813888), true)] ++ rgA [s16, s15, s14, s13, s12, s11, s10, s9, s8, s7, s6, s5, s4]) := by kernel_rfl
theorem arG17 (s0 s1 s2 s3 s4 s5 s6 s7 s8 s9 s10 s11 s12 s13 s14 s15 s16 s17 s18 s19 s20 s21 s22 s23 v0 v1 : Int) : (runF Try.prog S32 Zl 4000 4 [.v (.agg [.int .i64 s0, .int .i64 s1, .int .i64 s2, .int .i64 s3, .int .i64 s4, .int .i64 s5, .int .i64 s6, .int .i64 s7, .int .i64 s8, .int .i64 s9, .int .i64 s10, .int .i64 s11, .int .i64 s12, .int .i64 s13, .int .i64 s14, .int .i64 s15, .int .i64 s16, .int .i64 s17, .int .i64 s18, .int .i64 s19, .int .i64 s20, .int .i64 s21, .int .i64 s22, .int .i64 s23]), .v (.agg [.int .i64 v0, .int .i64 v1])] [] 0 (none :: (rgD 13 ++ [none, some false, some false, some false, some false, some false, some true]))).map (fun r => (r.1, r.2.2.2)) = some (.v (.one (.bool true)), [(decide (s17 > 549755813888), true), (decide (s17 < -549755813888), false), (decide (s17 < -549755813888), false), (decide (s17 < -549755813888), false), (decide (s17 < -549755813888), false), (decide (s17 < -549755813888), false)] ++ rgA [s16, s15, s14, s13, s12, s11, s10, s9, s8, s7, s6, s5, s4]) := by kernel_rfl
theorem arL18 (s0 s1 s2 s3 s4 s5 s6 s7 s8 s9 s10 s11 s12 s13 s14 s15 s16 s17 s18 s19 s20 s21 s22 s23 v0 v1 : Int) : (runF Try.prog S32 Zl 4000 4 [.v (.agg [.int .i64 s0, .int .i64 s1, .int .i64 s2, .int .i64 s3, .int .i64 s4, .int .i64 s5, .int .i64 s6, .int .i64 s7, .int .i64 s8, .int .i64 s9, .int .i64 s10, .int .i64 s11, .int .i64 s12, .int .i64 s13, .int .i64 s14, .int .i64 s15, .int .i64 s16, .int .i64 s17, .int .i64 s18, .int .i64 s19, .int .i64 s20, .int .i64 s21, .int .i64 s22, .int .i64 s23]), .v (.agg [.int .i64 v0, .int .i64 v1])] [] 0 (none :: (rgD 14 ++ [none, some true, some true, some true, some true, some true]))).map (fun r => (r.1, r.2.2.2)) = some (.v (.one (.bool true)), [(decide (s18 < -549755813888), true), (decide (s18 < -549755813888), true), (decide (s18 < -549755813888), true), (decide (s18 < -549755813888), true), (decide (s18 < -549755813888), true)] ++ rgA [s17, s16, s15, s14, s13, s12, s11, s10, s9, s8, s7, s6, s5, s4]) := by kernel_rfl
theorem arG18 (s0 s1 s2 s3 s4 s5 s6 s7 s8 s9 s10 s11 s12 s13 s14 s15 s16 s17 s18 s19 s20 s21 s22 s23 v0 v1 : Int) : (runF Try.prog S32 Zl 4000 4 [.v (.agg [.int .i64 s0, .int .i64 s1, .int .i64 s2, .int .i64 s3, .int .i64 s4, .int .i64 s5, .int .i64 s6, .int .i64 s7, .int .i64 s8, .int .i64 s9, .int .i64 s10, .int .i64 s11, .int .i64 s12, .int .i64 s13, .int .i64 s14, .int .i64 s15, .int .i64 s16, .int .i64 s17, .int .i64 s18, .int .i64 s19, .int .i64 s20, .int .i64 s21, .int .i64 s22, .int .i64 s23]), .v (.agg [.int .i64 v0, .int .i64 v1])] [] 0 (none :: (rgD 14 ++ [none, some false, some false, some false, some false, some false, some true]))).map (fun r => (r.1, r.2.2.2)) = some (.v (.one (.bool true)), [(decide (s18 > 549755813888), true), (decide (s18 < -549755813888), false), (decide (s18 < -549755813888), false), (decide (s18 < -549755813888), false), (decide (s18 < -549755813888), false), (decide (s18 < -549755813888), false)] ++ rgA [s17, s16, s15, s14, s13, s12, s11, s10, s9, s8, s7, s6, s5, s4]) := by kernel_rfl
theorem arL19 (s0 s1 s2 s3 s4 s5 s6 s7 s8 s9 s10 s11 s12 s13 s14 s15 s16 s17 s18 s19 s20 s21 s22 s23 v0 v1 : Int) : (runF Try.prog S32 Zl 4000 4 [.v (.agg [.int .i64 s0, .int .i64 s1, .int .i64 s2, .int .i64 s3, .int .i64 s4, .int .i64 s5, .int .i64 s6, .int .i64 s7, .int .i64 s8, .int .i64 s9, .int .i64 s10, .int .i64 s11, .int .i64 s12, .int .i64 s13, .int .i64 s14, .int .i64 s15, .int .i64 s16, .int .i64 s17, .int .i64 s18, .int .i64 s19, .int .i64 s20, .int .i64 s21, .int .i64 s22, .int .i64 s23]), .v (.agg [.int .i64 v0, .int .i64 v1])] [] 0 (none :: (rgD 15 ++ [none, some true, some true, some true, some true, some true]))).map (fun r => (r.1, r.2.2.2)) = some (.v (.one (.bool true)), [(decide (s19 < -549755813888), true), (decide (s19 < -549755813888), true), (decide (s19 < -549755813888), true), (decide (s19 < -549755813888), true), (decide (s19 < -549755813888), true)] ++ rgA [s18, s17, s16, s15, s14, s13, s12, s11, s10, s9, s8, s7, s6, s5, s4]) := by kernel_rfl
theorem arG19 (s0 s1 s2 s3 s4 s5 s6 s7 s8 s9 s10 s11 s12 s13 s14 s15 s16 s17 s18 s19 s20 s21 s22 s23 v0 v1 : Int) : (runF Try.prog S32 Zl 4000 4 [.v (.agg [.int .i64 s0, .int .i64 s1, .int .i64 s2, .int .i64 s3, .int .i64 s4, .int .i64 s5, .int .i64 s6, .int .i64 s7, .int .i64 s8, .int .i64 s9, .int .i64 s10, .int .i64 s11, .int .i64 s12, .int .i64 s13, .int .i64 s14, .int .i64 s15, .int .i64 s16, .int .i64 s17, .int .i64 s18, .int .i64 s19, .int .i64 s20, .int .i64 s21, .int .i64 s22, .int .i64 s23]), .v (.agg [.int .i64 v0, .int .i64 v1])] [] 0 (none :: (rgD 15 ++ [none, some false, some false, some false, some false, some false, some true]))).map (fun r => (r.1, r.2.2.2)) = some (.v (.one (.bool true)), [(decide (s19 > 549755813888), true), (decide (s19 < -549755813888), false), (decide (s19 < -549755813888), false), (decide (s19 < -549755813888), false), (decide (s19 < -549755813888), false), (decide (s19 < -549755813888), false)] ++ rgA [s18, s17, s16, s15, s14, s13, s12, s11, s10, s9, s8, s7, s6, s5, s4]) := by kernel_rfl
theorem arL20 (s0 s1 s2 s3 s4 s5 s6 s7 s8 s9 s10 s11 s12 s13 s14 s15 s16 s17 s18 s19 s20 s21 s22 s23 v0 v1 : Int) : (runF Try.prog S32 Zl 4000 4 [.v (.agg [.int .i64 s0, .int .i64 s1, .int .i64 s2, .int .i64 s3, .int .i64 s4, .int .i64 s5, .int .i64 s6, .int .i64 s7, .int .i64 s8, .int .i64 s9, .int .i64 s10, .int .i64 s11, .int .i64 s12, .int .i64 s13, .int .i64 s14, .int .i64 s15, .int .i64 s16, .int .i64 s17, .int .i64 s18, .int .i64 s19, .int .i64 s20, .int .i64 s21, .int .i64 s22, .int .i64 s23]), .v (.agg [.int .i64 v0, .int .i64 v1])] [] 0 (none :: (rgD 16 ++ [none, some true, some true, some true, some true, some true]))).map (fun r => (r.1, r.2.2.2)) = some (.v (.one (.bool true)), [(decide (s20 < -549755813888), true), (decide (s20 < -549755813888), true), (decide (s20 < -549755813888), true), (decide (s20 < -549755813888), true), (decide (s20 < -549755813888), true)] ++ rgA [s19, s18, s17, s16, s15, s14, s13, s12, s11, s10, s9, s8, s7, s6, s5, s4]) := by kernel_rfl
theorem arG20 (s0 s1 s2 s3 s4 s5 s6 s7 s8 s9 s10 s11 s12 s13 s14 s15 s16 s17 s18 s19 s20 s21 s22 s23 v0 v1 : Int) : (runF Try.prog S32 Zl 4000 4 [.v (.agg [.int .i64 s0, .int .i64 s1, .int .i64 s2, .int .i64 s3, .int .i64 s4, .int .i64 s5, .int .i64 s6, .int .i64 s7, .int .i64 s8, .int .i64 s9, .int .i64 s10, .int .i64 s11, .int .i64 s12, .int .i64 s13, .int .i64 s14, .int .i64 s15, .int .i64 s16, .int .i64 s17, .int .i64 s18, .int .i64 s19, .int .i64 s20, .int .i64 s21, .int .i64 s22, .int .i64 s23]), .v (.agg [.int .i64 v0, .int .i64 v1])] [] 0 (none :: (rgD 16 ++ [none, some false, some false, some false, some false, some false, some true]))).map (fun r => (r.1, r.2.2.2)) = some (.v (.one (.bool true)), [(decide (s20 > 549755813888), true), (decide (s20 < -549755813888), false), (decide (s20 < -549755813888), false), (decide (s20 < -549755813888), false), (decide (s20 < -549755813888), false), (decide (s20 < -549755813888), false)] ++ rgA [s19, s18, s17, s16, s15, s14, s13, s12, s11, s10, s9, s8, s7, s6, s5, s4]) := by kernel_rfl
theorem arL21 (s0 s1 s2 s3 s4 s5 s6 s7 s8 s9 s10 s11 s12 s13 s14 s15 s16 s17 s18 s19 s20 s21 s22 s23 v0 v1 : Int) : (runF Try.prog S32 Zl 4000 4 [.v (.agg [.int .i64 s0, .int .i64 s1, .int .i64 s2, .int .i64 s3, .int .i64 s4, .int .i64 s5, .int .i64 s6, .int .i64 s7, .int .i64 s8, .int .i64 s9, .int .i64 s10, .int .i64 s11, .int .i64 s12, .int .i64 s13, .int .i64 s14, .int .i64 s15, .int .i64 s16, .int .i64 s17, .int .i64 s18, .int .i64 s19, .int .i64 s20, .int .i64 s21, .int .i64 s22, .int .i64 s23]), .v (.agg [.int .i64 v0, .int .i64 v1])] [] 0 (none :: (rgD 17 ++ [none, some true, some true, some true, some true, some true]))).map (fun r => (r.1, r.2.2.2)) = some (.v (.one (.bool true)), [(decide (s21 < -549755813888), true), (decide (s21 < -549755813888), true), (decide (s21 < -549755813888), true), (decide (s21 < -549755813888), true), (decide (s21 < -549755813888), true)] ++ rgA [s20, s19, s18, s17, s16, s15, s14, s13, s12, s11, s10, s9, s8, s7, s6, s5, s4]) := by kernel_rfl
theorem arG21 (s0 s1 s2 s3 s4 s5 s6 s7 s8 s9 s10 s11 s12 s13 s14 s15 s16 s17 s18 s19 s20 s21 s22 s23 v0 v1 : Int) : (runF Try.prog S32 Zl 4000 4 [.v (.agg [.int .i64 s0, .int .i64 s1, .int .i64 s2, .int .i64 s3, .int .i64 s4, .int .i64 s5, .int .i64 s6, .int .i64 s7, .int .i64 s8, .int .i64 s9, .int .i64 s10, .int .i64 s11, .int .i64 s12, .int .i64 s13, .int .i64 s14, .int .i64 s15, .int .i64 s16, .int .i64 s17, .int .i64 s18, .int .i64 s19, .int .i64 s20, .int .i64 s21, .int .i64 s22, .int .i64 s23]), .v (.agg [.int .i64 v0, .int .i64 v1])] [] 0 (none :: (rgD 17 ++ [none, some false, some false, some false, some false, some false, some true]))).map (fun r => (r.1, r.2.2.2)) = some (.v (.one (.bool true)), [(decide (s21 > 549755813888), true), (decide (s21 < -549755813888), false), (decide (s21 < -549755813888), false), (decide (s21 < -549755813888), false), (decide (s21 < -549755813888), false), (decide (s21 < -549755813888), false)] ++ rgA [s20, s19, s18, s17, s16, s15, s14, s13, s12, s11, s10, s9, s8, s7, s6, s5, s4]) := by kernel_rfl
theorem arL22 (s0 s1 s2 s3 s4 s5 s6 s7 s8 s9 s10 s11 s12 s13 s14 s15 s16 s17 s18 s19 s20 s21 s22 s23 v0 v1 : Int) : (runF Try.prog S32 Zl 4000 4 [.v (.agg [.int .i64 s0, .int .i64 s1, .int .i64 s2, .int .i64 s3, .int .i64 s4, .int .i64 s5, .int .i64 s6, .int .i64 s7, .int .i64 s8, .int .i64 s9, .int .i64 s10, .int .i64 s11, .int .i64 s12, .int .i64 s13, .int .i64 s14, .int .i64 s15, .int .i64 s16, .int .i64 s17, .int .i64 s18, .int .i64 s19, .int .i64 s20, .int .i64 s21, .int .i64 s22, .int .i64 s23]), .v (.agg [.int .i64 v0, .int .i64 v1])] [] 0 (none :: (rgD 18 ++ [none, some true, some true, some true, some true, some true]))).map (fun r => (r.1, r.2.2.2)) = some (.v (.one (.bool true)), [(decide (s22 < -549755813888), true), (decide (s22 < -549755813888), true), (decide (s22 < -549755813888), true), (decide (s22 < -549755813888), true), (decide (s22 < -549755813888), true)] ++ rgA [s21, s20, s19, s18, s17, s16, s15, s14, s13, s12, s11, s10, s9, s8, s7, s6, s5, s4]) := by kernel_rfl
theorem arG22 (s0 s1 s2 s3 s4 s5 s6 s7 s8 s9 s10 s11 s12 s13 s14 s15 s16 s17 s18 s19 s20 s21 s22 s23 v0 v1 : Int) : (runF Try.prog S32 Zl 4000 4 [.v (.agg [.int .i64 s0, .int .i64 s1, .int .i64 s2, .int .i64 s3, .int .i64 s4, .int .i64 s5, .int .i64 s6, .int .i64 s7, .int .i64 s8, .int .i64 s9, .int .i64 s10, .int .i64 s11, .int .i64 s12, .int .i64 s13, .int .i64 s14, .int .i64 s15, .int .i64 s16, .int .i64 s17, .int .i64 s18, .int .i64 s19, .int .i64 s20, .int .i64 s21, .int .i64 s22, .int .i64 s23]), .v (.agg [.int .i64 v0, .int .i64 v1])] [] 0 (none :: (rgD 18 ++ [none, some false, some false, some false, some false, some false, some true]))).map (fun r => (r.1, r.2.2.2)) = some (.v (.one (.bool true)), [(decide (s22 > 549755813888), true), (decide (s22 < -549755813888), false), (decide (s22 < -549755813888), false), (decide (s22 < -549755813888), false), (decide (s22 < -549755813888), false), (decide (s22 < -549755813888), false)] ++ rgA [s21, s20, s19, s18, s17, s16, s15, s14, s13, s12, s11, s10, s9, s8, s7, s6, s5, s4]) := by kernel_rfl
theorem arL23 (s0 s1 s2 s3 s4 s5 s6 s7 s8 s9 s10 s11 s12 s13 s14 s15 s16 s17 s18 s19 s20 s21 s22 s23 v0 v1 : Int) : (runF Try.prog S32 Zl 4000 4 [.v (.agg [.int .i64 s0, .int .i64 s1, .int .i64 s2, .int .i64 s3, .int .i64 s4, .int .i64 s5, .int .i64 s6, .int .i64 s7, .int .i64 s8, .int .i64 s9, .int .i64 s10, .int .i64 s11, .int .i64 s12, .int .i64 s13, .int .i64 s14, .int .i64 s15, .int .i64 s16, .int .i64 s17, .int .i64 s18, .int .i64 s19, .int .i64 s20, .int .i64 s21, .int .i64 s22, .int .i64 s23]), .v (.agg [.int .i64 v0, .int .i64 v1])] [] 0 (none :: (rgD 19 ++ [none, some true, some true, some true, some true, some true]))).map (fun r => (r.1, r.2.2.2)) = some (.v (.one (.bool true)), [(decide (s23 < -549755813888), true), (decide (s23 < -549755813888), true), (decide (s23 < -549755813888), true), (decide (s23 < -549755813888), true), (decide (s23 < -549755813888), true)] ++ rgA [s22, s21, s20, s19, s18, s17, s16, s15, s14, s13, s12, s11, s10, s9, s8, s7, s6, s5, s4]) := by kernel_rfl
theorem arG23 (s0 s1 s2 s3 s4 s5 s6 s7 s8 s9 s10 s11 s12 s13 s14 s15 s16 s17 s18 s19 s20 s21 s22 s23 v0 v1 : Int) : (runF Try.prog S32 Zl 4000 4 [.v (.agg [.int .i64 s0, .int .i64 s1, .int .i64 s2, .int .i64 s3, .int .i64 s4, .int .i64 s5, .int .i64 s6, .int .i64 s7, .int .i64 s8, .int .i64 s9, .int .i64 s10, .int .i64 s11, .int .i64 s12, .int .i64 s13, .int .i64 s14, .int .i64 s15, .int .i64 s16, .int .i64 s17, .int .i64 s18, .int .i64 s19, .int .i64 s20, .int .i64 s21, .int .i64 s22, .int .i64 s23]), .v (.agg [.int .i64 v0, .int .i64 v1])] [] 0 (none :: (rgD 19 ++ [none, some false, some false, some false, some false, some false, some true]))).map (fun r => (r.1, r.2.2.2)) = some (.v (.one (.bool true)), [(decide (s23 > 549755813888), true), (decide (s23 < -549755813888), false), (decide (s23 < -549755813888), false), (decide (s23 < -549755813888), false), (decide (s23 < -549755813888), false), (decide (s23 < -549755813888), false)] ++ rgA [s22, s21, s20, s19, s18, s17, s16, s15, s14, s13, s12, s11, s10, s9, s8, s7, s6, s5, s4]) := by kernel_rfl
def arN (s4 s5 s6 s22 s23 : Int) : Int := hypV [subV s4 s22, subV s5 s23, subV s6 0]
def arM (s4 s5 s6 s22 s23 : Int) : Int := wr IntKind.i64 (hypV [divPV (subV s4 s22) (arN s4 s5 s6 s22 s23) 30, divPV (subV s5 s23) (arN s4 s5 s6 s22 s23) 30, divPV (subV s6 0) (arN s4 s5 s6 s22 s23) 30] - 1073741824)
theorem arS (s0 s1 s2 s3 s4 s5 s6 s7 s8 s9 s10 s11 s12 s13 s14 s15 s16 s17 s18 s19 s20 s21 s22 s23 v0 v1 : Int) : (runF Try.prog S32 Zl 4000 4 [.v (.agg [.int .i64 s0, .int .i64 s1, .int .i64 s2, .int .i64 s3, .int .i64 s4, .int .i64 s5, .int .i64 s6, .int .i64 s7, .int .i64 s8, .int .i64 s9, .int .i64 s10, .int .i64 s11, .int .i64 s12, .int .i64 s13, .int .i64 s14, .int .i64 s15, .int .i64 s16, .int .i64 s17, .int .i64 s18, .int .i64 s19, .int .i64 s20, .int .i64 s21, .int .i64 s22, .int .i64 s23]), .v (.agg [.int .i64 v0, .int .i64 v1])] [] 0 (none :: (rgD 20 ++ [none, some true]))).map (fun r => (r.1, r.2.2.2)) = some (.v (.one (.bool true)), [(decide (arN s4 s5 s6 s22 s23 < 1073741824), true)] ++ rgA [s23, s22, s21, s20, s19, s18, s17, s16, s15, s14, s13, s12, s11, s10, s9, s8, s7, s6, s5, s4]) := by kernel_rfl
theorem arR (s0 s1 s2 s3 s4 s5 s6 s7 s8 s9 s10 s11 s12 s13 s14 s15 s16 s17 s18 s19 s20 s21 s22 s23 v0 v1 : Int) : (runF Try.prog S32 Zl 4000 4 [.v (.agg [.int .i64 s0, .int .i64 s1, .int .i64 s2, .int .i64 s3, .int .i64 s4, .int .i64 s5, .int .i64 s6, .int .i64 s7, .int .i64 s8, .int .i64 s9, .int .i64 s10, .int .i64 s11, .int .i64 s12, .int .i64 s13, .int .i64 s14, .int .i64 s15, .int .i64 s16, .int .i64 s17, .int .i64 s18, .int .i64 s19, .int .i64 s20, .int .i64 s21, .int .i64 s22, .int .i64 s23]), .v (.agg [.int .i64 v0, .int .i64 v1])] [] 0 (none :: (rgD 20 ++ [none, some false, none, none, none, none, none, none, none, none, none, none, none, none, some true, some true, some true, some true, some true, some true, some true, some true, some true, some true, some true, some true, some true, some true, some true, some true, some true, some true, some true, some true, some true]))).map (fun r => (r.1, r.2.2.2)) = some (.v (.one (.bool ((wr IntKind.i64 (0 - divPV (subV s5 s23) (arN s4 s5 s6 s22 s23) 30)) == (wr IntKind.i64 (0 - divPV (subV s5 s23) (arN s4 s5 s6 s22 s23) 30))))), [((wr IntKind.i64 (0 - divPV (subV s4 s22) (arN s4 s5 s6 s22 s23) 30)) == (wr IntKind.i64 (0 - divPV (subV s4 s22) (arN s4 s5 s6 s22 s23) 30)), true), ((wr IntKind.i64 (0 - divPV (subV s4 s22) (arN s4 s5 s6 s22 s23) 30)) == (wr IntKind.i64 (0 - divPV (subV s4 s22) (arN s4 s5 s6 s22 s23) 30)), true), ((wr IntKind.i64 (0 - divPV (subV s4 s22) (arN s4 s5 s6 s22 s23) 30)) == (wr IntKind.i64 (0 - divPV (subV s4 s22) (arN s4 s5 s6 s22 s23) 30)), true), ((wr IntKind.i64 (0 - divPV (subV s4 s22) (arN s4 s5 s6 s22 s23) 30)) == (wr IntKind.i64 (0 - divPV (subV s4 s22) (arN s4 s5 s6 s22 s23) 30)), true), ((wr IntKind.i64 (0 - divPV (subV s4 s22) (arN s4 s5 s6 s22 s23) 30)) == (wr IntKind.i64 (0 - divPV (subV s4 s22) (arN s4 s5 s6 s22 s23) 30)), true), ((wr IntKind.i64 (0 - divPV (subV s4 s22) (arN s4 s5 s6 s22 s23) 30)) == (wr IntKind.i64 (0 - divPV (subV s4 s22) (arN s4 s5 s6 s22 s23) 30)), true), ((wr IntKind.i64 (0 - divPV (subV s4 s22) (arN s4 s5 s6 s22 s23) 30)) == (wr IntKind.i64 (0 - divPV (subV s4 s22) (arN s4 s5 s6 s22 s23) 30)), true), ((wr IntKind.i64 (0 - divPV (subV s4 s22) (arN s4 s5 s6 s22 s23) 30)) == (wr IntKind.i64 (0 - divPV (subV s4 s22) (arN s4 s5 s6 s22 s23) 30)), true), ((wr IntKind.i64 (0 - divPV (subV s4 s22) (arN s4 s5 s6 s22 s23) 30)) == (wr IntKind.i64 (0 - divPV (subV s4 s22) (arN s4 s5 s6 s22 s23) 30)), true), (decide (arM s4 s5 s6 s22 s23 ≥ -8), true), (decide (arM s4 s5 s6 s22 s23 ≥ -8), true), (decide (arM s4 s5 s6 s22 s23 ≥ -8), true), (decide (arM s4 s5 s6 s22 s23 ≥ -8), true), (decide (arM s4 s5 s6 s22 s23 ≥ -8), true), (decide (arM s4 s5 s6 s22 s23 ≥ -8), true), (decide (arM s4 s5 s6 s22 s23 ≥ -8), true), (decide (arM s4 s5 s6 s22 s23 ≥ -8), true), (decide (arM s4 s5 s6 s22 s23 ≥ -8), true), (decide (arM s4 s5 s6 s22 s23 ≤ 8), true), (decide (arM s4 s5 s6 s22 s23 ≤ 8), true), (decide (arM s4 s5 s6 s22 s23 ≤ 8), true), (decide (arN s4 s5 s6 s22 s23 < 1073741824), false)] ++ rgA [s23, s22, s21, s20, s19, s18, s17, s16, s15, s14, s13, s12, s11, s10, s9, s8, s7, s6, s5, s4]) := by kernel_rfl
-- @@run
theorem hyp_z3 (a b c : Int) : hypV [a, b, c] = hypV [a, b, c, 0] := by
  have s0 : satV 0 = 0 := by rw [sat_in (by omega) (by omega)]
  unfold hypV
  rw [sqS3, sqS4, s0]
  congr 2
  omega
theorem div_z0 (d : Int) : divPV 0 d 30 = 0 := by
  have e : pow2 (Int.toNat 30) = 1073741824 := rfl
  have s0 : satV 0 = 0 := by rw [sat_in (by omega) (by omega)]
  unfold divPV byV
  rw [if_neg (by decide), if_neg (by decide), e, s0, Int.zero_mul]
  by_cases h : satV d = 0
  · rw [if_pos h, if_pos rfl]
  · rw [if_neg h]
    unfold divV
    have : quoR (absV 0) (absV (satV d)) = 0 := by
      rw [show absV 0 = 0 from rfl]
      exact quoR_zero (by unfold absV; split <;> omega)
    rw [this]
    have g : ∀ b : Bool, sgn b 0 = 0 := by intro b; cases b <;> rfl
    rw [g, s0]
theorem sub_r {a b : Int} (ha : inR a) (hb : inR b) : -1099511627776 ≤ subV a b ∧ subV a b ≤ 1099511627776 := by
  unfold inR at *
  unfold subV
  rw [sat_in (a := a) (by omega) (by omega), sat_in (a := b) (by omega) (by omega), sat_in (by omega) (by omega)]
  omega
theorem ar_all {s4 s5 s6 s22 s23 : Int} (h4 : inR s4) (h5 : inR s5) (h6 : inR s6) (h22 : inR s22) (h23 : inR s23) (hn : 1073741824 ≤ arN s4 s5 s6 s22 s23) :
    -8 ≤ arM s4 s5 s6 s22 s23 ∧ arM s4 s5 s6 s22 s23 ≤ 8 := by
  have x0 := sub_r h4 h22
  have x1 := sub_r h5 h23
  have x2 := sub_r h6 (show inR 0 by unfold inR; omega)
  unfold arM
  unfold arN at *
  generalize subV s4 s22 = a at *
  generalize subV s5 s23 = b at *
  generalize subV s6 0 = c at *
  rw [hyp_z3 a b c] at *
  have sq : ∀ x : Int, -1099511627776 ≤ x ∧ x ≤ 1099511627776 → x * x ≤ 1208925819614629174706176 := by
    intro x hx
    exact (prod_lt (a := x) (b := x) (k := 1099511627776) (l := 1099511627776) (by unfold absV; split <;> omega) (by unfold absV; split <;> omega)).2
  have inS_b : ∀ x : Int, -1099511627776 ≤ x ∧ x ≤ 1099511627776 → inS x := by intro x hx; unfold inS; omega
  have i0 : inS 0 := by unfold inS; omega
  have hp : 1 ≤ n4 a b c 0 := by
    refine n4_pos fun ⟨e0, e1, e2, e3⟩ => ?_
    subst e0 e1 e2
    have : hypV [0, 0, 0, 0] = 0 := by kernel_rfl
    omega
  obtain ⟨m0, mA, mB, mC, mD, m1, m2⟩ := hyp4 (inS_b a x0) (inS_b b x1) (inS_b c x2) i0 hp
  have q0 := sq a x0
  have q1 := sq b x1
  have q2 := sq c x2
  obtain ⟨m3, -⟩ := m2 (by unfold n4; omega)
  have p := pass2 (by omega) m0.2 mA mB mC mD m1 m3
  have u : UnitQ (divPV a (hypV [a, b, c, 0]) 30) (divPV b (hypV [a, b, c, 0]) 30) (divPV c (hypV [a, b, c, 0]) 30) (divPV 0 (hypV [a, b, c, 0]) 30) :=
    ⟨(dpass mA.1 mA.2 m0.1 m0.2).2.1, (dpass mB.1 mB.2 m0.1 m0.2).2.1, (dpass mC.1 mC.2 m0.1 m0.2).2.1, (dpass mD.1 mD.2 m0.1 m0.2).2.1, p⟩
  rw [div_z0] at u
  have l := unit_len u
  rw [hyp_z3 (divPV a (hypV [a, b, c, 0]) 30)]
  generalize hypV [divPV a (hypV [a, b, c, 0]) 30, divPV b (hypV [a, b, c, 0]) 30, divPV c (hypV [a, b, c, 0]) 30, 0] = k at *
  rw [wr_i, w64_in (by omega) (by omega)]
  omega
theorem ap_ok {l m : List (Bool × Bool)} (h : ∀ c ∈ l, c.1 = c.2) (g : ∀ c ∈ m, c.1 = c.2) : ∀ c ∈ l ++ m, c.1 = c.2 := by
  intro c hc
  rcases List.mem_append.1 hc with k | k
  · exact h c k
  · exact g c k
theorem lawAirRows (s0 s1 s2 s3 s4 s5 s6 s7 s8 s9 s10 s11 s12 s13 s14 s15 s16 s17 s18 s19 s20 s21 s22 s23 v0 v1 : Int) (w : World) :
    Calls Try.prog 4 ([.v (.agg [.int .i64 s0, .int .i64 s1, .int .i64 s2, .int .i64 s3, .int .i64 s4, .int .i64 s5, .int .i64 s6, .int .i64 s7, .int .i64 s8, .int .i64 s9, .int .i64 s10, .int .i64 s11, .int .i64 s12, .int .i64 s13, .int .i64 s14, .int .i64 s15, .int .i64 s16, .int .i64 s17, .int .i64 s18, .int .i64 s19, .int .i64 s20, .int .i64 s21, .int .i64 s22, .int .i64 s23]), .v (.agg [.int .i64 v0, .int .i64 v1])].map (LV.den E0)).toArray w fun e w' => e = .returned (.bool true) ∧ Below w.heap.size w w' := by
  have g4 := rgA_ok [] (fun x hx => by cases hx)
  rcases bool_cases (decide (s4 < -549755813888)) with l4 | l4
  · exact law_true sound32 (arL4 s0 s1 s2 s3 s4 s5 s6 s7 s8 s9 s10 s11 s12 s13 s14 s15 s16 s17 s18 s19 s20 s21 s22 s23 v0 v1) rfl (ap_ok (by rw [l4]; simp) g4) rfl w
  rcases bool_cases (decide (s4 > 549755813888)) with u4 | u4
  · exact law_true sound32 (arG4 s0 s1 s2 s3 s4 s5 s6 s7 s8 s9 s10 s11 s12 s13 s14 s15 s16 s17 s18 s19 s20 s21 s22 s23 v0 v1) rfl (ap_ok (by rw [l4, u4]; simp) g4) rfl w
  have h4 : inR s4 := ⟨by simpa using l4, by simpa using u4⟩
  have g5 := rgA_ok [s4] (fun x hx => by simp only [List.mem_cons, List.mem_nil_iff, or_false] at hx; rcases hx with rfl <;> assumption)
  rcases bool_cases (decide (s5 < -549755813888)) with l5 | l5
  · exact law_true sound32 (arL5 s0 s1 s2 s3 s4 s5 s6 s7 s8 s9 s10 s11 s12 s13 s14 s15 s16 s17 s18 s19 s20 s21 s22 s23 v0 v1) rfl (ap_ok (by rw [l5]; simp) g5) rfl w
  rcases bool_cases (decide (s5 > 549755813888)) with u5 | u5
  · exact law_true sound32 (arG5 s0 s1 s2 s3 s4 s5 s6 s7 s8 s9 s10 s11 s12 s13 s14 s15 s16 s17 s18 s19 s20 s21 s22 s23 v0 v1) rfl (ap_ok (by rw [l5, u5]; simp) g5) rfl w
  have h5 : inR s5 := ⟨by simpa using l5, by simpa using u5⟩
  have g6 := rgA_ok [s5, s4] (fun x hx => by simp only [List.mem_cons, List.mem_nil_iff, or_false] at hx; rcases hx with rfl | rfl <;> assumption)
  rcases bool_cases (decide (s6 < -549755813888)) with l6 | l6
  · exact law_true sound32 (arL6 s0 s1 s2 s3 s4 s5 s6 s7 s8 s9 s10 s11 s12 s13 s14 s15 s16 s17 s18 s19 s20 s21 s22 s23 v0 v1) rfl (ap_ok (by rw [l6]; simp) g6) rfl w
  rcases bool_cases (decide (s6 > 549755813888)) with u6 | u6
  · exact law_true sound32 (arG6 s0 s1 s2 s3 s4 s5 s6 s7 s8 s9 s10 s11 s12 s13 s14 s15 s16 s17 s18 s19 s20 s21 s22 s23 v0 v1) rfl (ap_ok (by rw [l6, u6]; simp) g6) rfl w
  have h6 : inR s6 := ⟨by simpa using l6, by simpa using u6⟩
  have g7 := rgA_ok [s6, s5, s4] (fun x hx => by simp only [List.mem_cons, List.mem_nil_iff, or_false] at hx; rcases hx with rfl | rfl | rfl <;> assumption)
  rcases bool_cases (decide (s7 < -549755813888)) with l7 | l7
  · exact law_true sound32 (arL7 s0 s1 s2 s3 s4 s5 s6 s7 s8 s9 s10 s11 s12 s13 s14 s15 s16 s17 s18 s19 s20 s21 s22 s23 v0 v1) rfl (ap_ok (by rw [l7]; simp) g7) rfl w
  rcases bool_cases (decide (s7 > 549755813888)) with u7 | u7
  · exact law_true sound32 (arG7 s0 s1 s2 s3 s4 s5 s6 s7 s8 s9 s10 s11 s12 s13 s14 s15 s16 s17 s18 s19 s20 s21 s22 s23 v0 v1) rfl (ap_ok (by rw [l7, u7]; simp) g7) rfl w
  have h7 : inR s7 := ⟨by simpa using l7, by simpa using u7⟩
  have g8 := rgA_ok [s7, s6, s5, s4] (fun x hx => by simp only [List.mem_cons, List.mem_nil_iff, or_false] at hx; rcases hx with rfl | rfl | rfl | rfl <;> assumption)
  rcases bool_cases (decide (s8 < -549755813888)) with l8 | l8
  · exact law_true sound32 (arL8 s0 s1 s2 s3 s4 s5 s6 s7 s8 s9 s10 s11 s12 s13 s14 s15 s16 s17 s18 s19 s20 s21 s22 s23 v0 v1) rfl (ap_ok (by rw [l8]; simp) g8) rfl w
  rcases bool_cases (decide (s8 > 549755813888)) with u8 | u8
  · exact law_true sound32 (arG8 s0 s1 s2 s3 s4 s5 s6 s7 s8 s9 s10 s11 s12 s13 s14 s15 s16 s17 s18 s19 s20 s21 s22 s23 v0 v1) rfl (ap_ok (by rw [l8, u8]; simp) g8) rfl w
  have h8 : inR s8 := ⟨by simpa using l8, by simpa using u8⟩
  have g9 := rgA_ok [s8, s7, s6, s5, s4] (fun x hx => by simp only [List.mem_cons, List.mem_nil_iff, or_false] at hx; rcases hx with rfl | rfl | rfl | rfl | rfl <;> assumption)
  rcases bool_cases (decide (s9 < -549755813888)) with l9 | l9
  · exact law_true sound32 (arL9 s0 s1 s2 s3 s4 s5 s6 s7 s8 s9 s10 s11 s12 s13 s14 s15 s16 s17 s18 s19 s20 s21 s22 s23 v0 v1) rfl (ap_ok (by rw [l9]; simp) g9) rfl w
  rcases bool_cases (decide (s9 > 549755813888)) with u9 | u9
  · exact law_true sound32 (arG9 s0 s1 s2 s3 s4 s5 s6 s7 s8 s9 s10 s11 s12 s13 s14 s15 s16 s17 s18 s19 s20 s21 s22 s23 v0 v1) rfl (ap_ok (by rw [l9, u9]; simp) g9) rfl w
  have h9 : inR s9 := ⟨by simpa using l9, by simpa using u9⟩
  have g10 := rgA_ok [s9, s8, s7, s6, s5, s4] (fun x hx => by simp only [List.mem_cons, List.mem_nil_iff, or_false] at hx; rcases hx with rfl | rfl | rfl | rfl | rfl | rfl <;> assumption)
  rcases bool_cases (decide (s10 < -549755813888)) with l10 | l10
  · exact law_true sound32 (arL10 s0 s1 s2 s3 s4 s5 s6 s7 s8 s9 s10 s11 s12 s13 s14 s15 s16 s17 s18 s19 s20 s21 s22 s23 v0 v1) rfl (ap_ok (by rw [l10]; simp) g10) rfl w
  rcases bool_cases (decide (s10 > 549755813888)) with u10 | u10
  · exact law_true sound32 (arG10 s0 s1 s2 s3 s4 s5 s6 s7 s8 s9 s10 s11 s12 s13 s14 s15 s16 s17 s18 s19 s20 s21 s22 s23 v0 v1) rfl (ap_ok (by rw [l10, u10]; simp) g10) rfl w
  have h10 : inR s10 := ⟨by simpa using l10, by simpa using u10⟩
  have g11 := rgA_ok [s10, s9, s8, s7, s6, s5, s4] (fun x hx => by simp only [List.mem_cons, List.mem_nil_iff, or_false] at hx; rcases hx with rfl | rfl | rfl | rfl | rfl | rfl | rfl <;> assumption)
  rcases bool_cases (decide (s11 < -549755813888)) with l11 | l11
  · exact law_true sound32 (arL11 s0 s1 s2 s3 s4 s5 s6 s7 s8 s9 s10 s11 s12 s13 s14 s15 s16 s17 s18 s19 s20 s21 s22 s23 v0 v1) rfl (ap_ok (by rw [l11]; simp) g11) rfl w
  rcases bool_cases (decide (s11 > 549755813888)) with u11 | u11
  · exact law_true sound32 (arG11 s0 s1 s2 s3 s4 s5 s6 s7 s8 s9 s10 s11 s12 s13 s14 s15 s16 s17 s18 s19 s20 s21 s22 s23 v0 v1) rfl (ap_ok (by rw [l11, u11]; simp) g11) rfl w
  have h11 : inR s11 := ⟨by simpa using l11, by simpa using u11⟩
  have g12 := rgA_ok [s11, s10, s9, s8, s7, s6, s5, s4] (fun x hx => by simp only [List.mem_cons, List.mem_nil_iff, or_false] at hx; rcases hx with rfl | rfl | rfl | rfl | rfl | rfl | rfl | rfl <;> assumption)
  rcases bool_cases (decide (s12 < -549755813888)) with l12 | l12
  · exact law_true sound32 (arL12 s0 s1 s2 s3 s4 s5 s6 s7 s8 s9 s10 s11 s12 s13 s14 s15 s16 s17 s18 s19 s20 s21 s22 s23 v0 v1) rfl (ap_ok (by rw [l12]; simp) g12) rfl w
  rcases bool_cases (decide (s12 > 549755813888)) with u12 | u12
  · exact law_true sound32 (arG12 s0 s1 s2 s3 s4 s5 s6 s7 s8 s9 s10 s11 s12 s13 s14 s15 s16 s17 s18 s19 s20 s21 s22 s23 v0 v1) rfl (ap_ok (by rw [l12, u12]; simp) g12) rfl w
  have h12 : inR s12 := ⟨by simpa using l12, by simpa using u12⟩
  have g13 := rgA_ok [s12, s11, s10, s9, s8, s7, s6, s5, s4] (fun x hx => by simp only [List.mem_cons, List.mem_nil_iff, or_false] at hx; rcases hx with rfl | rfl | rfl | rfl | rfl | rfl | rfl | rfl | rfl <;> assumption)
  rcases bool_cases (decide (s13 < -549755813888)) with l13 | l13
  · exact law_true sound32 (arL13 s0 s1 s2 s3 s4 s5 s6 s7 s8 s9 s10 s11 s12 s13 s14 s15 s16 s17 s18 s19 s20 s21 s22 s23 v0 v1) rfl (ap_ok (by rw [l13]; simp) g13) rfl w
  rcases bool_cases (decide (s13 > 549755813888)) with u13 | u13
  · exact law_true sound32 (arG13 s0 s1 s2 s3 s4 s5 s6 s7 s8 s9 s10 s11 s12 s13 s14 s15 s16 s17 s18 s19 s20 s21 s22 s23 v0 v1) rfl (ap_ok (by rw [l13, u13]; simp) g13) rfl w
  have h13 : inR s13 := ⟨by simpa using l13, by simpa using u13⟩
  have g14 := rgA_ok [s13, s12, s11, s10, s9, s8, s7, s6, s5, s4] (fun x hx => by simp only [List.mem_cons, List.mem_nil_iff, or_false] at hx; rcases hx with rfl | rfl | rfl | rfl | rfl | rfl | rfl | rfl | rfl | rfl <;> assumption)
  rcases bool_cases (decide (s14 < -549755813888)) with l14 | l14
  · exact law_true sound32 (arL14 s0 s1 s2 s3 s4 s5 s6 s7 s8 s9 s10 s11 s12 s13 s14 s15 s16 s17 s18 s19 s20 s21 s22 s23 v0 v1) rfl (ap_ok (by rw [l14]; simp) g14) rfl w
  rcases bool_cases (decide (s14 > 549755813888)) with u14 | u14
  · exact law_true sound32 (arG14 s0 s1 s2 s3 s4 s5 s6 s7 s8 s9 s10 s11 s12 s13 s14 s15 s16 s17 s18 s19 s20 s21 s22 s23 v0 v1) rfl (ap_ok (by rw [l14, u14]; simp) g14) rfl w
  have h14 : inR s14 := ⟨by simpa using l14, by simpa using u14⟩
  have g15 := rgA_ok [s14, s13, s12, s11, s10, s9, s8, s7, s6, s5, s4] (fun x hx => by simp only [List.mem_cons, List.mem_nil_iff, or_false] at hx; rcases hx with rfl | rfl | rfl | rfl | rfl | rfl | rfl | rfl | rfl | rfl | rfl <;> assumption)
  rcases bool_cases (decide (s15 < -549755813888)) with l15 | l15
  · exact law_true sound32 (arL15 s0 s1 s2 s3 s4 s5 s6 s7 s8 s9 s10 s11 s12 s13 s14 s15 s16 s17 s18 s19 s20 s21 s22 s23 v0 v1) rfl (ap_ok (by rw [l15]; simp) g15) rfl w
  rcases bool_cases (decide (s15 > 549755813888)) with u15 | u15
  · exact law_true sound32 (arG15 s0 s1 s2 s3 s4 s5 s6 s7 s8 s9 s10 s11 s12 s13 s14 s15 s16 s17 s18 s19 s20 s21 s22 s23 v0 v1) rfl (ap_ok (by rw [l15, u15]; simp) g15) rfl w
  have h15 : inR s15 := ⟨by simpa using l15, by simpa using u15⟩
  have g16 := rgA_ok [s15, s14, s13, s12, s11, s10, s9, s8, s7, s6, s5, s4] (fun x hx => by simp only [List.mem_cons, List.mem_nil_iff, or_false] at hx; rcases hx with rfl | rfl | rfl | rfl | rfl | rfl | rfl | rfl | rfl | rfl | rfl | rfl <;> assumption)
  rcases bool_cases (decide (s16 < -549755813888)) with l16 | l16
  · exact law_true sound32 (arL16 s0 s1 s2 s3 s4 s5 s6 s7 s8 s9 s10 s11 s12 s13 s14 s15 s16 s17 s18 s19 s20 s21 s22 s23 v0 v1) rfl (ap_ok (by rw [l16]; simp) g16) rfl w
  rcases bool_cases (decide (s16 > 549755813888)) with u16 | u16
  · exact law_true sound32 (arG16 s0 s1 s2 s3 s4 s5 s6 s7 s8 s9 s10 s11 s12 s13 s14 s15 s16 s17 s18 s19 s20 s21 s22 s23 v0 v1) rfl (ap_ok (by rw [l16, u16]; simp) g16) rfl w
  have h16 : inR s16 := ⟨by simpa using l16, by simpa using u16⟩
  have g17 := rgA_ok [s16, s15, s14, s13, s12, s11, s10, s9, s8, s7, s6, s5, s4] (fun x hx => by simp only [List.mem_cons, List.mem_nil_iff, or_false] at hx; rcases hx with rfl | rfl | rfl | rfl | rfl | rfl | rfl | rfl | rfl | rfl | rfl | rfl | rfl <;> assumption)
  rcases bool_cases (decide (s17 < -549755813888)) with l17 | l17
  · exact law_true sound32 (arL17 s0 s1 s2 s3 s4 s5 s6 s7 s8 s9 s10 s11 s12 s13 s14 s15 s16 s17 s18 s19 s20 s21 s22 s23 v0 v1) rfl (ap_ok (by rw [l17]; simp) g17) rfl w
  rcases bool_cases (decide (s17 > 549755813888)) with u17 | u17
  · exact law_true sound32 (arG17 s0 s1 s2 s3 s4 s5 s6 s7 s8 s9 s10 s11 s12 s13 s14 s15 s16 s17 s18 s19 s20 s21 s22 s23 v0 v1) rfl (ap_ok (by rw [l17, u17]; simp) g17) rfl w
  have h17 : inR s17 := ⟨by simpa using l17, by simpa using u17⟩
  have g18 := rgA_ok [s17, s16, s15, s14, s13, s12, s11, s10, s9, s8, s7, s6, s5, s4] (fun x hx => by simp only [List.mem_cons, List.mem_nil_iff, or_false] at hx; rcases hx with rfl | rfl | rfl | rfl | rfl | rfl | rfl | rfl | rfl | rfl | rfl | rfl | rfl | rfl <;> assumption)
  rcases bool_cases (decide (s18 < -549755813888)) with l18 | l18
  · exact law_true sound32 (arL18 s0 s1 s2 s3 s4 s5 s6 s7 s8 s9 s10 s11 s12 s13 s14 s15 s16 s17 s18 s19 s20 s21 s22 s23 v0 v1) rfl (ap_ok (by rw [l18]; simp) g18) rfl w
  rcases bool_cases (decide (s18 > 549755813888)) with u18 | u18
  · exact law_true sound32 (arG18 s0 s1 s2 s3 s4 s5 s6 s7 s8 s9 s10 s11 s12 s13 s14 s15 s16 s17 s18 s19 s20 s21 s22 s23 v0 v1) rfl (ap_ok (by rw [l18, u18]; simp) g18) rfl w
  have h18 : inR s18 := ⟨by simpa using l18, by simpa using u18⟩
  have g19 := rgA_ok [s18, s17, s16, s15, s14, s13, s12, s11, s10, s9, s8, s7, s6, s5, s4] (fun x hx => by simp only [List.mem_cons, List.mem_nil_iff, or_false] at hx; rcases hx with rfl | rfl | rfl | rfl | rfl | rfl | rfl | rfl | rfl | rfl | rfl | rfl | rfl | rfl | rfl <;> assumption)
  rcases bool_cases (decide (s19 < -549755813888)) with l19 | l19
  · exact law_true sound32 (arL19 s0 s1 s2 s3 s4 s5 s6 s7 s8 s9 s10 s11 s12 s13 s14 s15 s16 s17 s18 s19 s20 s21 s22 s23 v0 v1) rfl (ap_ok (by rw [l19]; simp) g19) rfl w
  rcases bool_cases (decide (s19 > 549755813888)) with u19 | u19
  · exact law_true sound32 (arG19 s0 s1 s2 s3 s4 s5 s6 s7 s8 s9 s10 s11 s12 s13 s14 s15 s16 s17 s18 s19 s20 s21 s22 s23 v0 v1) rfl (ap_ok (by rw [l19, u19]; simp) g19) rfl w
  have h19 : inR s19 := ⟨by simpa using l19, by simpa using u19⟩
  have g20 := rgA_ok [s19, s18, s17, s16, s15, s14, s13, s12, s11, s10, s9, s8, s7, s6, s5, s4] (fun x hx => by simp only [List.mem_cons, List.mem_nil_iff, or_false] at hx; rcases hx with rfl | rfl | rfl | rfl | rfl | rfl | rfl | rfl | rfl | rfl | rfl | rfl | rfl | rfl | rfl | rfl <;> assumption)
  rcases bool_cases (decide (s20 < -549755813888)) with l20 | l20
  · exact law_true sound32 (arL20 s0 s1 s2 s3 s4 s5 s6 s7 s8 s9 s10 s11 s12 s13 s14 s15 s16 s17 s18 s19 s20 s21 s22 s23 v0 v1) rfl (ap_ok (by rw [l20]; simp) g20) rfl w
  rcases bool_cases (decide (s20 > 549755813888)) with u20 | u20
  · exact law_true sound32 (arG20 s0 s1 s2 s3 s4 s5 s6 s7 s8 s9 s10 s11 s12 s13 s14 s15 s16 s17 s18 s19 s20 s21 s22 s23 v0 v1) rfl (ap_ok (by rw [l20, u20]; simp) g20) rfl w
  have h20 : inR s20 := ⟨by simpa using l20, by simpa using u20⟩
  have g21 := rgA_ok [s20, s19, s18, s17, s16, s15, s14, s13, s12, s11, s10, s9, s8, s7, s6, s5, s4] (fun x hx => by simp only [List.mem_cons, List.mem_nil_iff, or_false] at hx; rcases hx with rfl | rfl | rfl | rfl | rfl | rfl | rfl | rfl | rfl | rfl | rfl | rfl | rfl | rfl | rfl | rfl | rfl <;> assumption)
  rcases bool_cases (decide (s21 < -549755813888)) with l21 | l21
  · exact law_true sound32 (arL21 s0 s1 s2 s3 s4 s5 s6 s7 s8 s9 s10 s11 s12 s13 s14 s15 s16 s17 s18 s19 s20 s21 s22 s23 v0 v1) rfl (ap_ok (by rw [l21]; simp) g21) rfl w
  rcases bool_cases (decide (s21 > 549755813888)) with u21 | u21
  · exact law_true sound32 (arG21 s0 s1 s2 s3 s4 s5 s6 s7 s8 s9 s10 s11 s12 s13 s14 s15 s16 s17 s18 s19 s20 s21 s22 s23 v0 v1) rfl (ap_ok (by rw [l21, u21]; simp) g21) rfl w
  have h21 : inR s21 := ⟨by simpa using l21, by simpa using u21⟩
  have g22 := rgA_ok [s21, s20, s19, s18, s17, s16, s15, s14, s13, s12, s11, s10, s9, s8, s7, s6, s5, s4] (fun x hx => by simp only [List.mem_cons, List.mem_nil_iff, or_false] at hx; rcases hx with rfl | rfl | rfl | rfl | rfl | rfl | rfl | rfl | rfl | rfl | rfl | rfl | rfl | rfl | rfl | rfl | rfl | rfl <;> assumption)
  rcases bool_cases (decide (s22 < -549755813888)) with l22 | l22
  · exact law_true sound32 (arL22 s0 s1 s2 s3 s4 s5 s6 s7 s8 s9 s10 s11 s12 s13 s14 s15 s16 s17 s18 s19 s20 s21 s22 s23 v0 v1) rfl (ap_ok (by rw [l22]; simp) g22) rfl w
  rcases bool_cases (decide (s22 > 549755813888)) with u22 | u22
  · exact law_true sound32 (arG22 s0 s1 s2 s3 s4 s5 s6 s7 s8 s9 s10 s11 s12 s13 s14 s15 s16 s17 s18 s19 s20 s21 s22 s23 v0 v1) rfl (ap_ok (by rw [l22, u22]; simp) g22) rfl w
  have h22 : inR s22 := ⟨by simpa using l22, by simpa using u22⟩
  have g23 := rgA_ok [s22, s21, s20, s19, s18, s17, s16, s15, s14, s13, s12, s11, s10, s9, s8, s7, s6, s5, s4] (fun x hx => by simp only [List.mem_cons, List.mem_nil_iff, or_false] at hx; rcases hx with rfl | rfl | rfl | rfl | rfl | rfl | rfl | rfl | rfl | rfl | rfl | rfl | rfl | rfl | rfl | rfl | rfl | rfl | rfl <;> assumption)
  rcases bool_cases (decide (s23 < -549755813888)) with l23 | l23
  · exact law_true sound32 (arL23 s0 s1 s2 s3 s4 s5 s6 s7 s8 s9 s10 s11 s12 s13 s14 s15 s16 s17 s18 s19 s20 s21 s22 s23 v0 v1) rfl (ap_ok (by rw [l23]; simp) g23) rfl w
  rcases bool_cases (decide (s23 > 549755813888)) with u23 | u23
  · exact law_true sound32 (arG23 s0 s1 s2 s3 s4 s5 s6 s7 s8 s9 s10 s11 s12 s13 s14 s15 s16 s17 s18 s19 s20 s21 s22 s23 v0 v1) rfl (ap_ok (by rw [l23, u23]; simp) g23) rfl w
  have h23 : inR s23 := ⟨by simpa using l23, by simpa using u23⟩
  have g := rgA_ok [s23, s22, s21, s20, s19, s18, s17, s16, s15, s14, s13, s12, s11, s10, s9, s8, s7, s6, s5, s4] (fun x hx => by simp only [List.mem_cons, List.mem_nil_iff, or_false] at hx; rcases hx with rfl | rfl | rfl | rfl | rfl | rfl | rfl | rfl | rfl | rfl | rfl | rfl | rfl | rfl | rfl | rfl | rfl | rfl | rfl | rfl <;> assumption)
  rcases bool_cases (decide (arN s4 s5 s6 s22 s23 < 1073741824)) with n | n
  · exact law_true sound32 (arS s0 s1 s2 s3 s4 s5 s6 s7 s8 s9 s10 s11 s12 s13 s14 s15 s16 s17 s18 s19 s20 s21 s22 s23 v0 v1) rfl (ap_ok (by rw [n]; simp) g) rfl w
  obtain ⟨m0, m1⟩ := ar_all h4 h5 h6 h22 h23 (by simpa using n)
  have d0 : decide (arM s4 s5 s6 s22 s23 ≥ -8) = true := by simpa using m0
  have d1 : decide (arM s4 s5 s6 s22 s23 ≤ 8) = true := by simpa using m1
  exact law_true sound32 (arR s0 s1 s2 s3 s4 s5 s6 s7 s8 s9 s10 s11 s12 s13 s14 s15 s16 s17 s18 s19 s20 s21 s22 s23 v0 v1) (by simp) (ap_ok (by rw [d0, d1, n]; simp) g) rfl w
-- @@end
end Go.Proofs.Ythfanchjkkeejaa

/- Opening an array of numbers that a law is handed (the seventh form's data). -/
namespace Go.Lr
open Go.ChangeShapes Go.WideShapes Go.ChangeAt Go.RowKit

section
variable {H : Type} {enc : TypeId × Value → H} {P : Program} {k e : TypeId} {W : World} {base : Nat} {sp : Nat → Bool} {held : Bool}

theorem mapM_ints (he : P.underlying e = some (.int .i64)) {m : Nat} {cs : List Value} : ∀ (L : List Nat) (xs : List (DataW H × List MemPlace)),
    L.mapM (fun i => DataW.trod enc P W base sp held m e ((cs.drop (i * 1)).take 1)) = some xs →
    ∃ zs : List Int, zs.length = L.length ∧ xs = zs.map (fun z => (.lit (.int .i64 z), [])) ∧ (∀ z ∈ zs, (Lit.int .i64 z).wf = true) ∧
      (∀ (j : Nat) (h : j < L.length) (h' : j < zs.length), (cs.drop (L[j] * 1)).take 1 = [.int .i64 zs[j]]) ∧
      ∀ (W' : World) (base' : Nat) (sp' : Nat → Bool), L.mapM (fun i => DataW.trod enc P W' base' sp' held m e ((cs.drop (i * 1)).take 1)) = some xs
  | [], xs, h => by
    simp at h
    subst h
    exact ⟨[], rfl, rfl, by simp, by simp, fun _ _ _ => rfl⟩
  | i :: L, xs, h => by
    rw [List.mapM_cons] at h
    simp only [bind, Option.bind_eq_some_iff, pure, Option.some.injEq] at h
    obtain ⟨y, hy, ys, hys, rfl⟩ := h
    obtain ⟨zs, h1, rfl, h2, h3, h4⟩ := mapM_ints he L ys hys
    obtain ⟨a, ea, rfl, wa⟩ := DataW.trod_int he hy
    refine ⟨a :: zs, by simp [h1], rfl, ?_, ?_, fun W' base' sp' => ?_⟩
    · intro z hz
      rcases List.mem_cons.1 hz with rfl | hz
      · exact wa
      · exact h2 z hz
    · intro j hj hj'
      cases j with
      | zero => exact ea
      | succ j => exact h3 j (by simpa using hj) (by simpa using hj')
    · rw [List.mapM_cons, h4 W' base' sp']
      have hw : DataW.trod enc P W' base' sp' held m e ((cs.drop (i * 1)).take 1) = some (.lit (.int .i64 a), []) := by
        rw [ea] at hy ⊢
        cases m with
        | zero => simp [DataW.trod] at hy
        | succ m => simp [DataW.trod, he, wa]
      rw [hw]
      rfl

theorem open_arr {n : Nat} (hk : P.underlying k = some (.array n e)) (he : P.underlying e = some (.int .i64)) (hc : P.cellsOf k = n) (hce : P.cellsOf e = 1) {r : Reach} {b0 : Nat} {v : Value} {d : DataW H} {ps : List MemPlace}
    (hval : Value.okWide P W r b0 k v) (hd : DataW.Trod enc P W base sp held k v d ps) :
    ∃ zs : List Int, zs.length = n ∧ v = .agg (zs.map (Value.int .i64)).toArray ∧ ps = [] ∧ (∀ z ∈ zs, (Lit.int .i64 z).wf = true) ∧ ∀ (W' : World) (base' : Nat) (sp' : Nat → Bool), DataW.Trod enc P W' base' sp' held k v d [] := by
  simp only [Value.okWide, hk] at hval
  obtain ⟨cs, rfl, hs, -⟩ := hval
  rw [hc] at hs
  obtain ⟨fuel, hf⟩ := hd
  cases fuel with
  | zero => simp [DataW.trod] at hf
  | succ m =>
    rw [DataW.trod_step] at hf
    unfold DataW.trodStep at hf
    simp only [hk, Value.cells, hc, hce] at hf
    have hl : cs.toList.length = n := by simpa using hs
    rw [if_pos hl] at hf
    simp only [Option.map_eq_some_iff] at hf
    obtain ⟨ys, hy, e1⟩ := hf
    obtain ⟨zs, h1, rfl, h2, h3, h4⟩ := mapM_ints he _ ys hy
    rw [List.length_range] at h1
    simp only [Prod.mk.injEq] at e1
    have hcs : cs.toList = zs.map (Value.int .i64) := by
      refine List.ext_getElem (by simp [hl, h1]) fun j hj hj' => ?_
      have h := h3 j (by simpa using (show j < n by omega)) (by omega)
      rw [List.getElem_range, Nat.mul_one] at h
      have h5 : ((cs.toList.drop j).take 1)[0]? = some (Value.int .i64 zs[j]) := by rw [h]; rfl
      rw [List.getElem?_take, if_pos (by decide), List.getElem?_drop, Nat.add_zero, List.getElem?_eq_getElem hj] at h5
      simpa using h5
    refine ⟨zs, h1, by rw [← hcs], by rw [← e1.2]; simp [List.flatMap_eq_nil_iff], h2, fun W' base' sp' => ⟨m + 1, ?_⟩⟩
    rw [DataW.trod_step]
    unfold DataW.trodStep
    simp only [hk, Value.cells, hc, hce]
    rw [if_pos hl, h4 W' base' sp']
    simp only [Option.map_some, Option.some.injEq, Prod.mk.injEq]
    exact ⟨e1.1, by simp [List.flatMap_eq_nil_iff]⟩
end
end Go.Lr
