/- Joined texts. What each part proves stands ahead of it; no condition. -/
import Derived.Test.YthfanchjkkeejaaLrM5

/- Sines, and the second answer's sines and angles: their runs, against what they compute. -/
namespace Go.Proofs.Ythfanchjkkeejaa
open Go.Lr
set_option linter.unusedVariables false
set_option linter.unusedSimpArgs false

def sL1 : List Int := [2959, -213044, 8947849, -178956971, 1073741824]
def sL2 : List Int := [-296, 26631, -1491308, 44739243, -536870912, 1073741824]
def mmV (s : Int) : Int := if (1073741824 : Int) < (if (-1073741824 : Int) > s then -1073741824 else s) then 1073741824 else (if (-1073741824 : Int) > s then -1073741824 else s)
/-- The angle, folded to the right. -/
def sinW (b1 b2 : Bool) (a : Int) : Int := bif b1 then wr IntKind.i64 (3373259426 - wrapV (satV a)) else bif b2 then wr IntKind.i64 (-3373259426 - wrapV (satV a)) else wrapV (satV a)
def sinX (w : Int) : Int := wr IntKind.i64 (1686629713 - fabsV w)
def sinS0 (w : Int) : Int := mulV w (serV (mulV w w 30) (-27) sL1) 30
def sinSH (w : Int) (h : Bool) : Bool := serHb (mulV w w 30) (h || mulH w w 30) (-27) sL1 || mulH w (serV (mulV w w 30) (-27) sL1) 30
def sinG0 (ng : Bool) (x : Int) : Int := bif ng then wr IntKind.i64 (0 - serV (mulV x x 30) 2 sL2) else serV (mulV x x 30) 2 sL2
def sinGH (x : Int) (h : Bool) : Bool := serHb (mulV x x 30) (h || mulH x x 30) 2 sL2
/-- Without its sign, as the second answer reckons it. -/
def sinU (ng : Bool) (w : Int) : Int := bif ng then wr IntKind.i64 (0 - w) else w
def clO (s : Int) : Int := clampV s (-1073741824) 1073741824
theorem sntfs (a : Int) (hb : Bool) : (runF Try.prog S36 Zl 2000 42 [A0, I a] [(0, flag 27 hb)] 1 [some true, some true, none, none, none, none, none, none, none]).map acc3 = some (I (mmV (sinS0 (sinW true false a))), some (flag 27 (sinSH (sinW true false a) (hb || satH a))), [(decide (fabsV (sinW true false a) ≤ 843314857), true), (decide (wrapV (satV a) > 1686629713), true)]) := by kernel_rfl
theorem sntfgt (a : Int) (hb : Bool) : (runF Try.prog S36 Zl 2000 42 [A0, I a] [(0, flag 27 hb)] 1 [some true, some false, none, none, none, none, none, none, none, some true]).map acc3 = some (I (mmV (sinG0 true (sinX (sinW true false a)))), some (flag 27 (sinGH (sinX (sinW true false a)) (hb || satH a))), [(decide ((sinW true false a) < 0), true), (decide (fabsV (sinW true false a) ≤ 843314857), false), (decide (wrapV (satV a) > 1686629713), true)]) := by kernel_rfl
theorem sntfgf (a : Int) (hb : Bool) : (runF Try.prog S36 Zl 2000 42 [A0, I a] [(0, flag 27 hb)] 1 [some true, some false, none, none, none, none, none, none, none, some false]).map acc3 = some (I (mmV (sinG0 false (sinX (sinW true false a)))), some (flag 27 (sinGH (sinX (sinW true false a)) (hb || satH a))), [(decide ((sinW true false a) < 0), false), (decide (fabsV (sinW true false a) ≤ 843314857), false), (decide (wrapV (satV a) > 1686629713), true)]) := by kernel_rfl
theorem rstftg (a : Int) (hb : Bool) (ty : TypeId) : (runF Try.prog S36 Zl 2000 43 [A0, I a] [(0, flag ty hb)] 1 [some true, some true, some true, none, none, none, none, none, none, none, some true]).map acc3 = some (I (clO (sinG0 true (wr IntKind.i64 (1686629713 - (sinU true (sinW true false a)))))), some (flag ty (sinGH (wr IntKind.i64 (1686629713 - (sinU true (sinW true false a)))) (hb || satH a))), [(decide ((sinW true false a) < 0), true), (decide ((sinU true (sinW true false a)) > 843314857), true), (decide ((sinW true false a) < 0), true), (decide (wrapV (satV a) > 1686629713), true)]) := by kernel_rfl
theorem rstfts (a : Int) (hb : Bool) (ty : TypeId) : (runF Try.prog S36 Zl 2000 43 [A0, I a] [(0, flag ty hb)] 1 [some true, some true, some false, none, none, none, none, none, none, none]).map acc3 = some (I (clO (sinS0 (sinW true false a))), some (flag ty (sinSH (sinW true false a) (hb || satH a))), [(decide ((sinU true (sinW true false a)) > 843314857), false), (decide ((sinW true false a) < 0), true), (decide (wrapV (satV a) > 1686629713), true)]) := by kernel_rfl
theorem rstffg (a : Int) (hb : Bool) (ty : TypeId) : (runF Try.prog S36 Zl 2000 43 [A0, I a] [(0, flag ty hb)] 1 [some true, some false, some true, none, none, none, none, none, none, none, some false]).map acc3 = some (I (clO (sinG0 false (wr IntKind.i64 (1686629713 - (sinU false (sinW true false a)))))), some (flag ty (sinGH (wr IntKind.i64 (1686629713 - (sinU false (sinW true false a)))) (hb || satH a))), [(decide ((sinW true false a) < 0), false), (decide ((sinU false (sinW true false a)) > 843314857), true), (decide ((sinW true false a) < 0), false), (decide (wrapV (satV a) > 1686629713), true)]) := by kernel_rfl
theorem rstffs (a : Int) (hb : Bool) (ty : TypeId) : (runF Try.prog S36 Zl 2000 43 [A0, I a] [(0, flag ty hb)] 1 [some true, some false, some false, none, none, none, none, none, none, none]).map acc3 = some (I (clO (sinS0 (sinW true false a))), some (flag ty (sinSH (sinW true false a) (hb || satH a))), [(decide ((sinU false (sinW true false a)) > 843314857), false), (decide ((sinW true false a) < 0), false), (decide (wrapV (satV a) > 1686629713), true)]) := by kernel_rfl
theorem snfts (a : Int) (hb : Bool) : (runF Try.prog S36 Zl 2000 42 [A0, I a] [(0, flag 27 hb)] 1 [some false, some true, some true, none, none, none, none, none, none, none]).map acc3 = some (I (mmV (sinS0 (sinW false true a))), some (flag 27 (sinSH (sinW false true a) (hb || satH a))), [(decide (fabsV (sinW false true a) ≤ 843314857), true), (decide (wrapV (satV a) < -1686629713), true), (decide (wrapV (satV a) > 1686629713), false)]) := by kernel_rfl
theorem snftgt (a : Int) (hb : Bool) : (runF Try.prog S36 Zl 2000 42 [A0, I a] [(0, flag 27 hb)] 1 [some false, some true, some false, none, none, none, none, none, none, none, some true]).map acc3 = some (I (mmV (sinG0 true (sinX (sinW false true a)))), some (flag 27 (sinGH (sinX (sinW false true a)) (hb || satH a))), [(decide ((sinW false true a) < 0), true), (decide (fabsV (sinW false true a) ≤ 843314857), false), (decide (wrapV (satV a) < -1686629713), true), (decide (wrapV (satV a) > 1686629713), false)]) := by kernel_rfl
theorem snftgf (a : Int) (hb : Bool) : (runF Try.prog S36 Zl 2000 42 [A0, I a] [(0, flag 27 hb)] 1 [some false, some true, some false, none, none, none, none, none, none, none, some false]).map acc3 = some (I (mmV (sinG0 false (sinX (sinW false true a)))), some (flag 27 (sinGH (sinX (sinW false true a)) (hb || satH a))), [(decide ((sinW false true a) < 0), false), (decide (fabsV (sinW false true a) ≤ 843314857), false), (decide (wrapV (satV a) < -1686629713), true), (decide (wrapV (satV a) > 1686629713), false)]) := by kernel_rfl
theorem rsfttg (a : Int) (hb : Bool) (ty : TypeId) : (runF Try.prog S36 Zl 2000 43 [A0, I a] [(0, flag ty hb)] 1 [some false, some true, some true, some true, none, none, none, none, none, none, none, some true]).map acc3 = some (I (clO (sinG0 true (wr IntKind.i64 (1686629713 - (sinU true (sinW false true a)))))), some (flag ty (sinGH (wr IntKind.i64 (1686629713 - (sinU true (sinW false true a)))) (hb || satH a))), [(decide ((sinW false true a) < 0), true), (decide ((sinU true (sinW false true a)) > 843314857), true), (decide ((sinW false true a) < 0), true), (decide (wrapV (satV a) < -1686629713), true), (decide (wrapV (satV a) > 1686629713), false)]) := by kernel_rfl
theorem rsftts (a : Int) (hb : Bool) (ty : TypeId) : (runF Try.prog S36 Zl 2000 43 [A0, I a] [(0, flag ty hb)] 1 [some false, some true, some true, some false, none, none, none, none, none, none, none]).map acc3 = some (I (clO (sinS0 (sinW false true a))), some (flag ty (sinSH (sinW false true a) (hb || satH a))), [(decide ((sinU true (sinW false true a)) > 843314857), false), (decide ((sinW false true a) < 0), true), (decide (wrapV (satV a) < -1686629713), true), (decide (wrapV (satV a) > 1686629713), false)]) := by kernel_rfl
theorem rsftfg (a : Int) (hb : Bool) (ty : TypeId) : (runF Try.prog S36 Zl 2000 43 [A0, I a] [(0, flag ty hb)] 1 [some false, some true, some false, some true, none, none, none, none, none, none, none, some false]).map acc3 = some (I (clO (sinG0 false (wr IntKind.i64 (1686629713 - (sinU false (sinW false true a)))))), some (flag ty (sinGH (wr IntKind.i64 (1686629713 - (sinU false (sinW false true a)))) (hb || satH a))), [(decide ((sinW false true a) < 0), false), (decide ((sinU false (sinW false true a)) > 843314857), true), (decide ((sinW false true a) < 0), false), (decide (wrapV (satV a) < -1686629713), true), (decide (wrapV (satV a) > 1686629713), false)]) := by kernel_rfl
theorem rsftfs (a : Int) (hb : Bool) (ty : TypeId) : (runF Try.prog S36 Zl 2000 43 [A0, I a] [(0, flag ty hb)] 1 [some false, some true, some false, some false, none, none, none, none, none, none, none]).map acc3 = some (I (clO (sinS0 (sinW false true a))), some (flag ty (sinSH (sinW false true a) (hb || satH a))), [(decide ((sinU false (sinW false true a)) > 843314857), false), (decide ((sinW false true a) < 0), false), (decide (wrapV (satV a) < -1686629713), true), (decide (wrapV (satV a) > 1686629713), false)]) := by kernel_rfl
theorem snffs (a : Int) (hb : Bool) : (runF Try.prog S36 Zl 2000 42 [A0, I a] [(0, flag 27 hb)] 1 [some false, some false, some true, none, none, none, none, none, none, none]).map acc3 = some (I (mmV (sinS0 (sinW false false a))), some (flag 27 (sinSH (sinW false false a) (hb || satH a))), [(decide (fabsV (sinW false false a) ≤ 843314857), true), (decide (wrapV (satV a) < -1686629713), false), (decide (wrapV (satV a) > 1686629713), false)]) := by kernel_rfl
theorem snffgt (a : Int) (hb : Bool) : (runF Try.prog S36 Zl 2000 42 [A0, I a] [(0, flag 27 hb)] 1 [some false, some false, some false, none, none, none, none, none, none, none, some true]).map acc3 = some (I (mmV (sinG0 true (sinX (sinW false false a)))), some (flag 27 (sinGH (sinX (sinW false false a)) (hb || satH a))), [(decide ((sinW false false a) < 0), true), (decide (fabsV (sinW false false a) ≤ 843314857), false), (decide (wrapV (satV a) < -1686629713), false), (decide (wrapV (satV a) > 1686629713), false)]) := by kernel_rfl
theorem snffgf (a : Int) (hb : Bool) : (runF Try.prog S36 Zl 2000 42 [A0, I a] [(0, flag 27 hb)] 1 [some false, some false, some false, none, none, none, none, none, none, none, some false]).map acc3 = some (I (mmV (sinG0 false (sinX (sinW false false a)))), some (flag 27 (sinGH (sinX (sinW false false a)) (hb || satH a))), [(decide ((sinW false false a) < 0), false), (decide (fabsV (sinW false false a) ≤ 843314857), false), (decide (wrapV (satV a) < -1686629713), false), (decide (wrapV (satV a) > 1686629713), false)]) := by kernel_rfl
theorem rsfftg (a : Int) (hb : Bool) (ty : TypeId) : (runF Try.prog S36 Zl 2000 43 [A0, I a] [(0, flag ty hb)] 1 [some false, some false, some true, some true, none, none, none, none, none, none, none, some true]).map acc3 = some (I (clO (sinG0 true (wr IntKind.i64 (1686629713 - (sinU true (sinW false false a)))))), some (flag ty (sinGH (wr IntKind.i64 (1686629713 - (sinU true (sinW false false a)))) (hb || satH a))), [(decide ((sinW false false a) < 0), true), (decide ((sinU true (sinW false false a)) > 843314857), true), (decide ((sinW false false a) < 0), true), (decide (wrapV (satV a) < -1686629713), false), (decide (wrapV (satV a) > 1686629713), false)]) := by kernel_rfl
theorem rsffts (a : Int) (hb : Bool) (ty : TypeId) : (runF Try.prog S36 Zl 2000 43 [A0, I a] [(0, flag ty hb)] 1 [some false, some false, some true, some false, none, none, none, none, none, none, none]).map acc3 = some (I (clO (sinS0 (sinW false false a))), some (flag ty (sinSH (sinW false false a) (hb || satH a))), [(decide ((sinU true (sinW false false a)) > 843314857), false), (decide ((sinW false false a) < 0), true), (decide (wrapV (satV a) < -1686629713), false), (decide (wrapV (satV a) > 1686629713), false)]) := by kernel_rfl
theorem rsfffg (a : Int) (hb : Bool) (ty : TypeId) : (runF Try.prog S36 Zl 2000 43 [A0, I a] [(0, flag ty hb)] 1 [some false, some false, some false, some true, none, none, none, none, none, none, none, some false]).map acc3 = some (I (clO (sinG0 false (wr IntKind.i64 (1686629713 - (sinU false (sinW false false a)))))), some (flag ty (sinGH (wr IntKind.i64 (1686629713 - (sinU false (sinW false false a)))) (hb || satH a))), [(decide ((sinW false false a) < 0), false), (decide ((sinU false (sinW false false a)) > 843314857), true), (decide ((sinW false false a) < 0), false), (decide (wrapV (satV a) < -1686629713), false), (decide (wrapV (satV a) > 1686629713), false)]) := by kernel_rfl
theorem rsfffs (a : Int) (hb : Bool) (ty : TypeId) : (runF Try.prog S36 Zl 2000 43 [A0, I a] [(0, flag ty hb)] 1 [some false, some false, some false, some false, none, none, none, none, none, none, none]).map acc3 = some (I (clO (sinS0 (sinW false false a))), some (flag ty (sinSH (sinW false false a) (hb || satH a))), [(decide ((sinU false (sinW false false a)) > 843314857), false), (decide ((sinW false false a) < 0), false), (decide (wrapV (satV a) < -1686629713), false), (decide (wrapV (satV a) > 1686629713), false)]) := by kernel_rfl

/-- The sine. -/
def sinF (w : Int) : Int := bif decide (fabsV w ≤ 843314857) then mmV (sinS0 w) else mmV (sinG0 (decide (w < 0)) (sinX w))
def sinFH (w : Int) (h : Bool) : Bool := bif decide (fabsV w ≤ 843314857) then sinSH w h else sinGH (sinX w) h
def sinV (a : Int) : Int := sinF (sinW (decide (wrapV (satV a) > 1686629713)) (decide (wrapV (satV a) < -1686629713)) a)
def sinH (a : Int) (h : Bool) : Bool := sinFH (sinW (decide (wrapV (satV a) > 1686629713)) (decide (wrapV (satV a) < -1686629713)) a) (h || satH a)
def sinS : List LV → Bool → Option (LV × Bool × List (Bool × Bool))
  | [.v (.one (.int .i64 a))], hb => some (I (sinV a), sinH a hb, [])
  | _, _ => none
theorem sumSin : SumOK Try.prog 42 (accSum 27 sinS) := by
  refine accSum_run (z := Zl) sound36 (own_of sound36 Try.func42 (by kernel_rfl)) fun args hb v h' cs hF hc => ?_
  unfold sinS at hF
  split at hF
  · rename_i a
    cases hF
    refine ⟨rfl, ?_⟩
    unfold sinV sinH
    have eT : ∀ b : Bool, sinW true b a = sinW true false a := fun b => rfl
    rcases bool_cases (decide (wrapV (satV a) > 1686629713)) with h1 | h1
    · rw [h1, eT]
      rcases bool_cases (decide (fabsV (sinW true false a) ≤ 843314857)) with h3 | h3
      · unfold sinF sinFH; rw [cond_t h3, cond_t h3]; exact ⟨2000, _, _, sntfs a hb, ae_cons h3 (ae_cons h1 ae_nil)⟩
      · unfold sinF sinFH; rw [cond_f h3, cond_f h3]
        rcases bool_cases (decide ((sinW true false a) < 0)) with h4 | h4
        · rw [h4]; exact ⟨2000, _, _, sntfgt a hb, ae_cons h4 (ae_cons h3 (ae_cons h1 ae_nil))⟩
        · rw [h4]; exact ⟨2000, _, _, sntfgf a hb, ae_cons h4 (ae_cons h3 (ae_cons h1 ae_nil))⟩
    · rw [h1]
      rcases bool_cases (decide (wrapV (satV a) < -1686629713)) with h2 | h2
      · rw [h2]
        rcases bool_cases (decide (fabsV (sinW false true a) ≤ 843314857)) with h3 | h3
        · unfold sinF sinFH; rw [cond_t h3, cond_t h3]; exact ⟨2000, _, _, snfts a hb, ae_cons h3 (ae_cons h2 (ae_cons h1 ae_nil))⟩
        · unfold sinF sinFH; rw [cond_f h3, cond_f h3]
          rcases bool_cases (decide ((sinW false true a) < 0)) with h4 | h4
          · rw [h4]; exact ⟨2000, _, _, snftgt a hb, ae_cons h4 (ae_cons h3 (ae_cons h2 (ae_cons h1 ae_nil)))⟩
          · rw [h4]; exact ⟨2000, _, _, snftgf a hb, ae_cons h4 (ae_cons h3 (ae_cons h2 (ae_cons h1 ae_nil)))⟩
      · rw [h2]
        rcases bool_cases (decide (fabsV (sinW false false a) ≤ 843314857)) with h3 | h3
        · unfold sinF sinFH; rw [cond_t h3, cond_t h3]; exact ⟨2000, _, _, snffs a hb, ae_cons h3 (ae_cons h2 (ae_cons h1 ae_nil))⟩
        · unfold sinF sinFH; rw [cond_f h3, cond_f h3]
          rcases bool_cases (decide ((sinW false false a) < 0)) with h4 | h4
          · rw [h4]; exact ⟨2000, _, _, snffgt a hb, ae_cons h4 (ae_cons h3 (ae_cons h2 (ae_cons h1 ae_nil)))⟩
          · rw [h4]; exact ⟨2000, _, _, snffgf a hb, ae_cons h4 (ae_cons h3 (ae_cons h2 (ae_cons h1 ae_nil)))⟩
  · cases hF

def rsinF (w : Int) : Int := bif decide (sinU (decide (w < 0)) w > 843314857) then clO (sinG0 (decide (w < 0)) (wr IntKind.i64 (1686629713 - sinU (decide (w < 0)) w))) else clO (sinS0 w)
def rsinFH (w : Int) (h : Bool) : Bool := bif decide (sinU (decide (w < 0)) w > 843314857) then sinGH (wr IntKind.i64 (1686629713 - sinU (decide (w < 0)) w)) h else sinSH w h
def rsinS : List LV → Bool → Option (LV × Bool × List (Bool × Bool))
  | [.v (.one (.int .i64 a))], hb => some (I (rsinF (sinW (decide (wrapV (satV a) > 1686629713)) (decide (wrapV (satV a) < -1686629713)) a)), rsinFH (sinW (decide (wrapV (satV a) > 1686629713)) (decide (wrapV (satV a) < -1686629713)) a) (hb || satH a), [])
  | _, _ => none
theorem sumRsin0 (ty : TypeId) : SumOK Try.prog 43 (accSum ty rsinS) := by
  refine accSum_run (z := Zl) sound36 (own_of sound36 Try.func43 (by kernel_rfl)) fun args hb v h' cs hF hc => ?_
  unfold rsinS at hF
  split at hF
  · rename_i a
    cases hF
    refine ⟨rfl, ?_⟩
    have eT : ∀ b : Bool, sinW true b a = sinW true false a := fun b => rfl
    unfold rsinF rsinFH
    rcases bool_cases (decide (wrapV (satV a) > 1686629713)) with h1 | h1
    · rw [h1, eT]
      rcases bool_cases (decide ((sinW true false a) < 0)) with h3 | h3
      · rw [h3]
        rcases bool_cases (decide (sinU true (sinW true false a) > 843314857)) with h4 | h4
        · rw [cond_t h4, cond_t h4]; exact ⟨2000, _, _, rstftg a hb ty, ae_cons h3 (ae_cons h4 (ae_cons h3 (ae_cons h1 ae_nil)))⟩
        · rw [cond_f h4, cond_f h4]; exact ⟨2000, _, _, rstfts a hb ty, ae_cons h4 (ae_cons h3 (ae_cons h1 ae_nil))⟩
      · rw [h3]
        rcases bool_cases (decide (sinU false (sinW true false a) > 843314857)) with h4 | h4
        · rw [cond_t h4, cond_t h4]; exact ⟨2000, _, _, rstffg a hb ty, ae_cons h3 (ae_cons h4 (ae_cons h3 (ae_cons h1 ae_nil)))⟩
        · rw [cond_f h4, cond_f h4]; exact ⟨2000, _, _, rstffs a hb ty, ae_cons h4 (ae_cons h3 (ae_cons h1 ae_nil))⟩
    · rw [h1]
      rcases bool_cases (decide (wrapV (satV a) < -1686629713)) with h2 | h2
      · rw [h2]
        rcases bool_cases (decide ((sinW false true a) < 0)) with h3 | h3
        · rw [h3]
          rcases bool_cases (decide (sinU true (sinW false true a) > 843314857)) with h4 | h4
          · rw [cond_t h4, cond_t h4]; exact ⟨2000, _, _, rsfttg a hb ty, ae_cons h3 (ae_cons h4 (ae_cons h3 (ae_cons h2 (ae_cons h1 ae_nil))))⟩
          · rw [cond_f h4, cond_f h4]; exact ⟨2000, _, _, rsftts a hb ty, ae_cons h4 (ae_cons h3 (ae_cons h2 (ae_cons h1 ae_nil)))⟩
        · rw [h3]
          rcases bool_cases (decide (sinU false (sinW false true a) > 843314857)) with h4 | h4
          · rw [cond_t h4, cond_t h4]; exact ⟨2000, _, _, rsftfg a hb ty, ae_cons h3 (ae_cons h4 (ae_cons h3 (ae_cons h2 (ae_cons h1 ae_nil))))⟩
          · rw [cond_f h4, cond_f h4]; exact ⟨2000, _, _, rsftfs a hb ty, ae_cons h4 (ae_cons h3 (ae_cons h2 (ae_cons h1 ae_nil)))⟩
      · rw [h2]
        rcases bool_cases (decide ((sinW false false a) < 0)) with h3 | h3
        · rw [h3]
          rcases bool_cases (decide (sinU true (sinW false false a) > 843314857)) with h4 | h4
          · rw [cond_t h4, cond_t h4]; exact ⟨2000, _, _, rsfftg a hb ty, ae_cons h3 (ae_cons h4 (ae_cons h3 (ae_cons h2 (ae_cons h1 ae_nil))))⟩
          · rw [cond_f h4, cond_f h4]; exact ⟨2000, _, _, rsffts a hb ty, ae_cons h4 (ae_cons h3 (ae_cons h2 (ae_cons h1 ae_nil)))⟩
        · rw [h3]
          rcases bool_cases (decide (sinU false (sinW false false a) > 843314857)) with h4 | h4
          · rw [cond_t h4, cond_t h4]; exact ⟨2000, _, _, rsfffg a hb ty, ae_cons h3 (ae_cons h4 (ae_cons h3 (ae_cons h2 (ae_cons h1 ae_nil))))⟩
          · rw [cond_f h4, cond_f h4]; exact ⟨2000, _, _, rsfffs a hb ty, ae_cons h4 (ae_cons h3 (ae_cons h2 (ae_cons h1 ae_nil)))⟩
  · cases hF
theorem clO_mm (s : Int) : clO s = mmV s := by
  unfold clO clampV mmV; (repeat' split) <;> omega
theorem sinU_eq {w : Int} (h0 : -6746518852 ≤ w) (h1 : w ≤ 6746518852) : sinU (decide (w < 0)) w = fabsV w := by
  unfold sinU
  by_cases h : w < 0
  · rw [decide_eq_true h, cond_true, wr_i, w64_in (by omega) (by omega)]
    unfold fabsV; (repeat' split) <;> omega
  · rw [decide_eq_false h, cond_false]
    unfold fabsV; (repeat' split) <;> omega
theorem sinW_bd (b1 b2 : Bool) (a : Int) : -6746518852 ≤ sinW b1 b2 a ∧ sinW b1 b2 a ≤ 6746518852 := by
  obtain ⟨h0, h1, -⟩ := wrap_spec (satV a)
  unfold sinW
  generalize wrapV (satV a) = t at *
  have e1 : wr IntKind.i64 (3373259426 - t) = 3373259426 - t := w64_in (by omega) (by omega)
  have e2 : wr IntKind.i64 (-3373259426 - t) = -3373259426 - t := w64_in (by omega) (by omega)
  rw [e1, e2]
  cases b1 <;> cases b2 <;> simp only [cond_true, cond_false] <;> omega
theorem rsin_eq {w : Int} (h0 : -6746518852 ≤ w) (h1 : w ≤ 6746518852) (h : Bool) : rsinF w = sinF w ∧ rsinFH w h = sinFH w h := by
  unfold rsinF rsinFH sinF sinFH sinX
  rw [sinU_eq h0 h1, clO_mm, clO_mm]
  by_cases hb : fabsV w ≤ 843314857
  · rw [decide_eq_true hb, decide_eq_false (show ¬ fabsV w > 843314857 by omega)]; exact ⟨rfl, rfl⟩
  · rw [decide_eq_false hb, decide_eq_true (show fabsV w > 843314857 by omega)]; exact ⟨rfl, rfl⟩
theorem sumRsin (ty : TypeId) : SumOK Try.prog 43 (accSum ty sinS) := by
  refine (sumRsin0 ty).acc_re fun args hb v h' cs hF hc => ?_
  unfold sinS at hF
  split at hF
  · rename_i a
    cases hF
    obtain ⟨b0, b1⟩ := sinW_bd (decide (wrapV (satV a) > 1686629713)) (decide (wrapV (satV a) < -1686629713)) a
    obtain ⟨e1, e2⟩ := rsin_eq b0 b1 (hb || satH a)
    refine ⟨[], ?_, ae_nil⟩
    show some (I (rsinF _), rsinFH _ (hb || satH a), []) = _
    rw [e1, e2]; rfl
  · cases hF

def atanHG (big : Bool) (v u : Int) (h : Bool) : Bool :=
  serHb (mulV (ttV big (divPV v u 30)) (ttV big (divPV v u 30)) 30) ((bif big then h || divPH v u 30 || divPH (wr IntKind.i64 (divPV v u 30 - 1073741824)) (wr IntKind.i64 (divPV v u 30 + 1073741824)) 30 else h || divPH v u 30) || mulH (ttV big (divPV v u 30)) (ttV big (divPV v u 30)) 30) (-46684427) atL || mulH (ttV big (divPV v u 30)) (serV (mulV (ttV big (divPV v u 30)) (ttV big (divPV v u 30)) 30) (-46684427) atL) 30
theorem razt (y x : Int) (hb : Bool) (ty : TypeId) : (runF Try.prog S36 Zl 2000 47 [A0, I y, I x] [(0, flag ty hb)] 1 [some true, some true]).map acc3 = some (I 0, some (flag ty (hb || satH y || satH x)), [((fabsV (satV y)) == 0, true), (decide ((fabsV (satV y)) > (fabsV (satV x))), true)]) := by kernel_rfl
theorem ratttt (y x : Int) (hb : Bool) (ty : TypeId) : (runF Try.prog S36 Zl 2000 47 [A0, I y, I x] [(0, flag ty hb)] 1 [some true, some false, some true, none, none, none, none, none, none, none, none, none, none, none, none, some true, some true, some true]).map acc3 = some (I (atanB true true true true (divPV (fabsV (satV x)) (fabsV (satV y)) 30)), some (flag ty (atanHG true (fabsV (satV x)) (fabsV (satV y)) (hb || satH y || satH x))), [(decide (satV y < 0), true), (decide (satV x < 0), true), (decide ((fabsV (satV y)) > (fabsV (satV x))), true), (decide (divPV (fabsV (satV x)) (fabsV (satV y)) 30 > 444758426), true), ((fabsV (satV y)) == 0, false), (decide ((fabsV (satV y)) > (fabsV (satV x))), true)]) := by kernel_rfl
theorem ratttf (y x : Int) (hb : Bool) (ty : TypeId) : (runF Try.prog S36 Zl 2000 47 [A0, I y, I x] [(0, flag ty hb)] 1 [some true, some false, some true, none, none, none, none, none, none, none, none, none, none, none, none, some true, some true, some false]).map acc3 = some (I (atanB true true true false (divPV (fabsV (satV x)) (fabsV (satV y)) 30)), some (flag ty (atanHG true (fabsV (satV x)) (fabsV (satV y)) (hb || satH y || satH x))), [(decide (satV y < 0), false), (decide (satV x < 0), true), (decide ((fabsV (satV y)) > (fabsV (satV x))), true), (decide (divPV (fabsV (satV x)) (fabsV (satV y)) 30 > 444758426), true), ((fabsV (satV y)) == 0, false), (decide ((fabsV (satV y)) > (fabsV (satV x))), true)]) := by kernel_rfl
theorem rattft (y x : Int) (hb : Bool) (ty : TypeId) : (runF Try.prog S36 Zl 2000 47 [A0, I y, I x] [(0, flag ty hb)] 1 [some true, some false, some true, none, none, none, none, none, none, none, none, none, none, none, none, some true, some false, some true]).map acc3 = some (I (atanB true true false true (divPV (fabsV (satV x)) (fabsV (satV y)) 30)), some (flag ty (atanHG true (fabsV (satV x)) (fabsV (satV y)) (hb || satH y || satH x))), [(decide (satV y < 0), true), (decide (satV x < 0), false), (decide ((fabsV (satV y)) > (fabsV (satV x))), true), (decide (divPV (fabsV (satV x)) (fabsV (satV y)) 30 > 444758426), true), ((fabsV (satV y)) == 0, false), (decide ((fabsV (satV y)) > (fabsV (satV x))), true)]) := by kernel_rfl
theorem rattff (y x : Int) (hb : Bool) (ty : TypeId) : (runF Try.prog S36 Zl 2000 47 [A0, I y, I x] [(0, flag ty hb)] 1 [some true, some false, some true, none, none, none, none, none, none, none, none, none, none, none, none, some true, some false, some false]).map acc3 = some (I (atanB true true false false (divPV (fabsV (satV x)) (fabsV (satV y)) 30)), some (flag ty (atanHG true (fabsV (satV x)) (fabsV (satV y)) (hb || satH y || satH x))), [(decide (satV y < 0), false), (decide (satV x < 0), false), (decide ((fabsV (satV y)) > (fabsV (satV x))), true), (decide (divPV (fabsV (satV x)) (fabsV (satV y)) 30 > 444758426), true), ((fabsV (satV y)) == 0, false), (decide ((fabsV (satV y)) > (fabsV (satV x))), true)]) := by kernel_rfl
theorem ratftt (y x : Int) (hb : Bool) (ty : TypeId) : (runF Try.prog S36 Zl 2000 47 [A0, I y, I x] [(0, flag ty hb)] 1 [some true, some false, some false, none, none, none, none, none, none, none, none, none, none, none, none, some true, some true, some true]).map acc3 = some (I (atanB false true true true (divPV (fabsV (satV x)) (fabsV (satV y)) 30)), some (flag ty (atanHG false (fabsV (satV x)) (fabsV (satV y)) (hb || satH y || satH x))), [(decide (satV y < 0), true), (decide (satV x < 0), true), (decide ((fabsV (satV y)) > (fabsV (satV x))), true), (decide (divPV (fabsV (satV x)) (fabsV (satV y)) 30 > 444758426), false), ((fabsV (satV y)) == 0, false), (decide ((fabsV (satV y)) > (fabsV (satV x))), true)]) := by kernel_rfl
theorem ratftf (y x : Int) (hb : Bool) (ty : TypeId) : (runF Try.prog S36 Zl 2000 47 [A0, I y, I x] [(0, flag ty hb)] 1 [some true, some false, some false, none, none, none, none, none, none, none, none, none, none, none, none, some true, some true, some false]).map acc3 = some (I (atanB false true true false (divPV (fabsV (satV x)) (fabsV (satV y)) 30)), some (flag ty (atanHG false (fabsV (satV x)) (fabsV (satV y)) (hb || satH y || satH x))), [(decide (satV y < 0), false), (decide (satV x < 0), true), (decide ((fabsV (satV y)) > (fabsV (satV x))), true), (decide (divPV (fabsV (satV x)) (fabsV (satV y)) 30 > 444758426), false), ((fabsV (satV y)) == 0, false), (decide ((fabsV (satV y)) > (fabsV (satV x))), true)]) := by kernel_rfl
theorem ratfft (y x : Int) (hb : Bool) (ty : TypeId) : (runF Try.prog S36 Zl 2000 47 [A0, I y, I x] [(0, flag ty hb)] 1 [some true, some false, some false, none, none, none, none, none, none, none, none, none, none, none, none, some true, some false, some true]).map acc3 = some (I (atanB false true false true (divPV (fabsV (satV x)) (fabsV (satV y)) 30)), some (flag ty (atanHG false (fabsV (satV x)) (fabsV (satV y)) (hb || satH y || satH x))), [(decide (satV y < 0), true), (decide (satV x < 0), false), (decide ((fabsV (satV y)) > (fabsV (satV x))), true), (decide (divPV (fabsV (satV x)) (fabsV (satV y)) 30 > 444758426), false), ((fabsV (satV y)) == 0, false), (decide ((fabsV (satV y)) > (fabsV (satV x))), true)]) := by kernel_rfl
theorem ratfff (y x : Int) (hb : Bool) (ty : TypeId) : (runF Try.prog S36 Zl 2000 47 [A0, I y, I x] [(0, flag ty hb)] 1 [some true, some false, some false, none, none, none, none, none, none, none, none, none, none, none, none, some true, some false, some false]).map acc3 = some (I (atanB false true false false (divPV (fabsV (satV x)) (fabsV (satV y)) 30)), some (flag ty (atanHG false (fabsV (satV x)) (fabsV (satV y)) (hb || satH y || satH x))), [(decide (satV y < 0), false), (decide (satV x < 0), false), (decide ((fabsV (satV y)) > (fabsV (satV x))), true), (decide (divPV (fabsV (satV x)) (fabsV (satV y)) 30 > 444758426), false), ((fabsV (satV y)) == 0, false), (decide ((fabsV (satV y)) > (fabsV (satV x))), true)]) := by kernel_rfl
theorem razf (y x : Int) (hb : Bool) (ty : TypeId) : (runF Try.prog S36 Zl 2000 47 [A0, I y, I x] [(0, flag ty hb)] 1 [some false, some true]).map acc3 = some (I 0, some (flag ty (hb || satH y || satH x)), [((fabsV (satV x)) == 0, true), (decide ((fabsV (satV y)) > (fabsV (satV x))), false)]) := by kernel_rfl
theorem rafttt (y x : Int) (hb : Bool) (ty : TypeId) : (runF Try.prog S36 Zl 2000 47 [A0, I y, I x] [(0, flag ty hb)] 1 [some false, some false, some true, none, none, none, none, none, none, none, none, none, none, none, none, some false, some true, some true]).map acc3 = some (I (atanB true false true true (divPV (fabsV (satV y)) (fabsV (satV x)) 30)), some (flag ty (atanHG true (fabsV (satV y)) (fabsV (satV x)) (hb || satH y || satH x))), [(decide (satV y < 0), true), (decide (satV x < 0), true), (decide ((fabsV (satV y)) > (fabsV (satV x))), false), (decide (divPV (fabsV (satV y)) (fabsV (satV x)) 30 > 444758426), true), ((fabsV (satV x)) == 0, false), (decide ((fabsV (satV y)) > (fabsV (satV x))), false)]) := by kernel_rfl
theorem rafttf (y x : Int) (hb : Bool) (ty : TypeId) : (runF Try.prog S36 Zl 2000 47 [A0, I y, I x] [(0, flag ty hb)] 1 [some false, some false, some true, none, none, none, none, none, none, none, none, none, none, none, none, some false, some true, some false]).map acc3 = some (I (atanB true false true false (divPV (fabsV (satV y)) (fabsV (satV x)) 30)), some (flag ty (atanHG true (fabsV (satV y)) (fabsV (satV x)) (hb || satH y || satH x))), [(decide (satV y < 0), false), (decide (satV x < 0), true), (decide ((fabsV (satV y)) > (fabsV (satV x))), false), (decide (divPV (fabsV (satV y)) (fabsV (satV x)) 30 > 444758426), true), ((fabsV (satV x)) == 0, false), (decide ((fabsV (satV y)) > (fabsV (satV x))), false)]) := by kernel_rfl
theorem raftft (y x : Int) (hb : Bool) (ty : TypeId) : (runF Try.prog S36 Zl 2000 47 [A0, I y, I x] [(0, flag ty hb)] 1 [some false, some false, some true, none, none, none, none, none, none, none, none, none, none, none, none, some false, some false, some true]).map acc3 = some (I (atanB true false false true (divPV (fabsV (satV y)) (fabsV (satV x)) 30)), some (flag ty (atanHG true (fabsV (satV y)) (fabsV (satV x)) (hb || satH y || satH x))), [(decide (satV y < 0), true), (decide (satV x < 0), false), (decide ((fabsV (satV y)) > (fabsV (satV x))), false), (decide (divPV (fabsV (satV y)) (fabsV (satV x)) 30 > 444758426), true), ((fabsV (satV x)) == 0, false), (decide ((fabsV (satV y)) > (fabsV (satV x))), false)]) := by kernel_rfl
theorem raftff (y x : Int) (hb : Bool) (ty : TypeId) : (runF Try.prog S36 Zl 2000 47 [A0, I y, I x] [(0, flag ty hb)] 1 [some false, some false, some true, none, none, none, none, none, none, none, none, none, none, none, none, some false, some false, some false]).map acc3 = some (I (atanB true false false false (divPV (fabsV (satV y)) (fabsV (satV x)) 30)), some (flag ty (atanHG true (fabsV (satV y)) (fabsV (satV x)) (hb || satH y || satH x))), [(decide (satV y < 0), false), (decide (satV x < 0), false), (decide ((fabsV (satV y)) > (fabsV (satV x))), false), (decide (divPV (fabsV (satV y)) (fabsV (satV x)) 30 > 444758426), true), ((fabsV (satV x)) == 0, false), (decide ((fabsV (satV y)) > (fabsV (satV x))), false)]) := by kernel_rfl
theorem rafftt (y x : Int) (hb : Bool) (ty : TypeId) : (runF Try.prog S36 Zl 2000 47 [A0, I y, I x] [(0, flag ty hb)] 1 [some false, some false, some false, none, none, none, none, none, none, none, none, none, none, none, none, some false, some true, some true]).map acc3 = some (I (atanB false false true true (divPV (fabsV (satV y)) (fabsV (satV x)) 30)), some (flag ty (atanHG false (fabsV (satV y)) (fabsV (satV x)) (hb || satH y || satH x))), [(decide (satV y < 0), true), (decide (satV x < 0), true), (decide ((fabsV (satV y)) > (fabsV (satV x))), false), (decide (divPV (fabsV (satV y)) (fabsV (satV x)) 30 > 444758426), false), ((fabsV (satV x)) == 0, false), (decide ((fabsV (satV y)) > (fabsV (satV x))), false)]) := by kernel_rfl
theorem rafftf (y x : Int) (hb : Bool) (ty : TypeId) : (runF Try.prog S36 Zl 2000 47 [A0, I y, I x] [(0, flag ty hb)] 1 [some false, some false, some false, none, none, none, none, none, none, none, none, none, none, none, none, some false, some true, some false]).map acc3 = some (I (atanB false false true false (divPV (fabsV (satV y)) (fabsV (satV x)) 30)), some (flag ty (atanHG false (fabsV (satV y)) (fabsV (satV x)) (hb || satH y || satH x))), [(decide (satV y < 0), false), (decide (satV x < 0), true), (decide ((fabsV (satV y)) > (fabsV (satV x))), false), (decide (divPV (fabsV (satV y)) (fabsV (satV x)) 30 > 444758426), false), ((fabsV (satV x)) == 0, false), (decide ((fabsV (satV y)) > (fabsV (satV x))), false)]) := by kernel_rfl
theorem raffft (y x : Int) (hb : Bool) (ty : TypeId) : (runF Try.prog S36 Zl 2000 47 [A0, I y, I x] [(0, flag ty hb)] 1 [some false, some false, some false, none, none, none, none, none, none, none, none, none, none, none, none, some false, some false, some true]).map acc3 = some (I (atanB false false false true (divPV (fabsV (satV y)) (fabsV (satV x)) 30)), some (flag ty (atanHG false (fabsV (satV y)) (fabsV (satV x)) (hb || satH y || satH x))), [(decide (satV y < 0), true), (decide (satV x < 0), false), (decide ((fabsV (satV y)) > (fabsV (satV x))), false), (decide (divPV (fabsV (satV y)) (fabsV (satV x)) 30 > 444758426), false), ((fabsV (satV x)) == 0, false), (decide ((fabsV (satV y)) > (fabsV (satV x))), false)]) := by kernel_rfl
theorem raffff (y x : Int) (hb : Bool) (ty : TypeId) : (runF Try.prog S36 Zl 2000 47 [A0, I y, I x] [(0, flag ty hb)] 1 [some false, some false, some false, none, none, none, none, none, none, none, none, none, none, none, none, some false, some false, some false]).map acc3 = some (I (atanB false false false false (divPV (fabsV (satV y)) (fabsV (satV x)) 30)), some (flag ty (atanHG false (fabsV (satV y)) (fabsV (satV x)) (hb || satH y || satH x))), [(decide (satV y < 0), false), (decide (satV x < 0), false), (decide ((fabsV (satV y)) > (fabsV (satV x))), false), (decide (divPV (fabsV (satV y)) (fabsV (satV x)) 30 > 444758426), false), ((fabsV (satV x)) == 0, false), (decide ((fabsV (satV y)) > (fabsV (satV x))), false)]) := by kernel_rfl

def ratV (v u y x : Int) (s : Bool) : Int := bif u == 0 then 0 else atanB (decide (divPV v u 30 > 444758426)) s (decide (satV x < 0)) (decide (satV y < 0)) (divPV v u 30)
def ratH (v u : Int) (h : Bool) : Bool := bif u == 0 then h else atanHG (decide (divPV v u 30 > 444758426)) v u h
def ratanS : List LV → Bool → Option (LV × Bool × List (Bool × Bool))
  | [.v (.one (.int .i64 y)), .v (.one (.int .i64 x))], hb => bif decide (fabsV (satV y) > fabsV (satV x)) then some (I (ratV (fabsV (satV x)) (fabsV (satV y)) y x true), ratH (fabsV (satV x)) (fabsV (satV y)) (hb || satH y || satH x), []) else some (I (ratV (fabsV (satV y)) (fabsV (satV x)) y x false), ratH (fabsV (satV y)) (fabsV (satV x)) (hb || satH y || satH x), [])
  | _, _ => none
theorem sumRatan0 (ty : TypeId) : SumOK Try.prog 47 (accSum ty ratanS) := by
  refine accSum_run (z := Zl) sound36 (own_of sound36 Try.func47 (by kernel_rfl)) fun args hb v h' cs hF hc => ?_
  unfold ratanS at hF
  split at hF
  · rename_i y x
    rcases bool_cases (decide (fabsV (satV y) > fabsV (satV x))) with h0 | h0
    · rw [cond_t h0] at hF
      cases hF
      refine ⟨rfl, ?_⟩
      unfold ratV ratH
      rcases bool_cases ((fabsV (satV y)) == 0) with h1 | h1
      · rw [cond_t h1, cond_t h1]; exact ⟨2000, _, _, razt y x hb ty, ae_cons h1 (ae_cons h0 ae_nil)⟩
      · rw [cond_f h1, cond_f h1]
        rcases bool_cases (decide (divPV (fabsV (satV x)) (fabsV (satV y)) 30 > 444758426)) with h2 | h2 <;> rcases bool_cases (decide (satV x < 0)) with h3 | h3 <;> rcases bool_cases (decide (satV y < 0)) with h4 | h4 <;> rw [h2, h3, h4]
        · exact ⟨2000, _, _, ratttt y x hb ty, ae_cons h4 (ae_cons h3 (ae_cons h0 (ae_cons h2 (ae_cons h1 (ae_cons h0 ae_nil)))))⟩
        · exact ⟨2000, _, _, ratttf y x hb ty, ae_cons h4 (ae_cons h3 (ae_cons h0 (ae_cons h2 (ae_cons h1 (ae_cons h0 ae_nil)))))⟩
        · exact ⟨2000, _, _, rattft y x hb ty, ae_cons h4 (ae_cons h3 (ae_cons h0 (ae_cons h2 (ae_cons h1 (ae_cons h0 ae_nil)))))⟩
        · exact ⟨2000, _, _, rattff y x hb ty, ae_cons h4 (ae_cons h3 (ae_cons h0 (ae_cons h2 (ae_cons h1 (ae_cons h0 ae_nil)))))⟩
        · exact ⟨2000, _, _, ratftt y x hb ty, ae_cons h4 (ae_cons h3 (ae_cons h0 (ae_cons h2 (ae_cons h1 (ae_cons h0 ae_nil)))))⟩
        · exact ⟨2000, _, _, ratftf y x hb ty, ae_cons h4 (ae_cons h3 (ae_cons h0 (ae_cons h2 (ae_cons h1 (ae_cons h0 ae_nil)))))⟩
        · exact ⟨2000, _, _, ratfft y x hb ty, ae_cons h4 (ae_cons h3 (ae_cons h0 (ae_cons h2 (ae_cons h1 (ae_cons h0 ae_nil)))))⟩
        · exact ⟨2000, _, _, ratfff y x hb ty, ae_cons h4 (ae_cons h3 (ae_cons h0 (ae_cons h2 (ae_cons h1 (ae_cons h0 ae_nil)))))⟩
    · rw [cond_f h0] at hF
      cases hF
      refine ⟨rfl, ?_⟩
      unfold ratV ratH
      rcases bool_cases ((fabsV (satV x)) == 0) with h1 | h1
      · rw [cond_t h1, cond_t h1]; exact ⟨2000, _, _, razf y x hb ty, ae_cons h1 (ae_cons h0 ae_nil)⟩
      · rw [cond_f h1, cond_f h1]
        rcases bool_cases (decide (divPV (fabsV (satV y)) (fabsV (satV x)) 30 > 444758426)) with h2 | h2 <;> rcases bool_cases (decide (satV x < 0)) with h3 | h3 <;> rcases bool_cases (decide (satV y < 0)) with h4 | h4 <;> rw [h2, h3, h4]
        · exact ⟨2000, _, _, rafttt y x hb ty, ae_cons h4 (ae_cons h3 (ae_cons h0 (ae_cons h2 (ae_cons h1 (ae_cons h0 ae_nil)))))⟩
        · exact ⟨2000, _, _, rafttf y x hb ty, ae_cons h4 (ae_cons h3 (ae_cons h0 (ae_cons h2 (ae_cons h1 (ae_cons h0 ae_nil)))))⟩
        · exact ⟨2000, _, _, raftft y x hb ty, ae_cons h4 (ae_cons h3 (ae_cons h0 (ae_cons h2 (ae_cons h1 (ae_cons h0 ae_nil)))))⟩
        · exact ⟨2000, _, _, raftff y x hb ty, ae_cons h4 (ae_cons h3 (ae_cons h0 (ae_cons h2 (ae_cons h1 (ae_cons h0 ae_nil)))))⟩
        · exact ⟨2000, _, _, rafftt y x hb ty, ae_cons h4 (ae_cons h3 (ae_cons h0 (ae_cons h2 (ae_cons h1 (ae_cons h0 ae_nil)))))⟩
        · exact ⟨2000, _, _, rafftf y x hb ty, ae_cons h4 (ae_cons h3 (ae_cons h0 (ae_cons h2 (ae_cons h1 (ae_cons h0 ae_nil)))))⟩
        · exact ⟨2000, _, _, raffft y x hb ty, ae_cons h4 (ae_cons h3 (ae_cons h0 (ae_cons h2 (ae_cons h1 (ae_cons h0 ae_nil)))))⟩
        · exact ⟨2000, _, _, raffff y x hb ty, ae_cons h4 (ae_cons h3 (ae_cons h0 (ae_cons h2 (ae_cons h1 (ae_cons h0 ae_nil)))))⟩
  · cases hF
theorem sumRatan (ty : TypeId) : SumOK Try.prog 47 (accSum ty atanS) := by
  refine (sumRatan0 ty).acc_re fun args hb v h' cs hF hc => ?_
  unfold atanS at hF
  split at hF
  · rename_i y x
    cases hF
    refine ⟨[], ?_, ae_nil⟩
    unfold ratanS
    show (bif decide (fabsV (satV y) > fabsV (satV x)) then _ else _) = _
    have eH : ∀ b h, atanHB b y x h = atanHG b (mnV y x) (mxV y x) h := fun b h => rfl
    have eT : t0V y x = divPV (mnV y x) (mxV y x) 30 := rfl
    unfold atanV atanH ratV ratH
    rw [eH, eT]
    by_cases h : fabsV (satV y) > fabsV (satV x)
    · have e1 : mnV y x = fabsV (satV x) := by unfold mnV; rw [if_pos h]
      have e2 : mxV y x = fabsV (satV y) := by unfold mxV; rw [if_neg (by omega)]
      rw [cond_t (decide_eq_true h), e1, e2, decide_eq_true h]
    · have e1 : mnV y x = fabsV (satV y) := by unfold mnV; rw [if_neg (by omega)]
      have e2 : mxV y x = fabsV (satV x) := by unfold mxV; split <;> omega
      rw [cond_f (decide_eq_false h), e1, e2, decide_eq_false h]
  · cases hF
noncomputable def S38 : FuncId → Option SumK := more (more (more S36 42 (accSum 27 sinS)) 43 (accAny sinS)) 47 (accAny atanS)
theorem sound38 : Sound Try.prog S38 := ((sound36.more sumSin).more (accAny_ok sumRsin)).more (accAny_ok sumRatan)

/-- The cosine; the angle of a sine. -/
def cosV (a : Int) : Int := sinV (wr IntKind.i64 (1686629713 + wrapV a))
def cosH (a : Int) (h : Bool) : Bool := sinH (wr IntKind.i64 (1686629713 + wrapV a)) h
def asinV (a : Int) : Int := atanV (clO a) (sqrtV (wr IntKind.i64 (1073741824 - mulV (clO a) (clO a) 30)))
def asinH (a : Int) (h : Bool) : Bool := atanH (clO a) (sqrtV (wr IntKind.i64 (1073741824 - mulV (clO a) (clO a) 30))) (h || clampH a (-1073741824) 1073741824 || mulH (clO a) (clO a) 30 || sqrtH (wr IntKind.i64 (1073741824 - mulV (clO a) (clO a) 30)))
def cosS : List LV → Bool → Option (LV × Bool × List (Bool × Bool))
  | [.v (.one (.int .i64 a))], hb => some (I (cosV a), cosH a hb, [])
  | _, _ => none
def asinS : List LV → Bool → Option (LV × Bool × List (Bool × Bool))
  | [.v (.one (.int .i64 a))], hb => some (I (asinV a), asinH a hb, [])
  | _, _ => none
theorem runCos (a : Int) (hb : Bool) (ty : TypeId) (ht : ty = 27) : (runF Try.prog S38 Zl 2000 44 [A0, I a] [(0, flag ty hb)] 1 []).map acc3 = some (I (cosV a), some (flag ty (cosH a hb)), []) := by subst ht; kernel_rfl
theorem sumCos : SumOK Try.prog 44 (accSum 27 cosS) := by
  refine accSum_run (z := Zl) sound38 (own_of sound38 Try.func44 (by kernel_rfl)) fun args hb v h' cs hF hc => ?_
  unfold cosS at hF
  split at hF
  · rename_i a
    cases hF
    exact ⟨rfl, 2000, _, _, runCos a hb _ rfl, ae_nil⟩
  · cases hF
theorem runRcos (a : Int) (hb : Bool) (ty : TypeId) : (runF Try.prog S38 Zl 2000 45 [A0, I a] [(0, flag ty hb)] 1 []).map acc3 = some (I (cosV a), some (flag ty (cosH a hb)), []) := by kernel_rfl
theorem sumRcos (ty : TypeId) : SumOK Try.prog 45 (accSum ty cosS) := by
  refine accSum_run (z := Zl) sound38 (own_of sound38 Try.func45 (by kernel_rfl)) fun args hb v h' cs hF hc => ?_
  unfold cosS at hF
  split at hF
  · rename_i a
    cases hF
    exact ⟨rfl, 2000, _, _, runRcos a hb _, ae_nil⟩
  · cases hF
theorem runAsin (a : Int) (hb : Bool) (ty : TypeId) (ht : ty = 27) : (runF Try.prog S38 Zl 2000 48 [A0, I a] [(0, flag ty hb)] 1 []).map acc3 = some (I (asinV a), some (flag ty (asinH a hb)), []) := by subst ht; kernel_rfl
theorem sumAsin : SumOK Try.prog 48 (accSum 27 asinS) := by
  refine accSum_run (z := Zl) sound38 (own_of sound38 Try.func48 (by kernel_rfl)) fun args hb v h' cs hF hc => ?_
  unfold asinS at hF
  split at hF
  · rename_i a
    cases hF
    exact ⟨rfl, 2000, _, _, runAsin a hb _ rfl, ae_nil⟩
  · cases hF
theorem runRasin (a : Int) (hb : Bool) (ty : TypeId) : (runF Try.prog S38 Zl 2000 49 [A0, I a] [(0, flag ty hb)] 1 []).map acc3 = some (I (asinV a), some (flag ty (asinH a hb)), []) := by kernel_rfl
theorem sumRasin (ty : TypeId) : SumOK Try.prog 49 (accSum ty asinS) := by
  refine accSum_run (z := Zl) sound38 (own_of sound38 Try.func49 (by kernel_rfl)) fun args hb v h' cs hF hc => ?_
  unfold asinS at hF
  split at hF
  · rename_i a
    cases hF
    exact ⟨rfl, 2000, _, _, runRasin a hb _, ae_nil⟩
  · cases hF
noncomputable def S39 : FuncId → Option SumK := more (more (more (more (more S38 44 (accSum 27 cosS)) 45 (accAny cosS)) 48 (accSum 27 asinS)) 49 (accAny asinS)) 41 (pureSum trueF)
theorem sound39 : Sound Try.prog S39 := ((((sound38.more sumCos).more (accAny_ok sumRcos)).more sumAsin).more (accAny_ok sumRasin)).more sumAwakeD
end Go.Proofs.Ythfanchjkkeejaa

/- Quaternions in both answers: their runs, against what they compute. -/
namespace Go.Proofs.Ythfanchjkkeejaa
open Go.Lr
set_option linter.unusedVariables false
set_option linter.unusedSimpArgs false

theorem qsameR1 (a0 a1 a2 a3 b0 b1 b2 b3 : Int) : (runF Try.prog S34 Zl 2000 32 [.v (.agg [.int .i64 a0, .int .i64 a1, .int .i64 a2, .int .i64 a3]), .v (.agg [.int .i64 b0, .int .i64 b1, .int .i64 b2, .int .i64 b3])] [] 0 [none, none, none, none, none, none, none, none, none, none, some true, some true, some true, some true, some true, none, some true, some true, some true, some true, some true, some true, some true, some true, some true, some true, some true, some true, some true, some true, none, some true, some true, some true, some true, some true, some true, some true, some true, some true, some true, some true, some true, some true, some true, none, some true, some true, some true, some true, some true, some true, some true, some true, some true, some true, some true, some true, some true, some true, none, some true, some true]).map (fun r => (r.1, r.2.2.2)) = some (LV.v (V1.one (At.bool true)), [(a0 == b0 && (a1 == b1 && (a2 == b2 && (a3 == b3 && true))), true), (a0 == b0 && (a1 == b1 && (a2 == b2 && (a3 == b3 && true))), true), (a3 == wr IntKind.i64 (0 - b3), true), (a3 == wr IntKind.i64 (0 - b3), true), (a3 == wr IntKind.i64 (0 - b3), true), (a3 == wr IntKind.i64 (0 - b3), true), (a3 == wr IntKind.i64 (0 - b3), true), (a2 != -9223372036854775808, true), (a2 != -9223372036854775808, true), (a2 != -9223372036854775808, true), (a2 != -9223372036854775808, true), (a2 != -9223372036854775808, true), (a2 != -9223372036854775808, true), (a2 != -9223372036854775808, true), (a2 != -9223372036854775808, true), (a2 != -9223372036854775808, true), (a2 == wr IntKind.i64 (0 - b2), true), (a2 == wr IntKind.i64 (0 - b2), true), (a2 == wr IntKind.i64 (0 - b2), true), (a2 == wr IntKind.i64 (0 - b2), true), (a2 == wr IntKind.i64 (0 - b2), true), (a1 != -9223372036854775808, true), (a1 != -9223372036854775808, true), (a1 != -9223372036854775808, true), (a1 != -9223372036854775808, true), (a1 != -9223372036854775808, true), (a1 != -9223372036854775808, true), (a1 != -9223372036854775808, true), (a1 != -9223372036854775808, true), (a1 != -9223372036854775808, true), (a1 == wr IntKind.i64 (0 - b1), true), (a1 == wr IntKind.i64 (0 - b1), true), (a1 == wr IntKind.i64 (0 - b1), true), (a1 == wr IntKind.i64 (0 - b1), true), (a1 == wr IntKind.i64 (0 - b1), true), (a0 != -9223372036854775808, true), (a0 != -9223372036854775808, true), (a0 != -9223372036854775808, true), (a0 != -9223372036854775808, true), (a0 != -9223372036854775808, true), (a0 != -9223372036854775808, true), (a0 != -9223372036854775808, true), (a0 != -9223372036854775808, true), (a0 != -9223372036854775808, true), (a0 == wr IntKind.i64 (0 - b0), true), (a0 == wr IntKind.i64 (0 - b0), true), (a0 == wr IntKind.i64 (0 - b0), true), (a0 == wr IntKind.i64 (0 - b0), true), (a0 == wr IntKind.i64 (0 - b0), true)]) := by kernel_rfl
theorem qsameR2 (a0 a1 a2 a3 b0 b1 b2 b3 : Int) : (runF Try.prog S34 Zl 2000 32 [.v (.agg [.int .i64 a0, .int .i64 a1, .int .i64 a2, .int .i64 a3]), .v (.agg [.int .i64 b0, .int .i64 b1, .int .i64 b2, .int .i64 b3])] [] 0 [none, none, none, none, none, none, none, none, none, none, some true, some true, some true, some true, some true, none, some true, some true, some true, some true, some true, some true, some true, some true, some true, some true, some true, some true, some true, some true, none, some true, some true, some true, some true, some true, some true, some true, some true, some true, some true, some true, some true, some true, some true, none, some true, some true, some true, some true, some true, some true, some true, some true, some true, some true, some true, some true, some true, some true, none, some false, some false]).map (fun r => (r.1, r.2.2.2)) = some (LV.v (V1.one (At.bool (a3 != -9223372036854775808))), [(a0 == b0 && (a1 == b1 && (a2 == b2 && (a3 == b3 && true))), false), (a0 == b0 && (a1 == b1 && (a2 == b2 && (a3 == b3 && true))), false), (a3 == wr IntKind.i64 (0 - b3), true), (a3 == wr IntKind.i64 (0 - b3), true), (a3 == wr IntKind.i64 (0 - b3), true), (a3 == wr IntKind.i64 (0 - b3), true), (a3 == wr IntKind.i64 (0 - b3), true), (a2 != -9223372036854775808, true), (a2 != -9223372036854775808, true), (a2 != -9223372036854775808, true), (a2 != -9223372036854775808, true), (a2 != -9223372036854775808, true), (a2 != -9223372036854775808, true), (a2 != -9223372036854775808, true), (a2 != -9223372036854775808, true), (a2 != -9223372036854775808, true), (a2 == wr IntKind.i64 (0 - b2), true), (a2 == wr IntKind.i64 (0 - b2), true), (a2 == wr IntKind.i64 (0 - b2), true), (a2 == wr IntKind.i64 (0 - b2), true), (a2 == wr IntKind.i64 (0 - b2), true), (a1 != -9223372036854775808, true), (a1 != -9223372036854775808, true), (a1 != -9223372036854775808, true), (a1 != -9223372036854775808, true), (a1 != -9223372036854775808, true), (a1 != -9223372036854775808, true), (a1 != -9223372036854775808, true), (a1 != -9223372036854775808, true), (a1 != -9223372036854775808, true), (a1 == wr IntKind.i64 (0 - b1), true), (a1 == wr IntKind.i64 (0 - b1), true), (a1 == wr IntKind.i64 (0 - b1), true), (a1 == wr IntKind.i64 (0 - b1), true), (a1 == wr IntKind.i64 (0 - b1), true), (a0 != -9223372036854775808, true), (a0 != -9223372036854775808, true), (a0 != -9223372036854775808, true), (a0 != -9223372036854775808, true), (a0 != -9223372036854775808, true), (a0 != -9223372036854775808, true), (a0 != -9223372036854775808, true), (a0 != -9223372036854775808, true), (a0 != -9223372036854775808, true), (a0 == wr IntKind.i64 (0 - b0), true), (a0 == wr IntKind.i64 (0 - b0), true), (a0 == wr IntKind.i64 (0 - b0), true), (a0 == wr IntKind.i64 (0 - b0), true), (a0 == wr IntKind.i64 (0 - b0), true)]) := by kernel_rfl
theorem qsameR3 (a0 a1 a2 a3 b0 b1 b2 b3 : Int) : (runF Try.prog S34 Zl 2000 32 [.v (.agg [.int .i64 a0, .int .i64 a1, .int .i64 a2, .int .i64 a3]), .v (.agg [.int .i64 b0, .int .i64 b1, .int .i64 b2, .int .i64 b3])] [] 0 [none, none, none, none, none, none, none, none, none, none, some true, some true, some true, some true, some true, none, some true, some true, some true, some true, some true, some true, some true, some true, some true, some true, some true, some true, some true, some true, none, some true, some true, some true, some true, some true, some true, some true, some true, some true, some true, some true, some true, some true, some true, none, some true, some true, some true, some true, some true, some true, some true, some true, some true, some false, some false, some false, some false, some false, none, some true, some true]).map (fun r => (r.1, r.2.2.2)) = some (LV.v (V1.one (At.bool true)), [(a0 == b0 && (a1 == b1 && (a2 == b2 && (a3 == b3 && true))), true), (a0 == b0 && (a1 == b1 && (a2 == b2 && (a3 == b3 && true))), true), (a3 == wr IntKind.i64 (0 - b3), false), (a3 == wr IntKind.i64 (0 - b3), false), (a3 == wr IntKind.i64 (0 - b3), false), (a3 == wr IntKind.i64 (0 - b3), false), (a3 == wr IntKind.i64 (0 - b3), false), (a2 != -9223372036854775808, true), (a2 != -9223372036854775808, true), (a2 != -9223372036854775808, true), (a2 != -9223372036854775808, true), (a2 != -9223372036854775808, true), (a2 != -9223372036854775808, true), (a2 != -9223372036854775808, true), (a2 != -9223372036854775808, true), (a2 != -9223372036854775808, true), (a2 == wr IntKind.i64 (0 - b2), true), (a2 == wr IntKind.i64 (0 - b2), true), (a2 == wr IntKind.i64 (0 - b2), true), (a2 == wr IntKind.i64 (0 - b2), true), (a2 == wr IntKind.i64 (0 - b2), true), (a1 != -9223372036854775808, true), (a1 != -9223372036854775808, true), (a1 != -9223372036854775808, true), (a1 != -9223372036854775808, true), (a1 != -9223372036854775808, true), (a1 != -9223372036854775808, true), (a1 != -9223372036854775808, true), (a1 != -9223372036854775808, true), (a1 != -9223372036854775808, true), (a1 == wr IntKind.i64 (0 - b1), true), (a1 == wr IntKind.i64 (0 - b1), true), (a1 == wr IntKind.i64 (0 - b1), true), (a1 == wr IntKind.i64 (0 - b1), true), (a1 == wr IntKind.i64 (0 - b1), true), (a0 != -9223372036854775808, true), (a0 != -9223372036854775808, true), (a0 != -9223372036854775808, true), (a0 != -9223372036854775808, true), (a0 != -9223372036854775808, true), (a0 != -9223372036854775808, true), (a0 != -9223372036854775808, true), (a0 != -9223372036854775808, true), (a0 != -9223372036854775808, true), (a0 == wr IntKind.i64 (0 - b0), true), (a0 == wr IntKind.i64 (0 - b0), true), (a0 == wr IntKind.i64 (0 - b0), true), (a0 == wr IntKind.i64 (0 - b0), true), (a0 == wr IntKind.i64 (0 - b0), true)]) := by kernel_rfl
theorem qsameR4 (a0 a1 a2 a3 b0 b1 b2 b3 : Int) : (runF Try.prog S34 Zl 2000 32 [.v (.agg [.int .i64 a0, .int .i64 a1, .int .i64 a2, .int .i64 a3]), .v (.agg [.int .i64 b0, .int .i64 b1, .int .i64 b2, .int .i64 b3])] [] 0 [none, none, none, none, none, none, none, none, none, none, some true, some true, some true, some true, some true, none, some true, some true, some true, some true, some true, some true, some true, some true, some true, some true, some true, some true, some true, some true, none, some true, some true, some true, some true, some true, some true, some true, some true, some true, some true, some true, some true, some true, some true, none, some true, some true, some true, some true, some true, some true, some true, some true, some true, some false, some false, some false, some false, some false, none, some false, some false]).map (fun r => (r.1, r.2.2.2)) = some (LV.v (V1.one (At.bool false)), [(a0 == b0 && (a1 == b1 && (a2 == b2 && (a3 == b3 && true))), false), (a0 == b0 && (a1 == b1 && (a2 == b2 && (a3 == b3 && true))), false), (a3 == wr IntKind.i64 (0 - b3), false), (a3 == wr IntKind.i64 (0 - b3), false), (a3 == wr IntKind.i64 (0 - b3), false), (a3 == wr IntKind.i64 (0 - b3), false), (a3 == wr IntKind.i64 (0 - b3), false), (a2 != -9223372036854775808, true), (a2 != -9223372036854775808, true), (a2 != -9223372036854775808, true), (a2 != -9223372036854775808, true), (a2 != -9223372036854775808, true), (a2 != -9223372036854775808, true), (a2 != -9223372036854775808, true), (a2 != -9223372036854775808, true), (a2 != -9223372036854775808, true), (a2 == wr IntKind.i64 (0 - b2), true), (a2 == wr IntKind.i64 (0 - b2), true), (a2 == wr IntKind.i64 (0 - b2), true), (a2 == wr IntKind.i64 (0 - b2), true), (a2 == wr IntKind.i64 (0 - b2), true), (a1 != -9223372036854775808, true), (a1 != -9223372036854775808, true), (a1 != -9223372036854775808, true), (a1 != -9223372036854775808, true), (a1 != -9223372036854775808, true), (a1 != -9223372036854775808, true), (a1 != -9223372036854775808, true), (a1 != -9223372036854775808, true), (a1 != -9223372036854775808, true), (a1 == wr IntKind.i64 (0 - b1), true), (a1 == wr IntKind.i64 (0 - b1), true), (a1 == wr IntKind.i64 (0 - b1), true), (a1 == wr IntKind.i64 (0 - b1), true), (a1 == wr IntKind.i64 (0 - b1), true), (a0 != -9223372036854775808, true), (a0 != -9223372036854775808, true), (a0 != -9223372036854775808, true), (a0 != -9223372036854775808, true), (a0 != -9223372036854775808, true), (a0 != -9223372036854775808, true), (a0 != -9223372036854775808, true), (a0 != -9223372036854775808, true), (a0 != -9223372036854775808, true), (a0 == wr IntKind.i64 (0 - b0), true), (a0 == wr IntKind.i64 (0 - b0), true), (a0 == wr IntKind.i64 (0 - b0), true), (a0 == wr IntKind.i64 (0 - b0), true), (a0 == wr IntKind.i64 (0 - b0), true)]) := by kernel_rfl
theorem qsameR5 (a0 a1 a2 a3 b0 b1 b2 b3 : Int) : (runF Try.prog S34 Zl 2000 32 [.v (.agg [.int .i64 a0, .int .i64 a1, .int .i64 a2, .int .i64 a3]), .v (.agg [.int .i64 b0, .int .i64 b1, .int .i64 b2, .int .i64 b3])] [] 0 [none, none, none, none, none, none, none, none, none, none, some true, some true, some true, some true, some true, none, some true, some true, some true, some true, some true, some true, some true, some true, some true, some true, some true, some true, some true, some true, none, some true, some true, some true, some true, some true, some true, some true, some true, some true, some true, some true, some true, some true, some true, none, some false, some false, some false, some false, some false, some false, some false, some false, some false, none, none, none, none, none, none, some true, some true]).map (fun r => (r.1, r.2.2.2)) = some (LV.v (V1.one (At.bool true)), [(a0 == b0 && (a1 == b1 && (a2 == b2 && (a3 == b3 && true))), true), (a0 == b0 && (a1 == b1 && (a2 == b2 && (a3 == b3 && true))), true), (a2 != -9223372036854775808, false), (a2 != -9223372036854775808, false), (a2 != -9223372036854775808, false), (a2 != -9223372036854775808, false), (a2 != -9223372036854775808, false), (a2 != -9223372036854775808, false), (a2 != -9223372036854775808, false), (a2 != -9223372036854775808, false), (a2 != -9223372036854775808, false), (a2 == wr IntKind.i64 (0 - b2), true), (a2 == wr IntKind.i64 (0 - b2), true), (a2 == wr IntKind.i64 (0 - b2), true), (a2 == wr IntKind.i64 (0 - b2), true), (a2 == wr IntKind.i64 (0 - b2), true), (a1 != -9223372036854775808, true), (a1 != -9223372036854775808, true), (a1 != -9223372036854775808, true), (a1 != -9223372036854775808, true), (a1 != -9223372036854775808, true), (a1 != -9223372036854775808, true), (a1 != -9223372036854775808, true), (a1 != -9223372036854775808, true), (a1 != -9223372036854775808, true), (a1 == wr IntKind.i64 (0 - b1), true), (a1 == wr IntKind.i64 (0 - b1), true), (a1 == wr IntKind.i64 (0 - b1), true), (a1 == wr IntKind.i64 (0 - b1), true), (a1 == wr IntKind.i64 (0 - b1), true), (a0 != -9223372036854775808, true), (a0 != -9223372036854775808, true), (a0 != -9223372036854775808, true), (a0 != -9223372036854775808, true), (a0 != -9223372036854775808, true), (a0 != -9223372036854775808, true), (a0 != -9223372036854775808, true), (a0 != -9223372036854775808, true), (a0 != -9223372036854775808, true), (a0 == wr IntKind.i64 (0 - b0), true), (a0 == wr IntKind.i64 (0 - b0), true), (a0 == wr IntKind.i64 (0 - b0), true), (a0 == wr IntKind.i64 (0 - b0), true), (a0 == wr IntKind.i64 (0 - b0), true)]) := by kernel_rfl
theorem qsameR6 (a0 a1 a2 a3 b0 b1 b2 b3 : Int) : (runF Try.prog S34 Zl 2000 32 [.v (.agg [.int .i64 a0, .int .i64 a1, .int .i64 a2, .int .i64 a3]), .v (.agg [.int .i64 b0, .int .i64 b1, .int .i64 b2, .int .i64 b3])] [] 0 [none, none, none, none, none, none, none, none, none, none, some true, some true, some true, some true, some true, none, some true, some true, some true, some true, some true, some true, some true, some true, some true, some true, some true, some true, some true, some true, none, some true, some true, some true, some true, some true, some true, some true, some true, some true, some true, some true, some true, some true, some true, none, some false, some false, some false, some false, some false, some false, some false, some false, some false, none, none, none, none, none, none, some false, some false]).map (fun r => (r.1, r.2.2.2)) = some (LV.v (V1.one (At.bool false)), [(a0 == b0 && (a1 == b1 && (a2 == b2 && (a3 == b3 && true))), false), (a0 == b0 && (a1 == b1 && (a2 == b2 && (a3 == b3 && true))), false), (a2 != -9223372036854775808, false), (a2 != -9223372036854775808, false), (a2 != -9223372036854775808, false), (a2 != -9223372036854775808, false), (a2 != -9223372036854775808, false), (a2 != -9223372036854775808, false), (a2 != -9223372036854775808, false), (a2 != -9223372036854775808, false), (a2 != -9223372036854775808, false), (a2 == wr IntKind.i64 (0 - b2), true), (a2 == wr IntKind.i64 (0 - b2), true), (a2 == wr IntKind.i64 (0 - b2), true), (a2 == wr IntKind.i64 (0 - b2), true), (a2 == wr IntKind.i64 (0 - b2), true), (a1 != -9223372036854775808, true), (a1 != -9223372036854775808, true), (a1 != -9223372036854775808, true), (a1 != -9223372036854775808, true), (a1 != -9223372036854775808, true), (a1 != -9223372036854775808, true), (a1 != -9223372036854775808, true), (a1 != -9223372036854775808, true), (a1 != -9223372036854775808, true), (a1 == wr IntKind.i64 (0 - b1), true), (a1 == wr IntKind.i64 (0 - b1), true), (a1 == wr IntKind.i64 (0 - b1), true), (a1 == wr IntKind.i64 (0 - b1), true), (a1 == wr IntKind.i64 (0 - b1), true), (a0 != -9223372036854775808, true), (a0 != -9223372036854775808, true), (a0 != -9223372036854775808, true), (a0 != -9223372036854775808, true), (a0 != -9223372036854775808, true), (a0 != -9223372036854775808, true), (a0 != -9223372036854775808, true), (a0 != -9223372036854775808, true), (a0 != -9223372036854775808, true), (a0 == wr IntKind.i64 (0 - b0), true), (a0 == wr IntKind.i64 (0 - b0), true), (a0 == wr IntKind.i64 (0 - b0), true), (a0 == wr IntKind.i64 (0 - b0), true), (a0 == wr IntKind.i64 (0 - b0), true)]) := by kernel_rfl
theorem qsameR7 (a0 a1 a2 a3 b0 b1 b2 b3 : Int) : (runF Try.prog S34 Zl 2000 32 [.v (.agg [.int .i64 a0, .int .i64 a1, .int .i64 a2, .int .i64 a3]), .v (.agg [.int .i64 b0, .int .i64 b1, .int .i64 b2, .int .i64 b3])] [] 0 [none, none, none, none, none, none, none, none, none, none, some true, some true, some true, some true, some true, none, some true, some true, some true, some true, some true, some true, some true, some true, some true, some true, some true, some true, some true, some true, none, some true, some true, some true, some true, some true, some true, some true, some true, some true, some false, some false, some false, some false, some false, none, none, none, none, none, none, none, none, none, none, none, none, none, none, none, none, some true, some true]).map (fun r => (r.1, r.2.2.2)) = some (LV.v (V1.one (At.bool true)), [(a0 == b0 && (a1 == b1 && (a2 == b2 && (a3 == b3 && true))), true), (a0 == b0 && (a1 == b1 && (a2 == b2 && (a3 == b3 && true))), true), (a2 == wr IntKind.i64 (0 - b2), false), (a2 == wr IntKind.i64 (0 - b2), false), (a2 == wr IntKind.i64 (0 - b2), false), (a2 == wr IntKind.i64 (0 - b2), false), (a2 == wr IntKind.i64 (0 - b2), false), (a1 != -9223372036854775808, true), (a1 != -9223372036854775808, true), (a1 != -9223372036854775808, true), (a1 != -9223372036854775808, true), (a1 != -9223372036854775808, true), (a1 != -9223372036854775808, true), (a1 != -9223372036854775808, true), (a1 != -9223372036854775808, true), (a1 != -9223372036854775808, true), (a1 == wr IntKind.i64 (0 - b1), true), (a1 == wr IntKind.i64 (0 - b1), true), (a1 == wr IntKind.i64 (0 - b1), true), (a1 == wr IntKind.i64 (0 - b1), true), (a1 == wr IntKind.i64 (0 - b1), true), (a0 != -9223372036854775808, true), (a0 != -9223372036854775808, true), (a0 != -9223372036854775808, true), (a0 != -9223372036854775808, true), (a0 != -9223372036854775808, true), (a0 != -9223372036854775808, true), (a0 != -9223372036854775808, true), (a0 != -9223372036854775808, true), (a0 != -9223372036854775808, true), (a0 == wr IntKind.i64 (0 - b0), true), (a0 == wr IntKind.i64 (0 - b0), true), (a0 == wr IntKind.i64 (0 - b0), true), (a0 == wr IntKind.i64 (0 - b0), true), (a0 == wr IntKind.i64 (0 - b0), true)]) := by kernel_rfl
theorem qsameR8 (a0 a1 a2 a3 b0 b1 b2 b3 : Int) : (runF Try.prog S34 Zl 2000 32 [.v (.agg [.int .i64 a0, .int .i64 a1, .int .i64 a2, .int .i64 a3]), .v (.agg [.int .i64 b0, .int .i64 b1, .int .i64 b2, .int .i64 b3])] [] 0 [none, none, none, none, none, none, none, none, none, none, some true, some true, some true, some true, some true, none, some true, some true, some true, some true, some true, some true, some true, some true, some true, some true, some true, some true, some true, some true, none, some true, some true, some true, some true, some true, some true, some true, some true, some true, some false, some false, some false, some false, some false, none, none, none, none, none, none, none, none, none, none, none, none, none, none, none, none, some false, some false]).map (fun r => (r.1, r.2.2.2)) = some (LV.v (V1.one (At.bool false)), [(a0 == b0 && (a1 == b1 && (a2 == b2 && (a3 == b3 && true))), false), (a0 == b0 && (a1 == b1 && (a2 == b2 && (a3 == b3 && true))), false), (a2 == wr IntKind.i64 (0 - b2), false), (a2 == wr IntKind.i64 (0 - b2), false), (a2 == wr IntKind.i64 (0 - b2), false), (a2 == wr IntKind.i64 (0 - b2), false), (a2 == wr IntKind.i64 (0 - b2), false), (a1 != -9223372036854775808, true), (a1 != -9223372036854775808, true), (a1 != -9223372036854775808, true), (a1 != -9223372036854775808, true), (a1 != -9223372036854775808, true), (a1 != -9223372036854775808, true), (a1 != -9223372036854775808, true), (a1 != -9223372036854775808, true), (a1 != -9223372036854775808, true), (a1 == wr IntKind.i64 (0 - b1), true), (a1 == wr IntKind.i64 (0 - b1), true), (a1 == wr IntKind.i64 (0 - b1), true), (a1 == wr IntKind.i64 (0 - b1), true), (a1 == wr IntKind.i64 (0 - b1), true), (a0 != -9223372036854775808, true), (a0 != -9223372036854775808, true), (a0 != -9223372036854775808, true), (a0 != -9223372036854775808, true), (a0 != -9223372036854775808, true), (a0 != -9223372036854775808, true), (a0 != -9223372036854775808, true), (a0 != -9223372036854775808, true), (a0 != -9223372036854775808, true), (a0 == wr IntKind.i64 (0 - b0), true), (a0 == wr IntKind.i64 (0 - b0), true), (a0 == wr IntKind.i64 (0 - b0), true), (a0 == wr IntKind.i64 (0 - b0), true), (a0 == wr IntKind.i64 (0 - b0), true)]) := by kernel_rfl
theorem qsameR9 (a0 a1 a2 a3 b0 b1 b2 b3 : Int) : (runF Try.prog S34 Zl 2000 32 [.v (.agg [.int .i64 a0, .int .i64 a1, .int .i64 a2, .int .i64 a3]), .v (.agg [.int .i64 b0, .int .i64 b1, .int .i64 b2, .int .i64 b3])] [] 0 [none, none, none, none, none, none, none, none, none, none, some true, some true, some true, some true, some true, none, some true, some true, some true, some true, some true, some true, some true, some true, some true, some true, some true, some true, some true, some true, none, some false, some false, some false, some false, some false, some false, some false, some false, some false, none, none, none, none, none, none, none, none, none, none, none, none, none, none, none, none, none, none, none, none, none, some true, some true]).map (fun r => (r.1, r.2.2.2)) = some (LV.v (V1.one (At.bool true)), [(a0 == b0 && (a1 == b1 && (a2 == b2 && (a3 == b3 && true))), true), (a0 == b0 && (a1 == b1 && (a2 == b2 && (a3 == b3 && true))), true), (a1 != -9223372036854775808, false), (a1 != -9223372036854775808, false), (a1 != -9223372036854775808, false), (a1 != -9223372036854775808, false), (a1 != -9223372036854775808, false), (a1 != -9223372036854775808, false), (a1 != -9223372036854775808, false), (a1 != -9223372036854775808, false), (a1 != -9223372036854775808, false), (a1 == wr IntKind.i64 (0 - b1), true), (a1 == wr IntKind.i64 (0 - b1), true), (a1 == wr IntKind.i64 (0 - b1), true), (a1 == wr IntKind.i64 (0 - b1), true), (a1 == wr IntKind.i64 (0 - b1), true), (a0 != -9223372036854775808, true), (a0 != -9223372036854775808, true), (a0 != -9223372036854775808, true), (a0 != -9223372036854775808, true), (a0 != -9223372036854775808, true), (a0 != -9223372036854775808, true), (a0 != -9223372036854775808, true), (a0 != -9223372036854775808, true), (a0 != -9223372036854775808, true), (a0 == wr IntKind.i64 (0 - b0), true), (a0 == wr IntKind.i64 (0 - b0), true), (a0 == wr IntKind.i64 (0 - b0), true), (a0 == wr IntKind.i64 (0 - b0), true), (a0 == wr IntKind.i64 (0 - b0), true)]) := by kernel_rfl
theorem qsameR10 (a0 a1 a2 a3 b0 b1 b2 b3 : Int) : (runF Try.prog S34 Zl 2000 32 [.v (.agg [.int .i64 a0, .int .i64 a1, .int .i64 a2, .int .i64 a3]), .v (.agg [.int .i64 b0, .int .i64 b1, .int .i64 b2, .int .i64 b3])] [] 0 [none, none, none, none, none, none, none, none, none, none, some true, some true, some true, some true, some true, none, some true, some true, some true, some true, some true, some true, some true, some true, some true, some true, some true, some true, some true, some true, none, some false, some false, some false, some false, some false, some false, some false, some false, some false, none, none, none, none, none, none, none, none, none, none, none, none, none, none, none, none, none, none, none, none, none, some false, some false]).map (fun r => (r.1, r.2.2.2)) = some (LV.v (V1.one (At.bool false)), [(a0 == b0 && (a1 == b1 && (a2 == b2 && (a3 == b3 && true))), false), (a0 == b0 && (a1 == b1 && (a2 == b2 && (a3 == b3 && true))), false), (a1 != -9223372036854775808, false), (a1 != -9223372036854775808, false), (a1 != -9223372036854775808, false), (a1 != -9223372036854775808, false), (a1 != -9223372036854775808, false), (a1 != -9223372036854775808, false), (a1 != -9223372036854775808, false), (a1 != -9223372036854775808, false), (a1 != -9223372036854775808, false), (a1 == wr IntKind.i64 (0 - b1), true), (a1 == wr IntKind.i64 (0 - b1), true), (a1 == wr IntKind.i64 (0 - b1), true), (a1 == wr IntKind.i64 (0 - b1), true), (a1 == wr IntKind.i64 (0 - b1), true), (a0 != -9223372036854775808, true), (a0 != -9223372036854775808, true), (a0 != -9223372036854775808, true), (a0 != -9223372036854775808, true), (a0 != -9223372036854775808, true), (a0 != -9223372036854775808, true), (a0 != -9223372036854775808, true), (a0 != -9223372036854775808, true), (a0 != -9223372036854775808, true), (a0 == wr IntKind.i64 (0 - b0), true), (a0 == wr IntKind.i64 (0 - b0), true), (a0 == wr IntKind.i64 (0 - b0), true), (a0 == wr IntKind.i64 (0 - b0), true), (a0 == wr IntKind.i64 (0 - b0), true)]) := by kernel_rfl
theorem qsameR11 (a0 a1 a2 a3 b0 b1 b2 b3 : Int) : (runF Try.prog S34 Zl 2000 32 [.v (.agg [.int .i64 a0, .int .i64 a1, .int .i64 a2, .int .i64 a3]), .v (.agg [.int .i64 b0, .int .i64 b1, .int .i64 b2, .int .i64 b3])] [] 0 [none, none, none, none, none, none, none, none, none, none, some true, some true, some true, some true, some true, none, some true, some true, some true, some true, some true, some true, some true, some true, some true, some false, some false, some false, some false, some false, none, none, none, none, none, none, none, none, none, none, none, none, none, none, none, none, none, none, none, none, none, none, none, none, none, none, none, none, none, none, none, some true, some true]).map (fun r => (r.1, r.2.2.2)) = some (LV.v (V1.one (At.bool true)), [(a0 == b0 && (a1 == b1 && (a2 == b2 && (a3 == b3 && true))), true), (a0 == b0 && (a1 == b1 && (a2 == b2 && (a3 == b3 && true))), true), (a1 == wr IntKind.i64 (0 - b1), false), (a1 == wr IntKind.i64 (0 - b1), false), (a1 == wr IntKind.i64 (0 - b1), false), (a1 == wr IntKind.i64 (0 - b1), false), (a1 == wr IntKind.i64 (0 - b1), false), (a0 != -9223372036854775808, true), (a0 != -9223372036854775808, true), (a0 != -9223372036854775808, true), (a0 != -9223372036854775808, true), (a0 != -9223372036854775808, true), (a0 != -9223372036854775808, true), (a0 != -9223372036854775808, true), (a0 != -9223372036854775808, true), (a0 != -9223372036854775808, true), (a0 == wr IntKind.i64 (0 - b0), true), (a0 == wr IntKind.i64 (0 - b0), true), (a0 == wr IntKind.i64 (0 - b0), true), (a0 == wr IntKind.i64 (0 - b0), true), (a0 == wr IntKind.i64 (0 - b0), true)]) := by kernel_rfl
theorem qsameR12 (a0 a1 a2 a3 b0 b1 b2 b3 : Int) : (runF Try.prog S34 Zl 2000 32 [.v (.agg [.int .i64 a0, .int .i64 a1, .int .i64 a2, .int .i64 a3]), .v (.agg [.int .i64 b0, .int .i64 b1, .int .i64 b2, .int .i64 b3])] [] 0 [none, none, none, none, none, none, none, none, none, none, some true, some true, some true, some true, some true, none, some true, some true, some true, some true, some true, some true, some true, some true, some true, some false, some false, some false, some false, some false, none, none, none, none, none, none, none, none, none, none, none, none, none, none, none, none, none, none, none, none, none, none, none, none, none, none, none, none, none, none, none, some false, some false]).map (fun r => (r.1, r.2.2.2)) = some (LV.v (V1.one (At.bool false)), [(a0 == b0 && (a1 == b1 && (a2 == b2 && (a3 == b3 && true))), false), (a0 == b0 && (a1 == b1 && (a2 == b2 && (a3 == b3 && true))), false), (a1 == wr IntKind.i64 (0 - b1), false), (a1 == wr IntKind.i64 (0 - b1), false), (a1 == wr IntKind.i64 (0 - b1), false), (a1 == wr IntKind.i64 (0 - b1), false), (a1 == wr IntKind.i64 (0 - b1), false), (a0 != -9223372036854775808, true), (a0 != -9223372036854775808, true), (a0 != -9223372036854775808, true), (a0 != -9223372036854775808, true), (a0 != -9223372036854775808, true), (a0 != -9223372036854775808, true), (a0 != -9223372036854775808, true), (a0 != -9223372036854775808, true), (a0 != -9223372036854775808, true), (a0 == wr IntKind.i64 (0 - b0), true), (a0 == wr IntKind.i64 (0 - b0), true), (a0 == wr IntKind.i64 (0 - b0), true), (a0 == wr IntKind.i64 (0 - b0), true), (a0 == wr IntKind.i64 (0 - b0), true)]) := by kernel_rfl
theorem qsameR13 (a0 a1 a2 a3 b0 b1 b2 b3 : Int) : (runF Try.prog S34 Zl 2000 32 [.v (.agg [.int .i64 a0, .int .i64 a1, .int .i64 a2, .int .i64 a3]), .v (.agg [.int .i64 b0, .int .i64 b1, .int .i64 b2, .int .i64 b3])] [] 0 [none, none, none, none, none, none, none, none, none, none, some true, some true, some true, some true, some true, none, some false, some false, some false, some false, some false, some false, some false, some false, some false, none, none, none, none, none, none, none, none, none, none, none, none, none, none, none, none, none, none, none, none, none, none, none, none, none, none, none, none, none, none, none, none, none, none, none, none, some true, some true]).map (fun r => (r.1, r.2.2.2)) = some (LV.v (V1.one (At.bool true)), [(a0 == b0 && (a1 == b1 && (a2 == b2 && (a3 == b3 && true))), true), (a0 == b0 && (a1 == b1 && (a2 == b2 && (a3 == b3 && true))), true), (a0 != -9223372036854775808, false), (a0 != -9223372036854775808, false), (a0 != -9223372036854775808, false), (a0 != -9223372036854775808, false), (a0 != -9223372036854775808, false), (a0 != -9223372036854775808, false), (a0 != -9223372036854775808, false), (a0 != -9223372036854775808, false), (a0 != -9223372036854775808, false), (a0 == wr IntKind.i64 (0 - b0), true), (a0 == wr IntKind.i64 (0 - b0), true), (a0 == wr IntKind.i64 (0 - b0), true), (a0 == wr IntKind.i64 (0 - b0), true), (a0 == wr IntKind.i64 (0 - b0), true)]) := by kernel_rfl
theorem qsameR14 (a0 a1 a2 a3 b0 b1 b2 b3 : Int) : (runF Try.prog S34 Zl 2000 32 [.v (.agg [.int .i64 a0, .int .i64 a1, .int .i64 a2, .int .i64 a3]), .v (.agg [.int .i64 b0, .int .i64 b1, .int .i64 b2, .int .i64 b3])] [] 0 [none, none, none, none, none, none, none, none, none, none, some true, some true, some true, some true, some true, none, some false, some false, some false, some false, some false, some false, some false, some false, some false, none, none, none, none, none, none, none, none, none, none, none, none, none, none, none, none, none, none, none, none, none, none, none, none, none, none, none, none, none, none, none, none, none, none, none, none, some false, some false]).map (fun r => (r.1, r.2.2.2)) = some (LV.v (V1.one (At.bool false)), [(a0 == b0 && (a1 == b1 && (a2 == b2 && (a3 == b3 && true))), false), (a0 == b0 && (a1 == b1 && (a2 == b2 && (a3 == b3 && true))), false), (a0 != -9223372036854775808, false), (a0 != -9223372036854775808, false), (a0 != -9223372036854775808, false), (a0 != -9223372036854775808, false), (a0 != -9223372036854775808, false), (a0 != -9223372036854775808, false), (a0 != -9223372036854775808, false), (a0 != -9223372036854775808, false), (a0 != -9223372036854775808, false), (a0 == wr IntKind.i64 (0 - b0), true), (a0 == wr IntKind.i64 (0 - b0), true), (a0 == wr IntKind.i64 (0 - b0), true), (a0 == wr IntKind.i64 (0 - b0), true), (a0 == wr IntKind.i64 (0 - b0), true)]) := by kernel_rfl
theorem qsameR15 (a0 a1 a2 a3 b0 b1 b2 b3 : Int) : (runF Try.prog S34 Zl 2000 32 [.v (.agg [.int .i64 a0, .int .i64 a1, .int .i64 a2, .int .i64 a3]), .v (.agg [.int .i64 b0, .int .i64 b1, .int .i64 b2, .int .i64 b3])] [] 0 [none, none, none, none, none, none, none, none, none, none, some false, some false, some false, some false, some false, none, none, none, none, none, none, none, none, none, none, none, none, none, none, none, none, none, none, none, none, none, none, none, none, none, none, none, none, none, none, none, none, none, none, none, none, none, none, none, none, none, none, none, none, none, none, some true, some true]).map (fun r => (r.1, r.2.2.2)) = some (LV.v (V1.one (At.bool true)), [(a0 == b0 && (a1 == b1 && (a2 == b2 && (a3 == b3 && true))), true), (a0 == b0 && (a1 == b1 && (a2 == b2 && (a3 == b3 && true))), true), (a0 == wr IntKind.i64 (0 - b0), false), (a0 == wr IntKind.i64 (0 - b0), false), (a0 == wr IntKind.i64 (0 - b0), false), (a0 == wr IntKind.i64 (0 - b0), false), (a0 == wr IntKind.i64 (0 - b0), false)]) := by kernel_rfl
theorem qsameR16 (a0 a1 a2 a3 b0 b1 b2 b3 : Int) : (runF Try.prog S34 Zl 2000 32 [.v (.agg [.int .i64 a0, .int .i64 a1, .int .i64 a2, .int .i64 a3]), .v (.agg [.int .i64 b0, .int .i64 b1, .int .i64 b2, .int .i64 b3])] [] 0 [none, none, none, none, none, none, none, none, none, none, some false, some false, some false, some false, some false, none, none, none, none, none, none, none, none, none, none, none, none, none, none, none, none, none, none, none, none, none, none, none, none, none, none, none, none, none, none, none, none, none, none, none, none, none, none, none, none, none, none, none, none, none, none, some false, some false]).map (fun r => (r.1, r.2.2.2)) = some (LV.v (V1.one (At.bool false)), [(a0 == b0 && (a1 == b1 && (a2 == b2 && (a3 == b3 && true))), false), (a0 == b0 && (a1 == b1 && (a2 == b2 && (a3 == b3 && true))), false), (a0 == wr IntKind.i64 (0 - b0), false), (a0 == wr IntKind.i64 (0 - b0), false), (a0 == wr IntKind.i64 (0 - b0), false), (a0 == wr IntKind.i64 (0 - b0), false), (a0 == wr IntKind.i64 (0 - b0), false)]) := by kernel_rfl
def qsameT (a0 a1 a2 a3 b0 b1 b2 b3 : Int) : Option (LV × List (Bool × Bool)) := 
  bif (a0 == wr IntKind.i64 (0 - b0)) then 
    bif (a0 != -9223372036854775808) then 
      bif (a1 == wr IntKind.i64 (0 - b1)) then 
        bif (a1 != -9223372036854775808) then 
          bif (a2 == wr IntKind.i64 (0 - b2)) then 
            bif (a2 != -9223372036854775808) then 
              bif (a3 == wr IntKind.i64 (0 - b3)) then 
                bif (a0 == b0 && (a1 == b1 && (a2 == b2 && (a3 == b3 && true)))) then some (LV.v (V1.one (At.bool true)), [])
                else some (LV.v (V1.one (At.bool (a3 != -9223372036854775808))), [])
              else 
                bif (a0 == b0 && (a1 == b1 && (a2 == b2 && (a3 == b3 && true)))) then some (LV.v (V1.one (At.bool true)), [])
                else some (LV.v (V1.one (At.bool false)), [])
            else 
              bif (a0 == b0 && (a1 == b1 && (a2 == b2 && (a3 == b3 && true)))) then some (LV.v (V1.one (At.bool true)), [])
              else some (LV.v (V1.one (At.bool false)), [])
          else 
            bif (a0 == b0 && (a1 == b1 && (a2 == b2 && (a3 == b3 && true)))) then some (LV.v (V1.one (At.bool true)), [])
            else some (LV.v (V1.one (At.bool false)), [])
        else 
          bif (a0 == b0 && (a1 == b1 && (a2 == b2 && (a3 == b3 && true)))) then some (LV.v (V1.one (At.bool true)), [])
          else some (LV.v (V1.one (At.bool false)), [])
      else 
        bif (a0 == b0 && (a1 == b1 && (a2 == b2 && (a3 == b3 && true)))) then some (LV.v (V1.one (At.bool true)), [])
        else some (LV.v (V1.one (At.bool false)), [])
    else 
      bif (a0 == b0 && (a1 == b1 && (a2 == b2 && (a3 == b3 && true)))) then some (LV.v (V1.one (At.bool true)), [])
      else some (LV.v (V1.one (At.bool false)), [])
  else 
    bif (a0 == b0 && (a1 == b1 && (a2 == b2 && (a3 == b3 && true)))) then some (LV.v (V1.one (At.bool true)), [])
    else some (LV.v (V1.one (At.bool false)), [])
def qsameF : List LV → Option (LV × List (Bool × Bool))
  | [.v (.agg [.int .i64 a0, .int .i64 a1, .int .i64 a2, .int .i64 a3]), .v (.agg [.int .i64 b0, .int .i64 b1, .int .i64 b2, .int .i64 b3])] => qsameT a0 a1 a2 a3 b0 b1 b2 b3
  | _ => none
theorem sumqsame : SumOK Try.prog 32 (pureSum qsameF) := by
  refine pureSum_run (z := Zl) sound34 (own_of sound34 Try.func32 (by kernel_rfl)) fun args v cs hF hc => ?_
  unfold qsameF at hF
  split at hF
  · rename_i a0 a1 a2 a3 b0 b1 b2 b3
    unfold qsameT at hF
    rcases bool_cases (a0 == wr IntKind.i64 (0 - b0)) with h0 | h0
    · rw [cond_t h0] at hF
      rcases bool_cases (a0 != -9223372036854775808) with h1 | h1
      · rw [cond_t h1] at hF
        rcases bool_cases (a1 == wr IntKind.i64 (0 - b1)) with h2 | h2
        · rw [cond_t h2] at hF
          rcases bool_cases (a1 != -9223372036854775808) with h3 | h3
          · rw [cond_t h3] at hF
            rcases bool_cases (a2 == wr IntKind.i64 (0 - b2)) with h4 | h4
            · rw [cond_t h4] at hF
              rcases bool_cases (a2 != -9223372036854775808) with h5 | h5
              · rw [cond_t h5] at hF
                rcases bool_cases (a3 == wr IntKind.i64 (0 - b3)) with h6 | h6
                · rw [cond_t h6] at hF
                  rcases bool_cases (a0 == b0 && (a1 == b1 && (a2 == b2 && (a3 == b3 && true)))) with h7 | h7
                  · rw [cond_t h7] at hF
                    cases hF
                    exact ⟨2000, [none, none, none, none, none, none, none, none, none, none, some true, some true, some true, some true, some true, none, some true, some true, some true, some true, some true, some true, some true, some true, some true, some true, some true, some true, some true, some true, none, some true, some true, some true, some true, some true, some true, some true, some true, some true, some true, some true, some true, some true, some true, none, some true, some true, some true, some true, some true, some true, some true, some true, some true, some true, some true, some true, some true, some true, none, some true, some true], _, qsameR1 a0 a1 a2 a3 b0 b1 b2 b3, ae_cons (h7) (ae_cons (h7) (ae_cons (h6) (ae_cons (h6) (ae_cons (h6) (ae_cons (h6) (ae_cons (h6) (ae_cons (h5) (ae_cons (h5) (ae_cons (h5) (ae_cons (h5) (ae_cons (h5) (ae_cons (h5) (ae_cons (h5) (ae_cons (h5) (ae_cons (h5) (ae_cons (h4) (ae_cons (h4) (ae_cons (h4) (ae_cons (h4) (ae_cons (h4) (ae_cons (h3) (ae_cons (h3) (ae_cons (h3) (ae_cons (h3) (ae_cons (h3) (ae_cons (h3) (ae_cons (h3) (ae_cons (h3) (ae_cons (h3) (ae_cons (h2) (ae_cons (h2) (ae_cons (h2) (ae_cons (h2) (ae_cons (h2) (ae_cons (h1) (ae_cons (h1) (ae_cons (h1) (ae_cons (h1) (ae_cons (h1) (ae_cons (h1) (ae_cons (h1) (ae_cons (h1) (ae_cons (h1) (ae_cons (h0) (ae_cons (h0) (ae_cons (h0) (ae_cons (h0) (ae_cons (h0) (ae_nil)))))))))))))))))))))))))))))))))))))))))))))))))⟩
                  · rw [cond_f h7] at hF
                    cases hF
                    exact ⟨2000, [none, none, none, none, none, none, none, none, none, none, some true, some true, some true, some true, some true, none, some true, some true, some true, some true, some true, some true, some true, some true, some true, some true, some true, some true, some true, some true, none, some true, some true, some true, some true, some true, some true, some true, some true, some true, some true, some true, some true, some true, some true, none, some true, some true, some true, some true, some true, some true, some true, some true, some true, some true, some true, some true, some true, some true, none, some false, some false], _, qsameR2 a0 a1 a2 a3 b0 b1 b2 b3, ae_cons (h7) (ae_cons (h7) (ae_cons (h6) (ae_cons (h6) (ae_cons (h6) (ae_cons (h6) (ae_cons (h6) (ae_cons (h5) (ae_cons (h5) (ae_cons (h5) (ae_cons (h5) (ae_cons (h5) (ae_cons (h5) (ae_cons (h5) (ae_cons (h5) (ae_cons (h5) (ae_cons (h4) (ae_cons (h4) (ae_cons (h4) (ae_cons (h4) (ae_cons (h4) (ae_cons (h3) (ae_cons (h3) (ae_cons (h3) (ae_cons (h3) (ae_cons (h3) (ae_cons (h3) (ae_cons (h3) (ae_cons (h3) (ae_cons (h3) (ae_cons (h2) (ae_cons (h2) (ae_cons (h2) (ae_cons (h2) (ae_cons (h2) (ae_cons (h1) (ae_cons (h1) (ae_cons (h1) (ae_cons (h1) (ae_cons (h1) (ae_cons (h1) (ae_cons (h1) (ae_cons (h1) (ae_cons (h1) (ae_cons (h0) (ae_cons (h0) (ae_cons (h0) (ae_cons (h0) (ae_cons (h0) (ae_nil)))))))))))))))))))))))))))))))))))))))))))))))))⟩
                · rw [cond_f h6] at hF
                  rcases bool_cases (a0 == b0 && (a1 == b1 && (a2 == b2 && (a3 == b3 && true)))) with h7 | h7
                  · rw [cond_t h7] at hF
                    cases hF
                    exact ⟨2000, [none, none, none, none, none, none, none, none, none, none, some true, some true, some true, some true, some true, none, some true, some true, some true, some true, some true, some true, some true, some true, some true, some true, some true, some true, some true, some true, none, some true, some true, some true, some true, some true, some true, some true, some true, some true, some true, some true, some true, some true, some true, none, some true, some true, some true, some true, some true, some true, some true, some true, some true, some false, some false, some false, some false, some false, none, some true, some true], _, qsameR3 a0 a1 a2 a3 b0 b1 b2 b3, ae_cons (h7) (ae_cons (h7) (ae_cons (h6) (ae_cons (h6) (ae_cons (h6) (ae_cons (h6) (ae_cons (h6) (ae_cons (h5) (ae_cons (h5) (ae_cons (h5) (ae_cons (h5) (ae_cons (h5) (ae_cons (h5) (ae_cons (h5) (ae_cons (h5) (ae_cons (h5) (ae_cons (h4) (ae_cons (h4) (ae_cons (h4) (ae_cons (h4) (ae_cons (h4) (ae_cons (h3) (ae_cons (h3) (ae_cons (h3) (ae_cons (h3) (ae_cons (h3) (ae_cons (h3) (ae_cons (h3) (ae_cons (h3) (ae_cons (h3) (ae_cons (h2) (ae_cons (h2) (ae_cons (h2) (ae_cons (h2) (ae_cons (h2) (ae_cons (h1) (ae_cons (h1) (ae_cons (h1) (ae_cons (h1) (ae_cons (h1) (ae_cons (h1) (ae_cons (h1) (ae_cons (h1) (ae_cons (h1) (ae_cons (h0) (ae_cons (h0) (ae_cons (h0) (ae_cons (h0) (ae_cons (h0) (ae_nil)))))))))))))))))))))))))))))))))))))))))))))))))⟩
                  · rw [cond_f h7] at hF
                    cases hF
                    exact ⟨2000, [none, none, none, none, none, none, none, none, none, none, some true, some true, some true, some true, some true, none, some true, some true, some true, some true, some true, some true, some true, some true, some true, some true, some true, some true, some true, some true, none, some true, some true, some true, some true, some true, some true, some true, some true, some true, some true, some true, some true, some true, some true, none, some true, some true, some true, some true, some true, some true, some true, some true, some true, some false, some false, some false, some false, some false, none, some false, some false], _, qsameR4 a0 a1 a2 a3 b0 b1 b2 b3, ae_cons (h7) (ae_cons (h7) (ae_cons (h6) (ae_cons (h6) (ae_cons (h6) (ae_cons (h6) (ae_cons (h6) (ae_cons (h5) (ae_cons (h5) (ae_cons (h5) (ae_cons (h5) (ae_cons (h5) (ae_cons (h5) (ae_cons (h5) (ae_cons (h5) (ae_cons (h5) (ae_cons (h4) (ae_cons (h4) (ae_cons (h4) (ae_cons (h4) (ae_cons (h4) (ae_cons (h3) (ae_cons (h3) (ae_cons (h3) (ae_cons (h3) (ae_cons (h3) (ae_cons (h3) (ae_cons (h3) (ae_cons (h3) (ae_cons (h3) (ae_cons (h2) (ae_cons (h2) (ae_cons (h2) (ae_cons (h2) (ae_cons (h2) (ae_cons (h1) (ae_cons (h1) (ae_cons (h1) (ae_cons (h1) (ae_cons (h1) (ae_cons (h1) (ae_cons (h1) (ae_cons (h1) (ae_cons (h1) (ae_cons (h0) (ae_cons (h0) (ae_cons (h0) (ae_cons (h0) (ae_cons (h0) (ae_nil)))))))))))))))))))))))))))))))))))))))))))))))))⟩
              · rw [cond_f h5] at hF
                rcases bool_cases (a0 == b0 && (a1 == b1 && (a2 == b2 && (a3 == b3 && true)))) with h6 | h6
                · rw [cond_t h6] at hF
                  cases hF
                  exact ⟨2000, [none, none, none, none, none, none, none, none, none, none, some true, some true, some true, some true, some true, none, some true, some true, some true, some true, some true, some true, some true, some true, some true, some true, some true, some true, some true, some true, none, some true, some true, some true, some true, some true, some true, some true, some true, some true, some true, some true, some true, some true, some true, none, some false, some false, some false, some false, some false, some false, some false, some false, some false, none, none, none, none, none, none, some true, some true], _, qsameR5 a0 a1 a2 a3 b0 b1 b2 b3, ae_cons (h6) (ae_cons (h6) (ae_cons (h5) (ae_cons (h5) (ae_cons (h5) (ae_cons (h5) (ae_cons (h5) (ae_cons (h5) (ae_cons (h5) (ae_cons (h5) (ae_cons (h5) (ae_cons (h4) (ae_cons (h4) (ae_cons (h4) (ae_cons (h4) (ae_cons (h4) (ae_cons (h3) (ae_cons (h3) (ae_cons (h3) (ae_cons (h3) (ae_cons (h3) (ae_cons (h3) (ae_cons (h3) (ae_cons (h3) (ae_cons (h3) (ae_cons (h2) (ae_cons (h2) (ae_cons (h2) (ae_cons (h2) (ae_cons (h2) (ae_cons (h1) (ae_cons (h1) (ae_cons (h1) (ae_cons (h1) (ae_cons (h1) (ae_cons (h1) (ae_cons (h1) (ae_cons (h1) (ae_cons (h1) (ae_cons (h0) (ae_cons (h0) (ae_cons (h0) (ae_cons (h0) (ae_cons (h0) (ae_nil))))))))))))))))))))))))))))))))))))))))))))⟩
                · rw [cond_f h6] at hF
                  cases hF
                  exact ⟨2000, [none, none, none, none, none, none, none, none, none, none, some true, some true, some true, some true, some true, none, some true, some true, some true, some true, some true, some true, some true, some true, some true, some true, some true, some true, some true, some true, none, some true, some true, some true, some true, some true, some true, some true, some true, some true, some true, some true, some true, some true, some true, none, some false, some false, some false, some false, some false, some false, some false, some false, some false, none, none, none, none, none, none, some false, some false], _, qsameR6 a0 a1 a2 a3 b0 b1 b2 b3, ae_cons (h6) (ae_cons (h6) (ae_cons (h5) (ae_cons (h5) (ae_cons (h5) (ae_cons (h5) (ae_cons (h5) (ae_cons (h5) (ae_cons (h5) (ae_cons (h5) (ae_cons (h5) (ae_cons (h4) (ae_cons (h4) (ae_cons (h4) (ae_cons (h4) (ae_cons (h4) (ae_cons (h3) (ae_cons (h3) (ae_cons (h3) (ae_cons (h3) (ae_cons (h3) (ae_cons (h3) (ae_cons (h3) (ae_cons (h3) (ae_cons (h3) (ae_cons (h2) (ae_cons (h2) (ae_cons (h2) (ae_cons (h2) (ae_cons (h2) (ae_cons (h1) (ae_cons (h1) (ae_cons (h1) (ae_cons (h1) (ae_cons (h1) (ae_cons (h1) (ae_cons (h1) (ae_cons (h1) (ae_cons (h1) (ae_cons (h0) (ae_cons (h0) (ae_cons (h0) (ae_cons (h0) (ae_cons (h0) (ae_nil))))))))))))))))))))))))))))))))))))))))))))⟩
            · rw [cond_f h4] at hF
              rcases bool_cases (a0 == b0 && (a1 == b1 && (a2 == b2 && (a3 == b3 && true)))) with h5 | h5
              · rw [cond_t h5] at hF
                cases hF
                exact ⟨2000, [none, none, none, none, none, none, none, none, none, none, some true, some true, some true, some true, some true, none, some true, some true, some true, some true, some true, some true, some true, some true, some true, some true, some true, some true, some true, some true, none, some true, some true, some true, some true, some true, some true, some true, some true, some true, some false, some false, some false, some false, some false, none, none, none, none, none, none, none, none, none, none, none, none, none, none, none, none, some true, some true], _, qsameR7 a0 a1 a2 a3 b0 b1 b2 b3, ae_cons (h5) (ae_cons (h5) (ae_cons (h4) (ae_cons (h4) (ae_cons (h4) (ae_cons (h4) (ae_cons (h4) (ae_cons (h3) (ae_cons (h3) (ae_cons (h3) (ae_cons (h3) (ae_cons (h3) (ae_cons (h3) (ae_cons (h3) (ae_cons (h3) (ae_cons (h3) (ae_cons (h2) (ae_cons (h2) (ae_cons (h2) (ae_cons (h2) (ae_cons (h2) (ae_cons (h1) (ae_cons (h1) (ae_cons (h1) (ae_cons (h1) (ae_cons (h1) (ae_cons (h1) (ae_cons (h1) (ae_cons (h1) (ae_cons (h1) (ae_cons (h0) (ae_cons (h0) (ae_cons (h0) (ae_cons (h0) (ae_cons (h0) (ae_nil)))))))))))))))))))))))))))))))))))⟩
              · rw [cond_f h5] at hF
                cases hF
                exact ⟨2000, [none, none, none, none, none, none, none, none, none, none, some true, some true, some true, some true, some true, none, some true, some true, some true, some true, some true, some true, some true, some true, some true, some true, some true, some true, some true, some true, none, some true, some true, some true, some true, some true, some true, some true, some true, some true, some false, some false, some false, some false, some false, none, none, none, none, none, none, none, none, none, none, none, none, none, none, none, none, some false, some false], _, qsameR8 a0 a1 a2 a3 b0 b1 b2 b3, ae_cons (h5) (ae_cons (h5) (ae_cons (h4) (ae_cons (h4) (ae_cons (h4) (ae_cons (h4) (ae_cons (h4) (ae_cons (h3) (ae_cons (h3) (ae_cons (h3) (ae_cons (h3) (ae_cons (h3) (ae_cons (h3) (ae_cons (h3) (ae_cons (h3) (ae_cons (h3) (ae_cons (h2) (ae_cons (h2) (ae_cons (h2) (ae_cons (h2) (ae_cons (h2) (ae_cons (h1) (ae_cons (h1) (ae_cons (h1) (ae_cons (h1) (ae_cons (h1) (ae_cons (h1) (ae_cons (h1) (ae_cons (h1) (ae_cons (h1) (ae_cons (h0) (ae_cons (h0) (ae_cons (h0) (ae_cons (h0) (ae_cons (h0) (ae_nil)))))))))))))))))))))))))))))))))))⟩
          · rw [cond_f h3] at hF
            rcases bool_cases (a0 == b0 && (a1 == b1 && (a2 == b2 && (a3 == b3 && true)))) with h4 | h4
            · rw [cond_t h4] at hF
              cases hF
              exact ⟨2000, [none, none, none, none, none, none, none, none, none, none, some true, some true, some true, some true, some true, none, some true, some true, some true, some true, some true, some true, some true, some true, some true, some true, some true, some true, some true, some true, none, some false, some false, some false, some false, some false, some false, some false, some false, some false, none, none, none, none, none, none, none, none, none, none, none, none, none, none, none, none, none, none, none, none, none, some true, some true], _, qsameR9 a0 a1 a2 a3 b0 b1 b2 b3, ae_cons (h4) (ae_cons (h4) (ae_cons (h3) (ae_cons (h3) (ae_cons (h3) (ae_cons (h3) (ae_cons (h3) (ae_cons (h3) (ae_cons (h3) (ae_cons (h3) (ae_cons (h3) (ae_cons (h2) (ae_cons (h2) (ae_cons (h2) (ae_cons (h2) (ae_cons (h2) (ae_cons (h1) (ae_cons (h1) (ae_cons (h1) (ae_cons (h1) (ae_cons (h1) (ae_cons (h1) (ae_cons (h1) (ae_cons (h1) (ae_cons (h1) (ae_cons (h0) (ae_cons (h0) (ae_cons (h0) (ae_cons (h0) (ae_cons (h0) (ae_nil))))))))))))))))))))))))))))))⟩
            · rw [cond_f h4] at hF
              cases hF
              exact ⟨2000, [none, none, none, none, none, none, none, none, none, none, some true, some true, some true, some true, some true, none, some true, some true, some true, some true, some true, some true, some true, some true, some true, some true, some true, some true, some true, some true, none, some false, some false, some false, some false, some false, some false, some false, some false, some false, none, none, none, none, none, none, none, none, none, none, none, none, none, none, none, none, none, none, none, none, none, some false, some false], _, qsameR10 a0 a1 a2 a3 b0 b1 b2 b3, ae_cons (h4) (ae_cons (h4) (ae_cons (h3) (ae_cons (h3) (ae_cons (h3) (ae_cons (h3) (ae_cons (h3) (ae_cons (h3) (ae_cons (h3) (ae_cons (h3) (ae_cons (h3) (ae_cons (h2) (ae_cons (h2) (ae_cons (h2) (ae_cons (h2) (ae_cons (h2) (ae_cons (h1) (ae_cons (h1) (ae_cons (h1) (ae_cons (h1) (ae_cons (h1) (ae_cons (h1) (ae_cons (h1) (ae_cons (h1) (ae_cons (h1) (ae_cons (h0) (ae_cons (h0) (ae_cons (h0) (ae_cons (h0) (ae_cons (h0) (ae_nil))))))))))))))))))))))))))))))⟩
        · rw [cond_f h2] at hF
          rcases bool_cases (a0 == b0 && (a1 == b1 && (a2 == b2 && (a3 == b3 && true)))) with h3 | h3
          · rw [cond_t h3] at hF
            cases hF
            exact ⟨2000, [none, none, none, none, none, none, none, none, none, none, some true, some true, some true, some true, some true, none, some true, some true, some true, some true, some true, some true, some true, some true, some true, some false, some false, some false, some false, some false, none, none, none, none, none, none, none, none, none, none, none, none, none, none, none, none, none, none, none, none, none, none, none, none, none, none, none, none, none, none, none, some true, some true], _, qsameR11 a0 a1 a2 a3 b0 b1 b2 b3, ae_cons (h3) (ae_cons (h3) (ae_cons (h2) (ae_cons (h2) (ae_cons (h2) (ae_cons (h2) (ae_cons (h2) (ae_cons (h1) (ae_cons (h1) (ae_cons (h1) (ae_cons (h1) (ae_cons (h1) (ae_cons (h1) (ae_cons (h1) (ae_cons (h1) (ae_cons (h1) (ae_cons (h0) (ae_cons (h0) (ae_cons (h0) (ae_cons (h0) (ae_cons (h0) (ae_nil)))))))))))))))))))))⟩
          · rw [cond_f h3] at hF
            cases hF
            exact ⟨2000, [none, none, none, none, none, none, none, none, none, none, some true, some true, some true, some true, some true, none, some true, some true, some true, some true, some true, some true, some true, some true, some true, some false, some false, some false, some false, some false, none, none, none, none, none, none, none, none, none, none, none, none, none, none, none, none, none, none, none, none, none, none, none, none, none, none, none, none, none, none, none, some false, some false], _, qsameR12 a0 a1 a2 a3 b0 b1 b2 b3, ae_cons (h3) (ae_cons (h3) (ae_cons (h2) (ae_cons (h2) (ae_cons (h2) (ae_cons (h2) (ae_cons (h2) (ae_cons (h1) (ae_cons (h1) (ae_cons (h1) (ae_cons (h1) (ae_cons (h1) (ae_cons (h1) (ae_cons (h1) (ae_cons (h1) (ae_cons (h1) (ae_cons (h0) (ae_cons (h0) (ae_cons (h0) (ae_cons (h0) (ae_cons (h0) (ae_nil)))))))))))))))))))))⟩
      · rw [cond_f h1] at hF
        rcases bool_cases (a0 == b0 && (a1 == b1 && (a2 == b2 && (a3 == b3 && true)))) with h2 | h2
        · rw [cond_t h2] at hF
          cases hF
          exact ⟨2000, [none, none, none, none, none, none, none, none, none, none, some true, some true, some true, some true, some true, none, some false, some false, some false, some false, some false, some false, some false, some false, some false, none, none, none, none, none, none, none, none, none, none, none, none, none, none, none, none, none, none, none, none, none, none, none, none, none, none, none, none, none, none, none, none, none, none, none, none, some true, some true], _, qsameR13 a0 a1 a2 a3 b0 b1 b2 b3, ae_cons (h2) (ae_cons (h2) (ae_cons (h1) (ae_cons (h1) (ae_cons (h1) (ae_cons (h1) (ae_cons (h1) (ae_cons (h1) (ae_cons (h1) (ae_cons (h1) (ae_cons (h1) (ae_cons (h0) (ae_cons (h0) (ae_cons (h0) (ae_cons (h0) (ae_cons (h0) (ae_nil))))))))))))))))⟩
        · rw [cond_f h2] at hF
          cases hF
          exact ⟨2000, [none, none, none, none, none, none, none, none, none, none, some true, some true, some true, some true, some true, none, some false, some false, some false, some false, some false, some false, some false, some false, some false, none, none, none, none, none, none, none, none, none, none, none, none, none, none, none, none, none, none, none, none, none, none, none, none, none, none, none, none, none, none, none, none, none, none, none, none, some false, some false], _, qsameR14 a0 a1 a2 a3 b0 b1 b2 b3, ae_cons (h2) (ae_cons (h2) (ae_cons (h1) (ae_cons (h1) (ae_cons (h1) (ae_cons (h1) (ae_cons (h1) (ae_cons (h1) (ae_cons (h1) (ae_cons (h1) (ae_cons (h1) (ae_cons (h0) (ae_cons (h0) (ae_cons (h0) (ae_cons (h0) (ae_cons (h0) (ae_nil))))))))))))))))⟩
    · rw [cond_f h0] at hF
      rcases bool_cases (a0 == b0 && (a1 == b1 && (a2 == b2 && (a3 == b3 && true)))) with h1 | h1
      · rw [cond_t h1] at hF
        cases hF
        exact ⟨2000, [none, none, none, none, none, none, none, none, none, none, some false, some false, some false, some false, some false, none, none, none, none, none, none, none, none, none, none, none, none, none, none, none, none, none, none, none, none, none, none, none, none, none, none, none, none, none, none, none, none, none, none, none, none, none, none, none, none, none, none, none, none, none, none, some true, some true], _, qsameR15 a0 a1 a2 a3 b0 b1 b2 b3, ae_cons (h1) (ae_cons (h1) (ae_cons (h0) (ae_cons (h0) (ae_cons (h0) (ae_cons (h0) (ae_cons (h0) (ae_nil)))))))⟩
      · rw [cond_f h1] at hF
        cases hF
        exact ⟨2000, [none, none, none, none, none, none, none, none, none, none, some false, some false, some false, some false, some false, none, none, none, none, none, none, none, none, none, none, none, none, none, none, none, none, none, none, none, none, none, none, none, none, none, none, none, none, none, none, none, none, none, none, none, none, none, none, none, none, none, none, none, none, none, none, some false, some false], _, qsameR16 a0 a1 a2 a3 b0 b1 b2 b3, ae_cons (h1) (ae_cons (h1) (ae_cons (h0) (ae_cons (h0) (ae_cons (h0) (ae_cons (h0) (ae_cons (h0) (ae_nil)))))))⟩
  · cases hF


/-- Are they the same rotation? -/
def sameB (a0 a1 a2 a3 b0 b1 b2 b3 : Int) : Bool :=
  (a0 == b0 && (a1 == b1 && (a2 == b2 && (a3 == b3 && true)))) || (a0 == wr IntKind.i64 (0 - b0) && (a0 != -9223372036854775808 && (a1 == wr IntKind.i64 (0 - b1) && (a1 != -9223372036854775808 && (a2 == wr IntKind.i64 (0 - b2) && (a2 != -9223372036854775808 && (a3 == wr IntKind.i64 (0 - b3) && a3 != -9223372036854775808)))))))
def sameS : List LV → Option (LV × List (Bool × Bool))
  | [.v (.agg [.int .i64 a0, .int .i64 a1, .int .i64 a2, .int .i64 a3]), .v (.agg [.int .i64 b0, .int .i64 b1, .int .i64 b2, .int .i64 b3])] => some (.v (.one (.bool (sameB a0 a1 a2 a3 b0 b1 b2 b3))), [])
  | _ => none
theorem same_eq (a0 a1 a2 a3 b0 b1 b2 b3 : Int) : qsameT a0 a1 a2 a3 b0 b1 b2 b3 = some (.v (.one (.bool (sameB a0 a1 a2 a3 b0 b1 b2 b3))), []) := by
  unfold qsameT sameB
  generalize (a0 == b0 && (a1 == b1 && (a2 == b2 && (a3 == b3 && true)))) = e
  generalize (a0 == wr IntKind.i64 (0 - b0)) = p0
  generalize (a0 != -9223372036854775808) = q0
  generalize (a1 == wr IntKind.i64 (0 - b1)) = p1
  generalize (a1 != -9223372036854775808) = q1
  generalize (a2 == wr IntKind.i64 (0 - b2)) = p2
  generalize (a2 != -9223372036854775808) = q2
  generalize (a3 == wr IntKind.i64 (0 - b3)) = p3
  generalize (a3 != -9223372036854775808) = q3
  cases p0 <;> cases q0 <;> cases p1 <;> cases q1 <;> cases p2 <;> cases q2 <;> cases p3 <;> cases e <;> simp
theorem sumSame : SumOK Try.prog 32 (pureSum sameS) := by
  refine sumqsame.pure_re fun args v cs hF hc => ?_
  unfold sameS at hF
  split at hF
  · cases hF
    exact ⟨[], same_eq _ _ _ _ _ _ _ _, ae_nil⟩
  · cases hF

/-- Made one of length One, twice. -/
def uE (x a0 a1 a2 a3 : Int) : Int := divPV (divPV x (hypV [a0, a1, a2, a3]) 30) (hypV [divPV a0 (hypV [a0, a1, a2, a3]) 30, divPV a1 (hypV [a0, a1, a2, a3]) 30, divPV a2 (hypV [a0, a1, a2, a3]) 30, divPV a3 (hypV [a0, a1, a2, a3]) 30]) 30
def uM (a0 a1 a2 a3 : Int) : Int := hypV [divPV a0 (hypV [a0, a1, a2, a3]) 30, divPV a1 (hypV [a0, a1, a2, a3]) 30, divPV a2 (hypV [a0, a1, a2, a3]) 30, divPV a3 (hypV [a0, a1, a2, a3]) 30]
def uH (h : Bool) (a0 a1 a2 a3 : Int) : Bool := h || hypH [a0, a1, a2, a3] || divPH a0 (hypV [a0, a1, a2, a3]) 30 || divPH a1 (hypV [a0, a1, a2, a3]) 30 || divPH a2 (hypV [a0, a1, a2, a3]) 30 || divPH a3 (hypV [a0, a1, a2, a3]) 30 || hypH [divPV a0 (hypV [a0, a1, a2, a3]) 30, divPV a1 (hypV [a0, a1, a2, a3]) 30, divPV a2 (hypV [a0, a1, a2, a3]) 30, divPV a3 (hypV [a0, a1, a2, a3]) 30] || divPH (divPV a0 (hypV [a0, a1, a2, a3]) 30) (uM a0 a1 a2 a3) 30 || divPH (divPV a1 (hypV [a0, a1, a2, a3]) 30) (uM a0 a1 a2 a3) 30 || divPH (divPV a2 (hypV [a0, a1, a2, a3]) 30) (uM a0 a1 a2 a3) 30 || divPH (divPV a3 (hypV [a0, a1, a2, a3]) 30) (uM a0 a1 a2 a3) 30
def uZ (a0 a1 a2 a3 : Int) : Bool := satV a0 == 0 && (satV a1 == 0 && (satV a2 == 0 && (satV a3 == 0 && true)))
def uS (h : Bool) (a0 a1 a2 a3 : Int) : Bool := h || satH a0 || satH a1 || satH a2 || satH a3
def unitS : List LV → Bool → Option (LV × Bool × List (Bool × Bool))
  | [.v (.agg [.int .i64 a0, .int .i64 a1, .int .i64 a2, .int .i64 a3])], hb => some (.v (.agg [.int .i64 (bif uZ a0 a1 a2 a3 then 1073741824 else uE (satV a0) (satV a0) (satV a1) (satV a2) (satV a3)), .int .i64 (bif uZ a0 a1 a2 a3 then 0 else uE (satV a1) (satV a0) (satV a1) (satV a2) (satV a3)), .int .i64 (bif uZ a0 a1 a2 a3 then 0 else uE (satV a2) (satV a0) (satV a1) (satV a2) (satV a3)), .int .i64 (bif uZ a0 a1 a2 a3 then 0 else uE (satV a3) (satV a0) (satV a1) (satV a2) (satV a3))]),
    (bif uZ a0 a1 a2 a3 then uS hb a0 a1 a2 a3 else uH (uS hb a0 a1 a2 a3) (satV a0) (satV a1) (satV a2) (satV a3)), [])
  | _, _ => none
def mulQ (a0 a1 a2 a3 b0 b1 b2 b3 : Int) : LV := .v (.agg [.int .i64 (dotV 30 [satV a0, satV a1, satV a2, satV a3] [satV b0, wr IntKind.i64 (0 - satV b1), wr IntKind.i64 (0 - satV b2), wr IntKind.i64 (0 - satV b3)]), .int .i64 (dotV 30 [satV a0, satV a1, satV a2, satV a3] [satV b1, satV b0, satV b3, wr IntKind.i64 (0 - satV b2)]), .int .i64 (dotV 30 [satV a0, satV a1, satV a2, satV a3] [satV b2, wr IntKind.i64 (0 - satV b3), satV b0, satV b1]), .int .i64 (dotV 30 [satV a0, satV a1, satV a2, satV a3] [satV b3, satV b2, wr IntKind.i64 (0 - satV b1), satV b0])])
def mulQH (h : Bool) (a0 a1 a2 a3 b0 b1 b2 b3 : Int) : Bool := h || satH a0 || satH a1 || satH a2 || satH a3 || satH b0 || satH b1 || satH b2 || satH b3 || dotH 30 [satV a0, satV a1, satV a2, satV a3] [satV b0, wr IntKind.i64 (0 - satV b1), wr IntKind.i64 (0 - satV b2), wr IntKind.i64 (0 - satV b3)] || dotH 30 [satV a0, satV a1, satV a2, satV a3] [satV b1, satV b0, satV b3, wr IntKind.i64 (0 - satV b2)] || dotH 30 [satV a0, satV a1, satV a2, satV a3] [satV b2, wr IntKind.i64 (0 - satV b3), satV b0, satV b1] || dotH 30 [satV a0, satV a1, satV a2, satV a3] [satV b3, satV b2, wr IntKind.i64 (0 - satV b1), satV b0]
def mulQS : List LV → Bool → Option (LV × Bool × List (Bool × Bool))
  | [.v (.agg [.int .i64 a0, .int .i64 a1, .int .i64 a2, .int .i64 a3]), .v (.agg [.int .i64 b0, .int .i64 b1, .int .i64 b2, .int .i64 b3])], hb => some (mulQ a0 a1 a2 a3 b0 b1 b2 b3, mulQH hb a0 a1 a2 a3 b0 b1 b2 b3, [])
  | _, _ => none
theorem puZ (a0 a1 a2 a3 : Int) (hb : Bool) : (runF Try.prog S34 Zl 2000 24 [A0, .v (.agg [.int .i64 a0, .int .i64 a1, .int .i64 a2, .int .i64 a3])] [(0, flag 27 hb)] 1 [some true]).map acc3 = some (.v (.agg [.int .i64 1073741824, .int .i64 0, .int .i64 0, .int .i64 0]), some (flag 27 (uS hb a0 a1 a2 a3)), [(uZ a0 a1 a2 a3, true)]) := by kernel_rfl
theorem puN (a0 a1 a2 a3 : Int) (hb : Bool) : (runF Try.prog S34 Zl 2000 24 [A0, .v (.agg [.int .i64 a0, .int .i64 a1, .int .i64 a2, .int .i64 a3])] [(0, flag 27 hb)] 1 [some false, none, none, none, none, none, none, none, none, none, none, none, none, none, none, none]).map acc3 = some (.v (.agg [.int .i64 (uE (satV a0) (satV a0) (satV a1) (satV a2) (satV a3)), .int .i64 (uE (satV a1) (satV a0) (satV a1) (satV a2) (satV a3)), .int .i64 (uE (satV a2) (satV a0) (satV a1) (satV a2) (satV a3)), .int .i64 (uE (satV a3) (satV a0) (satV a1) (satV a2) (satV a3))]), some (flag 27 (uH (uS hb a0 a1 a2 a3) (satV a0) (satV a1) (satV a2) (satV a3))), [(uZ a0 a1 a2 a3, false)]) := by kernel_rfl
theorem sumpu : SumOK Try.prog 24 (accSum 27 unitS) := by
  refine accSum_run (z := Zl) sound34 (own_of sound34 Try.func24 (by kernel_rfl)) fun args hb v h' cs hF hc => ?_
  unfold unitS at hF
  split at hF
  · rename_i a0 a1 a2 a3
    cases hF
    refine ⟨rfl, ?_⟩
    rcases bool_cases (uZ a0 a1 a2 a3) with h | h
    · rw [h]; exact ⟨2000, _, _, puZ a0 a1 a2 a3 hb, ae_cons h ae_nil⟩
    · rw [h]; exact ⟨2000, _, _, puN a0 a1 a2 a3 hb, ae_cons h ae_nil⟩
  · cases hF
theorem ruZ (a0 a1 a2 a3 : Int) (hb : Bool) (ty : TypeId) : (runF Try.prog S34 Zl 2000 29 [A0, .v (.agg [.int .i64 a0, .int .i64 a1, .int .i64 a2, .int .i64 a3])] [(0, flag ty hb)] 1 [some true]).map acc3 = some (.v (.agg [.int .i64 1073741824, .int .i64 0, .int .i64 0, .int .i64 0]), some (flag ty (uS hb a0 a1 a2 a3)), [(uZ a0 a1 a2 a3, true)]) := by kernel_rfl
theorem ruN (a0 a1 a2 a3 : Int) (hb : Bool) (ty : TypeId) : (runF Try.prog S34 Zl 2000 29 [A0, .v (.agg [.int .i64 a0, .int .i64 a1, .int .i64 a2, .int .i64 a3])] [(0, flag ty hb)] 1 [some false, none, none, none, none, none, none, none, none, none, none, none, none, none, none, none]).map acc3 = some (.v (.agg [.int .i64 (uE (satV a0) (satV a0) (satV a1) (satV a2) (satV a3)), .int .i64 (uE (satV a1) (satV a0) (satV a1) (satV a2) (satV a3)), .int .i64 (uE (satV a2) (satV a0) (satV a1) (satV a2) (satV a3)), .int .i64 (uE (satV a3) (satV a0) (satV a1) (satV a2) (satV a3))]), some (flag ty (uH (uS hb a0 a1 a2 a3) (satV a0) (satV a1) (satV a2) (satV a3))), [(uZ a0 a1 a2 a3, false)]) := by kernel_rfl
theorem sumru (ty : TypeId) : SumOK Try.prog 29 (accSum ty unitS) := by
  refine accSum_run (z := Zl) sound34 (own_of sound34 Try.func29 (by kernel_rfl)) fun args hb v h' cs hF hc => ?_
  unfold unitS at hF
  split at hF
  · rename_i a0 a1 a2 a3
    cases hF
    refine ⟨rfl, ?_⟩
    rcases bool_cases (uZ a0 a1 a2 a3) with h | h
    · rw [h]; exact ⟨2000, _, _, ruZ a0 a1 a2 a3 hb ty, ae_cons h ae_nil⟩
    · rw [h]; exact ⟨2000, _, _, ruN a0 a1 a2 a3 hb ty, ae_cons h ae_nil⟩
  · cases hF
theorem pmR (a0 a1 a2 a3 b0 b1 b2 b3 : Int) (hb : Bool) : (runF Try.prog S34 Zl 2000 22 [A0, .v (.agg [.int .i64 a0, .int .i64 a1, .int .i64 a2, .int .i64 a3]), .v (.agg [.int .i64 b0, .int .i64 b1, .int .i64 b2, .int .i64 b3])] [(0, flag 27 hb)] 1 []).map acc3 = some (mulQ a0 a1 a2 a3 b0 b1 b2 b3, some (flag 27 (mulQH hb a0 a1 a2 a3 b0 b1 b2 b3)), []) := by kernel_rfl
theorem sumpm : SumOK Try.prog 22 (accSum 27 mulQS) := by
  refine accSum_run (z := Zl) sound34 (own_of sound34 Try.func22 (by kernel_rfl)) fun args hb v h' cs hF hc => ?_
  unfold mulQS at hF
  split at hF
  · rename_i a0 a1 a2 a3 b0 b1 b2 b3
    cases hF
    exact ⟨rfl, 2000, _, _, pmR a0 a1 a2 a3 b0 b1 b2 b3 hb, ae_nil⟩
  · cases hF
theorem rmR (a0 a1 a2 a3 b0 b1 b2 b3 : Int) (hb : Bool) (ty : TypeId) : (runF Try.prog S34 Zl 2000 28 [A0, .v (.agg [.int .i64 a0, .int .i64 a1, .int .i64 a2, .int .i64 a3]), .v (.agg [.int .i64 b0, .int .i64 b1, .int .i64 b2, .int .i64 b3])] [(0, flag ty hb)] 1 []).map acc3 = some (mulQ a0 a1 a2 a3 b0 b1 b2 b3, some (flag ty (mulQH hb a0 a1 a2 a3 b0 b1 b2 b3)), []) := by kernel_rfl
theorem sumrm (ty : TypeId) : SumOK Try.prog 28 (accSum ty mulQS) := by
  refine accSum_run (z := Zl) sound34 (own_of sound34 Try.func28 (by kernel_rfl)) fun args hb v h' cs hF hc => ?_
  unfold mulQS at hF
  split at hF
  · rename_i a0 a1 a2 a3 b0 b1 b2 b3
    cases hF
    exact ⟨rfl, 2000, _, _, rmR a0 a1 a2 a3 b0 b1 b2 b3 hb ty, ae_nil⟩
  · cases hF

theorem runAwakeQ : (runF Try.prog S24 Zc 4000 20 [] [] 0 []).map (fun r => (r.1, r.2.2.2)) = some (B true, []) := by kernel_rfl
theorem sumAwakeQ : SumOK Try.prog 20 (pureSum trueF) := pureSum_const sound24 (own_of sound24 Try.func20 (by kernel_rfl)) runAwakeQ
noncomputable def S41 : FuncId → Option SumK := more (more (more (more (more (more (more S34 32 (pureSum sameS)) 24 (accSum 27 unitS)) 29 (accAny unitS)) 22 (accSum 27 mulQS)) 28 (accAny mulQS)) 31 (autoP Try.prog S34 Zl 2000 31)) 20 (pureSum trueF)
theorem sound41 : Sound Try.prog S41 := ((((((sound34.more sumSame).more sumpu).more (accAny_ok sumru)).more sumpm).more (accAny_ok sumrm)).more (autoP_ok sound34 (own_of sound34 Try.func31 (by kernel_rfl)))).more sumAwakeQ
end Go.Proofs.Ythfanchjkkeejaa

/- Rotations' matrices in both answers: the second answer's Of, Apply, Back in the program's words. -/
namespace Go.Proofs.Ythfanchjkkeejaa
open Go.Lr
set_option linter.unusedVariables false
set_option linter.unusedSimpArgs false

def inS (a : Int) : Prop := -1152921504606846976 ≤ a ∧ a ≤ 1152921504606846976
theorem inS_sat (a : Int) : inS (satV a) := sat_bd a
theorem wneg {a : Int} (h : inS a) : wr IntKind.i64 (0 - a) = -a := by
  unfold inS at h
  have := w64_in (x := 0 - a) (by omega) (by omega); rw [wr_i, this]; omega
theorem inS_neg {a : Int} (h : inS a) : inS (-a) := by unfold inS at *; omega
theorem wone {a : Int} (h : inS a) : wr IntKind.i64 (1 * a) = a := by
  unfold inS at h; rw [Int.one_mul]; exact w64_in (by omega) (by omega)
theorem wmone {a : Int} (h : inS a) : wr IntKind.i64 (-1 * a) = -a := by
  unfold inS at h
  have e : -1 * a = -a := by omega
  rw [e]; exact w64_in (by omega) (by omega)
theorem dot4 {x0 x1 x2 x3 y0 y1 y2 y3 : Int} (a0 : inS x0) (a1 : inS x1) (a2 : inS x2) (a3 : inS x3) (b0 : inS y0) (b1 : inS y1) (b2 : inS y2) (b3 : inS y3) :
    dotV 30 [x0, x1, x2, x3] [y0, y1, y2, y3] = rndS (x0 * y0 + (x1 * y1 + (x2 * y2 + (x3 * y3 + 0)))) 30 ∧ dotH 30 [x0, x1, x2, x3] [y0, y1, y2, y3] = rndH (x0 * y0 + (x1 * y1 + (x2 * y2 + (x3 * y3 + 0)))) 30 := by
  have e : dotS [x0, x1, x2, x3] [y0, y1, y2, y3] = x0 * y0 + (x1 * y1 + (x2 * y2 + (x3 * y3 + 0))) := by
    simp only [dotS]
    rw [sat_in a0.1 a0.2, sat_in a1.1 a1.2, sat_in a2.1 a2.2, sat_in a3.1 a3.2, sat_in b0.1 b0.2, sat_in b1.1 b1.2, sat_in b2.1 b2.2, sat_in b3.1 b3.2]
  have f : dotFl [x0, x1, x2, x3] [y0, y1, y2, y3] = false := by
    simp only [dotFl]
    rw [satH_in a0.1 a0.2, satH_in a1.1 a1.2, satH_in a2.1 a2.2, satH_in a3.1 a3.2, satH_in b0.1 b0.2, satH_in b1.1 b1.2, satH_in b2.1 b2.2, satH_in b3.1 b3.2]
    rfl
  refine ⟨?_, ?_⟩
  · show rndS (dotS [x0, x1, x2, x3] [y0, y1, y2, y3]) 30 = _; rw [e]
  · show (dotFl [x0, x1, x2, x3] [y0, y1, y2, y3] || rndH (dotS [x0, x1, x2, x3] [y0, y1, y2, y3]) 30) = _; rw [e, f]; rfl
theorem dot4_eq {x0 x1 x2 x3 y0 y1 y2 y3 u0 u1 u2 u3 v0 v1 v2 v3 : Int} (a0 : inS x0) (a1 : inS x1) (a2 : inS x2) (a3 : inS x3) (b0 : inS y0) (b1 : inS y1) (b2 : inS y2) (b3 : inS y3)
    (c0 : inS u0) (c1 : inS u1) (c2 : inS u2) (c3 : inS u3) (d0 : inS v0) (d1 : inS v1) (d2 : inS v2) (d3 : inS v3) (h : x0 * y0 + (x1 * y1 + (x2 * y2 + (x3 * y3 + 0))) = u0 * v0 + (u1 * v1 + (u2 * v2 + (u3 * v3 + 0)))) :
    dotV 30 [x0, x1, x2, x3] [y0, y1, y2, y3] = dotV 30 [u0, u1, u2, u3] [v0, v1, v2, v3] ∧ dotH 30 [x0, x1, x2, x3] [y0, y1, y2, y3] = dotH 30 [u0, u1, u2, u3] [v0, v1, v2, v3] := by
  obtain ⟨e1, e2⟩ := dot4 a0 a1 a2 a3 b0 b1 b2 b3
  obtain ⟨f1, f2⟩ := dot4 c0 c1 c2 c3 d0 d1 d2 d3
  rw [e1, e2, f1, f2, h]; exact ⟨rfl, rfl⟩
/-- The minus on the other list. -/
theorem t1_neg {a b d e : Int} (ha : inS a) (hb : inS b) (hd : inS d) (he : inS e) :
    dotV 30 [a, a, d, d] [b, b, wr IntKind.i64 (0 - e), wr IntKind.i64 (0 - e)] = t1V a b (wr IntKind.i64 (0 - d)) e ∧ dotH 30 [a, a, d, d] [b, b, wr IntKind.i64 (0 - e), wr IntKind.i64 (0 - e)] = t1H a b (wr IntKind.i64 (0 - d)) e := by
  unfold t1V t1H
  rw [wneg hd, wneg he]
  exact dot4_eq ha ha hd hd hb hb (inS_neg he) (inS_neg he) ha ha (inS_neg hd) (inS_neg hd) hb hb he he (by rw [Int.mul_neg, Int.neg_mul])
theorem t1_swap {a b d e : Int} (ha : inS a) (hb : inS b) (hd : inS d) (he : inS e) : t1V b a d e = t1V a b d e ∧ t1H b a d e = t1H a b d e := by
  unfold t1V t1H
  exact dot4_eq hb hb hd hd ha ha he he ha ha hd hd hb hb he he (by rw [Int.mul_comm b a])
theorem s1_a {a b c d : Int} (ha : inS a) (hb : inS b) (hc : inS c) (hd : inS d) :
    dotV 30 [a, b, wr IntKind.i64 (0 - c), wr IntKind.i64 (0 - d)] [a, b, c, d] = s1V 1 1 (-1) (-1) a b c d ∧ dotH 30 [a, b, wr IntKind.i64 (0 - c), wr IntKind.i64 (0 - d)] [a, b, c, d] = s1H 1 1 (-1) (-1) a b c d := by
  unfold s1V s1H
  rw [wneg hc, wneg hd, wone ha, wone hb, wmone hc, wmone hd]
  exact dot4_eq ha hb (inS_neg hc) (inS_neg hd) ha hb hc hd ha hb hc hd ha hb (inS_neg hc) (inS_neg hd) (by simp only [Int.mul_neg, Int.neg_mul])
theorem s1_b {a b c d : Int} (ha : inS a) (hb : inS b) (hc : inS c) (hd : inS d) :
    dotV 30 [a, c, wr IntKind.i64 (0 - d), wr IntKind.i64 (0 - b)] [a, c, d, b] = s1V 1 (-1) 1 (-1) a b c d ∧ dotH 30 [a, c, wr IntKind.i64 (0 - d), wr IntKind.i64 (0 - b)] [a, c, d, b] = s1H 1 (-1) 1 (-1) a b c d := by
  unfold s1V s1H
  rw [wneg hd, wneg hb, wone ha, wone hc, wmone hb, wmone hd]
  exact dot4_eq ha hc (inS_neg hd) (inS_neg hb) ha hc hd hb ha hb hc hd ha (inS_neg hb) hc (inS_neg hd) (by simp only [Int.mul_neg, Int.neg_mul]; generalize a * a = p; generalize b * b = q; generalize c * c = r; generalize d * d = s; omega)
theorem s1_c {a b c d : Int} (ha : inS a) (hb : inS b) (hc : inS c) (hd : inS d) :
    dotV 30 [a, d, wr IntKind.i64 (0 - b), wr IntKind.i64 (0 - c)] [a, d, b, c] = s1V 1 (-1) (-1) 1 a b c d ∧ dotH 30 [a, d, wr IntKind.i64 (0 - b), wr IntKind.i64 (0 - c)] [a, d, b, c] = s1H 1 (-1) (-1) 1 a b c d := by
  unfold s1V s1H
  rw [wneg hb, wneg hc, wone ha, wone hd, wmone hb, wmone hc]
  exact dot4_eq ha hd (inS_neg hb) (inS_neg hc) ha hd hb hc ha hb hc hd ha (inS_neg hb) (inS_neg hc) hd (by simp only [Int.mul_neg, Int.neg_mul]; generalize a * a = p; generalize b * b = q; generalize c * c = r; generalize d * d = s; omega)
end Go.Proofs.Ythfanchjkkeejaa

/- The second answer's matrix of a quaternion: its run (printed), in the program's words. -/
namespace Go.Proofs.Ythfanchjkkeejaa
open Go.Lr
set_option linter.unusedVariables false
set_option linter.unusedSimpArgs false

theorem r4ofR (a0 a1 a2 a3 : Int) (hb : Bool) (ty : TypeId) : (runF Try.prog S34 Zl 2000 56 [A0, .v (.agg [.int .i64 a0, .int .i64 a1, .int .i64 a2, .int .i64 a3])] [(0, flag ty hb)] 1 [none, none, none, none, none, none, none, none, none, none, none, none, none, none, none, none, none, none, none, none, none, none, none, none, none, none, none, none, none, none, none]).map acc3 = some (LV.v (V1.agg [At.int IntKind.i64 (dotV 30 [satV a0, satV a1, wr IntKind.i64 (0 - satV a2), wr IntKind.i64 (0 - satV a3)] [satV a0, satV a1, satV a2, satV a3]), At.int IntKind.i64 (dotV 30 [satV a1, satV a1, satV a0, satV a0] [satV a2, satV a2, wr IntKind.i64 (0 - satV a3), wr IntKind.i64 (0 - satV a3)]), At.int IntKind.i64 (dotV 30 [satV a1, satV a1, satV a0, satV a0] [satV a3, satV a3, satV a2, satV a2]), At.int IntKind.i64 (dotV 30 [satV a2, satV a2, satV a0, satV a0] [satV a1, satV a1, satV a3, satV a3]), At.int IntKind.i64 (dotV 30 [satV a0, satV a2, wr IntKind.i64 (0 - satV a3), wr IntKind.i64 (0 - satV a1)] [satV a0, satV a2, satV a3, satV a1]), At.int IntKind.i64 (dotV 30 [satV a2, satV a2, satV a0, satV a0] [satV a3, satV a3, wr IntKind.i64 (0 - satV a1), wr IntKind.i64 (0 - satV a1)]), At.int IntKind.i64 (dotV 30 [satV a3, satV a3, satV a0, satV a0] [satV a1, satV a1, wr IntKind.i64 (0 - satV a2), wr IntKind.i64 (0 - satV a2)]), At.int IntKind.i64 (dotV 30 [satV a3, satV a3, satV a0, satV a0] [satV a2, satV a2, satV a1, satV a1]), At.int IntKind.i64 (dotV 30 [satV a0, satV a3, wr IntKind.i64 (0 - satV a1), wr IntKind.i64 (0 - satV a2)] [satV a0, satV a3, satV a1, satV a2])]), some { ty := ty, fr := (0, 0), es := 0, cells := [At.bool (hb || satH a0 || satH a1 || satH a2 || satH a3 || dotH 30 [satV a0, satV a1, wr IntKind.i64 (0 - satV a2), wr IntKind.i64 (0 - satV a3)] [satV a0, satV a1, satV a2, satV a3] || dotH 30 [satV a1, satV a1, satV a0, satV a0] [satV a2, satV a2, wr IntKind.i64 (0 - satV a3), wr IntKind.i64 (0 - satV a3)] || dotH 30 [satV a1, satV a1, satV a0, satV a0] [satV a3, satV a3, satV a2, satV a2] || dotH 30 [satV a2, satV a2, satV a0, satV a0] [satV a1, satV a1, satV a3, satV a3] || dotH 30 [satV a0, satV a2, wr IntKind.i64 (0 - satV a3), wr IntKind.i64 (0 - satV a1)] [satV a0, satV a2, satV a3, satV a1] || dotH 30 [satV a2, satV a2, satV a0, satV a0] [satV a3, satV a3, wr IntKind.i64 (0 - satV a1), wr IntKind.i64 (0 - satV a1)] || dotH 30 [satV a3, satV a3, satV a0, satV a0] [satV a1, satV a1, wr IntKind.i64 (0 - satV a2), wr IntKind.i64 (0 - satV a2)] || dotH 30 [satV a3, satV a3, satV a0, satV a0] [satV a2, satV a2, satV a1, satV a1] || dotH 30 [satV a0, satV a3, wr IntKind.i64 (0 - satV a1), wr IntKind.i64 (0 - satV a2)] [satV a0, satV a3, satV a1, satV a2])] }, []) := by kernel_rfl
theorem sumR4of (ty : TypeId) : SumOK Try.prog 56 (accSum ty rofF) := by
  refine accSum_run (z := Zl) sound34 (own_of sound34 Try.func56 (by kernel_rfl)) fun args hb v h' cs hF hc => ?_
  unfold rofF at hF
  split at hF
  · rename_i a0 a1 a2 a3
    unfold rofT at hF
    cases hF
    have i0 := inS_sat a0
    have i1 := inS_sat a1
    have i2 := inS_sat a2
    have i3 := inS_sat a3
    have in0 : inS (wr IntKind.i64 (0 - satV a0)) := by rw [wneg i0]; exact inS_neg i0
    obtain ⟨e0, f0⟩ := s1_a i0 i1 i2 i3
    obtain ⟨e1, f1⟩ := t1_neg i1 i2 i0 i3
    obtain ⟨e3, f3⟩ := t1_swap i1 i2 i0 i3
    obtain ⟨e4, f4⟩ := s1_b i0 i1 i2 i3
    obtain ⟨e5, f5⟩ := t1_neg i2 i3 i0 i1
    obtain ⟨e6, f6⟩ := t1_neg i3 i1 i0 i2
    obtain ⟨g6, k6⟩ := t1_swap i1 i3 in0 i2
    obtain ⟨e7, f7⟩ := t1_swap i2 i3 i0 i1
    obtain ⟨e8, f8⟩ := s1_c i0 i1 i2 i3
    refine ⟨rfl, 2000, _, [], (r4ofR a0 a1 a2 a3 hb ty).trans ?_, ae_nil⟩
    rw [e0, e1, e4, e5, e6, e8, g6, f0, f1, f4, f5, f6, f8, k6]
    rw [← e3, ← e7, ← f3, ← f7]
    rfl
  · cases hF
end Go.Proofs.Ythfanchjkkeejaa

/- Headings in both answers: their runs, against what they compute. -/
namespace Go.Proofs.Ythfanchjkkeejaa
open Go.Lr
set_option linter.unusedVariables false
set_option linter.unusedSimpArgs false

noncomputable def S42 : FuncId → Option SumK := more (more (more S39 24 (accSum 27 unitS)) 29 (accAny unitS)) 56 (accAny rofF)
theorem sound42 : Sound Try.prog S42 := ((sound39.more sumpu).more (accAny_ok sumru)).more (accAny_ok sumR4of)

def acc3S (ty : TypeId) (r : Option (LV × Bool × List (Bool × Bool))) : Option (LV × Option Blk × List (Bool × Bool)) := r.map fun q => (q.1, some (flag ty q.2.1), q.2.2)
/-- The rotation that heads so; the heading of a rotation. -/
def fyS : List LV → Bool → Option (LV × Bool × List (Bool × Bool))
  | [.v (.one (.int .i64 a))], hb => unitS [.v (.agg [.int .i64 (cosV (mulV (wrapV a) 536870912 30)), .int .i64 0, .int .i64 0, .int .i64 (sinV (mulV (wrapV a) 536870912 30))])] (sinH (mulV (wrapV a) 536870912 30) (cosH (mulV (wrapV a) 536870912 30) (hb || mulH (wrapV a) 536870912 30)))
  | _, _ => none
def yawS : List LV → Bool → Option (LV × Bool × List (Bool × Bool))
  | [.v (.agg [.int .i64 a0, .int .i64 a1, .int .i64 a2, .int .i64 a3])], hb => match rofF [.v (.agg [.int .i64 a0, .int .i64 a1, .int .i64 a2, .int .i64 a3])] hb with
    | some (_, h, _) => some (I (atanV (t1V (satV a1) (satV a2) (satV a0) (satV a3)) (s1V 1 1 (-1) (-1) (satV a0) (satV a1) (satV a2) (satV a3))), atanH (t1V (satV a1) (satV a2) (satV a0) (satV a3)) (s1V 1 1 (-1) (-1) (satV a0) (satV a1) (satV a2) (satV a3)) h, [])
    | none => none
  | _, _ => none
theorem pfyR (a : Int) (hb : Bool) : (runF Try.prog S42 Zl 2000 65 [A0, I a] [(0, flag 27 hb)] 1 []).map acc3 = acc3S 27 (fyS [I a] hb) := by kernel_rfl
theorem rfyR (a : Int) (hb : Bool) (ty : TypeId) : (runF Try.prog S42 Zl 2000 39 [A0, I a] [(0, flag ty hb)] 1 []).map acc3 = acc3S ty (fyS [I a] hb) := by kernel_rfl
theorem pyawR (a0 a1 a2 a3 : Int) (hb : Bool) : (runF Try.prog S42 Zl 2000 63 [A0, .v (.agg [.int .i64 a0, .int .i64 a1, .int .i64 a2, .int .i64 a3])] [(0, flag 27 hb)] 1 []).map acc3 = acc3S 27 (yawS [.v (.agg [.int .i64 a0, .int .i64 a1, .int .i64 a2, .int .i64 a3])] hb) := by kernel_rfl
theorem ryawR (a0 a1 a2 a3 : Int) (hb : Bool) (ty : TypeId) : (runF Try.prog S42 Zl 2000 64 [A0, .v (.agg [.int .i64 a0, .int .i64 a1, .int .i64 a2, .int .i64 a3])] [(0, flag ty hb)] 1 []).map acc3 = acc3S ty (yawS [.v (.agg [.int .i64 a0, .int .i64 a1, .int .i64 a2, .int .i64 a3])] hb) := by kernel_rfl
end Go.Proofs.Ythfanchjkkeejaa

/- Exponentials in both answers: their runs, against what they compute. -/
namespace Go.Proofs.Ythfanchjkkeejaa
open Go.Lr
set_option linter.unusedVariables false
set_option linter.unusedSimpArgs false

def exN (v0 v1 v2 : Int) : Int := hypV [satV v0, satV v1, satV v2]
def exH0 (h : Bool) (v0 v1 v2 : Int) : Bool := h || satH v0 || satH v1 || satH v2 || hypH [satV v0, satV v1, satV v2]
def exA (v0 v1 v2 : Int) : Int := mulV (exN v0 v1 v2) 536870912 30
def exS (v0 v1 v2 : Int) : Int := divPV (sinV (exA v0 v1 v2)) (exN v0 v1 v2) 30
def exH1 (h : Bool) (v0 v1 v2 : Int) : Bool := cosH (exA v0 v1 v2) (sinH (exA v0 v1 v2) (exH0 h v0 v1 v2 || mulH (exN v0 v1 v2) 536870912 30) || divPH (sinV (exA v0 v1 v2)) (exN v0 v1 v2) 30) || mulH (satV v0) (exS v0 v1 v2) 30 || mulH (satV v1) (exS v0 v1 v2) 30 || mulH (satV v2) (exS v0 v1 v2) 30
def exB (v0 v1 v2 : Int) (hb : Bool) : Option (LV × Bool × List (Bool × Bool)) := unitS [.v (.agg [.int .i64 (cosV (exA v0 v1 v2)), .int .i64 (mulV (satV v0) (exS v0 v1 v2) 30), .int .i64 (mulV (satV v1) (exS v0 v1 v2) 30), .int .i64 (mulV (satV v2) (exS v0 v1 v2) 30)])] (exH1 hb v0 v1 v2)
def withAsk (c : Bool × Bool) (r : Option (LV × Option Blk × List (Bool × Bool))) : Option (LV × Option Blk × List (Bool × Bool)) := r.map fun q => (q.1, q.2.1, c :: q.2.2)
theorem pexZ (v0 v1 v2 : Int) (hb : Bool) : (runF Try.prog S42 Zl 2000 61 [A0, .v (.agg [.int .i64 v0, .int .i64 v1, .int .i64 v2])] [(0, flag 27 hb)] 1 [some true]).map acc3 = some (.v (.agg [.int .i64 1073741824, .int .i64 0, .int .i64 0, .int .i64 0]), some (flag 27 (exH0 hb v0 v1 v2)), [(exN v0 v1 v2 == 0, true)]) := by kernel_rfl
theorem rexZ (v0 v1 v2 : Int) (hb : Bool) (ty : TypeId) : (runF Try.prog S42 Zl 2000 62 [A0, .v (.agg [.int .i64 v0, .int .i64 v1, .int .i64 v2])] [(0, flag ty hb)] 1 [some true]).map acc3 = some (.v (.agg [.int .i64 1073741824, .int .i64 0, .int .i64 0, .int .i64 0]), some (flag ty (exH0 hb v0 v1 v2)), [(exN v0 v1 v2 == 0, true)]) := by kernel_rfl
theorem pexN (v0 v1 v2 : Int) (hb : Bool) : (runF Try.prog S42 Zl 2000 61 [A0, .v (.agg [.int .i64 v0, .int .i64 v1, .int .i64 v2])] [(0, flag 27 hb)] 1 [some false]).map acc3 = withAsk (exN v0 v1 v2 == 0, false) (acc3S 27 (exB v0 v1 v2 hb)) := by kernel_rfl
theorem rexN (v0 v1 v2 : Int) (hb : Bool) (ty : TypeId) : (runF Try.prog S42 Zl 2000 62 [A0, .v (.agg [.int .i64 v0, .int .i64 v1, .int .i64 v2])] [(0, flag ty hb)] 1 [some false]).map acc3 = withAsk (exN v0 v1 v2 == 0, false) (acc3S ty (exB v0 v1 v2 hb)) := by kernel_rfl
end Go.Proofs.Ythfanchjkkeejaa

/- Headings and exponentials in both answers: their summaries; turning vectors. -/
namespace Go.Proofs.Ythfanchjkkeejaa
open Go.Lr
set_option linter.unusedVariables false
set_option linter.unusedSimpArgs false

theorem unitS_inv {a0 a1 a2 a3 : Int} {hb : Bool} : ∃ v h, unitS [.v (.agg [.int .i64 a0, .int .i64 a1, .int .i64 a2, .int .i64 a3])] hb = some (v, h, []) ∧ v.ok noP = true := ⟨_, _, rfl, rfl⟩
theorem acc3S_some {ty : TypeId} {r : Option (LV × Bool × List (Bool × Bool))} {v : LV} {h : Bool} {cs : List (Bool × Bool)} (e : r = some (v, h, cs)) : acc3S ty r = some (v, some (flag ty h), cs) := by subst e; rfl
theorem sumPfy : SumOK Try.prog 65 (accSum 27 fyS) := by
  refine accSum_run (z := Zl) sound42 (own_of sound42 Try.func65 (by kernel_rfl)) fun args hb v h' cs hF hc => ?_
  have hF0 := hF
  unfold fyS at hF
  split at hF
  · rename_i a
    obtain ⟨v1, h1, e, ok⟩ := unitS_inv (a0 := cosV (mulV (wrapV a) 536870912 30)) (a1 := 0) (a2 := 0) (a3 := sinV (mulV (wrapV a) 536870912 30)) (hb := sinH (mulV (wrapV a) 536870912 30) (cosH (mulV (wrapV a) 536870912 30) (hb || mulH (wrapV a) 536870912 30)))
    have hF1 := hF
    rw [e] at hF1
    cases hF1
    exact ⟨ok, 2000, [], _, (pfyR a hb).trans (acc3S_some hF0), ae_nil⟩
  · cases hF
theorem sumRfy (ty : TypeId) : SumOK Try.prog 39 (accSum ty fyS) := by
  refine accSum_run (z := Zl) sound42 (own_of sound42 Try.func39 (by kernel_rfl)) fun args hb v h' cs hF hc => ?_
  have hF0 := hF
  unfold fyS at hF
  split at hF
  · rename_i a
    obtain ⟨v1, h1, e, ok⟩ := unitS_inv (a0 := cosV (mulV (wrapV a) 536870912 30)) (a1 := 0) (a2 := 0) (a3 := sinV (mulV (wrapV a) 536870912 30)) (hb := sinH (mulV (wrapV a) 536870912 30) (cosH (mulV (wrapV a) 536870912 30) (hb || mulH (wrapV a) 536870912 30)))
    have hF1 := hF
    rw [e] at hF1
    cases hF1
    exact ⟨ok, 2000, [], _, (rfyR a hb ty).trans (acc3S_some hF0), ae_nil⟩
  · cases hF
theorem sumPyaw : SumOK Try.prog 63 (accSum 27 yawS) := by
  refine accSum_run (z := Zl) sound42 (own_of sound42 Try.func63 (by kernel_rfl)) fun args hb v h' cs hF hc => ?_
  have hF0 := hF
  unfold yawS at hF
  split at hF
  · rename_i a0 a1 a2 a3
    split at hF
    · cases hF
      exact ⟨rfl, 2000, [], _, (pyawR a0 a1 a2 a3 hb).trans (acc3S_some hF0), ae_nil⟩
    · cases hF
  · cases hF
theorem sumRyaw (ty : TypeId) : SumOK Try.prog 64 (accSum ty yawS) := by
  refine accSum_run (z := Zl) sound42 (own_of sound42 Try.func64 (by kernel_rfl)) fun args hb v h' cs hF hc => ?_
  have hF0 := hF
  unfold yawS at hF
  split at hF
  · rename_i a0 a1 a2 a3
    split at hF
    · cases hF
      exact ⟨rfl, 2000, [], _, (ryawR a0 a1 a2 a3 hb ty).trans (acc3S_some hF0), ae_nil⟩
    · cases hF
  · cases hF
end Go.Proofs.Ythfanchjkkeejaa

/- Exponentials in both answers: their summaries; the second answer's turning of vectors. -/
namespace Go.Proofs.Ythfanchjkkeejaa
open Go.Lr
set_option linter.unusedVariables false
set_option linter.unusedSimpArgs false

def expS : List LV → Bool → Option (LV × Bool × List (Bool × Bool))
  | [.v (.agg [.int .i64 v0, .int .i64 v1, .int .i64 v2])], hb => bif exN v0 v1 v2 == 0 then some (.v (.agg [.int .i64 1073741824, .int .i64 0, .int .i64 0, .int .i64 0]), exH0 hb v0 v1 v2, []) else exB v0 v1 v2 hb
  | _, _ => none
theorem exB_inv (v0 v1 v2 : Int) (hb : Bool) : ∃ v h, exB v0 v1 v2 hb = some (v, h, []) ∧ v.ok noP = true := unitS_inv
theorem sumPexp : SumOK Try.prog 61 (accSum 27 expS) := by
  refine accSum_run (z := Zl) sound42 (own_of sound42 Try.func61 (by kernel_rfl)) fun args hb v h' cs hF hc => ?_
  unfold expS at hF
  split at hF
  · rename_i v0 v1 v2
    rcases bool_cases (exN v0 v1 v2 == 0) with h | h
    · rw [cond_t h] at hF
      cases hF
      exact ⟨rfl, 2000, _, _, pexZ v0 v1 v2 hb, ae_cons h ae_nil⟩
    · rw [cond_f h] at hF
      obtain ⟨v1', h1, e, ok⟩ := exB_inv v0 v1 v2 hb
      have hF1 := hF
      rw [e] at hF1
      cases hF1
      have hr := pexN v0 v1 v2 hb
      rw [acc3S_some hF] at hr
      exact ⟨ok, 2000, _, _, hr, ae_cons h ae_nil⟩
  · cases hF
theorem sumRexp (ty : TypeId) : SumOK Try.prog 62 (accSum ty expS) := by
  refine accSum_run (z := Zl) sound42 (own_of sound42 Try.func62 (by kernel_rfl)) fun args hb v h' cs hF hc => ?_
  unfold expS at hF
  split at hF
  · rename_i v0 v1 v2
    rcases bool_cases (exN v0 v1 v2 == 0) with h | h
    · rw [cond_t h] at hF
      cases hF
      exact ⟨rfl, 2000, _, _, rexZ v0 v1 v2 hb ty, ae_cons h ae_nil⟩
    · rw [cond_f h] at hF
      obtain ⟨v1', h1, e, ok⟩ := exB_inv v0 v1 v2 hb
      have hF1 := hF
      rw [e] at hF1
      cases hF1
      have hr := rexN v0 v1 v2 hb ty
      rw [acc3S_some hF] at hr
      exact ⟨ok, 2000, _, _, hr, ae_cons h ae_nil⟩
  · cases hF
end Go.Proofs.Ythfanchjkkeejaa

/- Tilts in both answers: the plain facts. -/
namespace Go.Proofs.Ythfanchjkkeejaa
open Go.Lr
set_option linter.unusedVariables false
set_option linter.unusedSimpArgs false

theorem sqN (a : Int) : 0 ≤ a * a := by
  have h : 0 ≤ a ∨ a ≤ 0 := by omega
  rcases h with h | h
  · exact Int.mul_nonneg h h
  · exact Int.mul_nonneg_of_nonpos_of_nonpos h h
theorem absSq (a : Int) : absV a * absV a = a * a := by rw [← absV_mul, absV_pos (sqN a)]
theorem sqS3 (x y z : Int) : sqS (List.take 64 [x, y, z]) = satV x * satV x + (satV y * satV y + satV z * satV z) := by
  show satV x * satV x + (satV y * satV y + (satV z * satV z + 0)) = _
  omega
/-- A clamped number's square. -/
theorem sqb {s : Int} (h0 : -1152921504606846976 ≤ s) (h1 : s ≤ 1152921504606846976) : 0 ≤ s * s ∧ s * s ≤ 1329227995784915872903807060280344576 := by
  refine ⟨sqN s, ?_⟩
  have := prod_lt (a := s) (b := s) (k := 1152921504606846976) (l := 1152921504606846976) (by unfold absV; split <;> omega) (by unfold absV; split <;> omega)
  omega
theorem root_side {s N : Int} (h1 : s * s ≤ N) (hN : N < 340282366920938463463374607431768211456) : s ≤ rootW N ∧ -s ≤ rootW N := by
  have h0 := sqN s
  constructor
  · refine root_ge (by omega) hN ?_
    by_cases h : s ≤ 0
    · exact .inl h
    · exact .inr (by omega)
  · refine root_ge (by omega) hN ?_
    by_cases h : -s ≤ 0
    · exact .inl h
    · right
      have e : -s * -s = s * s := by grind
      omega
/-- A length is at least each side. -/
theorem exN_side (v0 v1 v2 : Int) : (satV v0 ≤ exN v0 v1 v2 ∧ -satV v0 ≤ exN v0 v1 v2) ∧ (satV v1 ≤ exN v0 v1 v2 ∧ -satV v1 ≤ exN v0 v1 v2) ∧ (satV v2 ≤ exN v0 v1 v2 ∧ -satV v2 ≤ exN v0 v1 v2) ∧ 0 ≤ exN v0 v1 v2 ∧ exN v0 v1 v2 ≤ 1152921504606846976 := by
  unfold exN hypV
  rw [sqS3, sat_sat, sat_sat, sat_sat]
  have b0 := sat_bd v0
  have b1 := sat_bd v1
  have b2 := sat_bd v2
  generalize satV v0 = a at *
  generalize satV v1 = b at *
  generalize satV v2 = c at *
  have q0 := sqb b0.1 b0.2
  have q1 := sqb b1.1 b1.2
  have q2 := sqb b2.1 b2.2
  have hN : a * a + (b * b + c * c) < 340282366920938463463374607431768211456 := by omega
  have s0 := root_side (s := a) (N := a * a + (b * b + c * c)) (by omega) hN
  have s1 := root_side (s := b) (N := a * a + (b * b + c * c)) (by omega) hN
  have s2 := root_side (s := c) (N := a * a + (b * b + c * c)) (by omega) hN
  generalize rootW (a * a + (b * b + c * c)) = r at *
  have hr := sat_bd r
  have : satV r = r ∨ 1152921504606846976 ≤ satV r := by
    unfold satV clampV at *
    clear hr
    (repeat' split) <;> omega
  omega
theorem exN_zero {v0 v1 v2 : Int} (h0 : satV v0 = 0) (h1 : satV v1 = 0) (h2 : satV v2 = 0) : exN v0 v1 v2 = 0 ∧ hypH [satV v0, satV v1, satV v2] = false := by
  unfold exN
  rw [h0, h1, h2]
  exact ⟨by kernel_rfl, by kernel_rfl⟩
def tlZ (v0 v1 v2 : Int) : Bool := satV v0 == 0 && (satV v1 == 0 && (satV v2 == 0 && true))
theorem tlZ_eq (v0 v1 v2 : Int) : tlZ v0 v1 v2 = (exN v0 v1 v2 == 0) := by
  have hs := exN_side v0 v1 v2
  unfold tlZ
  by_cases h : exN v0 v1 v2 = 0
  · have e0 : satV v0 = 0 := by omega
    have e1 : satV v1 = 0 := by omega
    have e2 : satV v2 = 0 := by omega
    rw [e0, e1, e2, h]
    rfl
  · have e : (exN v0 v1 v2 == 0) = false := by simpa using h
    rw [e]
    by_cases e0 : satV v0 = 0
    · by_cases e1 : satV v1 = 0
      · by_cases e2 : satV v2 = 0
        · exact absurd (exN_zero e0 e1 e2).1 h
        · simp [e2]
      · simp [e1]
    · simp [e0]
theorem tl_h {v0 v1 v2 : Int} (h : (exN v0 v1 v2 == 0) = true) (hb : Bool) : exH0 hb v0 v1 v2 = (hb || satH v0 || satH v1 || satH v2) := by
  have hs := exN_side v0 v1 v2
  have h : exN v0 v1 v2 = 0 := by simpa using h
  unfold exH0
  rw [(exN_zero (v0 := v0) (v1 := v1) (v2 := v2) (by omega) (by omega) (by omega)).2, Bool.or_false]
/-- Divided by a length: the bounds, the flag. -/
theorem dpass {v u : Int} (h0 : v ≤ u) (h1 : -v ≤ u) (h2 : 1 ≤ u) (h3 : u ≤ 1152921504606846976) :
    (-u ≤ 2 * (divPV v u 30 * u - v * 1073741824) ∧ 2 * (divPV v u 30 * u - v * 1073741824) ≤ u) ∧ (-1073741824 ≤ divPV v u 30 ∧ divPV v u 30 ≤ 1073741824) ∧ divPH v u 30 = false := by
  have key : ∀ w : Int, 0 ≤ w → w ≤ u → -u ≤ 2 * (divV (w * 1073741824) u * u - w * 1073741824) ∧ 2 * (divV (w * 1073741824) u * u - w * 1073741824) ≤ u := by
    intro w w0 w1
    rw [div_pos (a := w * 1073741824) (b := u) (by omega) (by omega)]
    exact quo_bd (by omega) (by omega)
  have odd : ∀ w : Int, divV (-w) u = -divV w u := by
    intro w
    unfold divV
    rw [absV_negate]
    have hu : decide (u < 0) = false := by simp; omega
    rw [hu]
    by_cases g0 : w = 0
    · subst g0
      have : quoR (absV 0) (absV u) = 0 := by
        rw [show absV 0 = 0 from rfl]
        exact quoR_zero (by unfold absV; split <;> omega)
      rw [this]; rfl
    · by_cases g1 : w < 0
      · have e1 : decide (w < 0) = true := by simpa using g1
        have e2 : decide (-w < 0) = false := by simp; omega
        rw [e1, e2]; unfold sgn; simp
      · have e1 : decide (w < 0) = false := by simp; omega
        have e2 : decide (-w < 0) = true := by simp; omega
        rw [e1, e2]; unfold sgn; simp
  have hd : -u ≤ 2 * (divV (v * 1073741824) u * u - v * 1073741824) ∧ 2 * (divV (v * 1073741824) u * u - v * 1073741824) ≤ u := by
    by_cases h : 0 ≤ v
    · exact key v h h0
    · have k := key (-v) (by omega) h1
      rw [show -v * 1073741824 = -(v * 1073741824) by omega, odd, Int.neg_mul] at k
      omega
  have e : pow2 (Int.toNat 30) = 1073741824 := rfl
  have hb : -1073741824 ≤ divV (v * 1073741824) u ∧ divV (v * 1073741824) u ≤ 1073741824 := by
    generalize divV (v * 1073741824) u = t at *
    constructor
    · rcases Int.lt_or_le t (-1073741824) with h | h
      · exfalso
        have : t * u ≤ -1073741825 * u := Int.mul_le_mul_of_nonneg_right (by omega) (by omega)
        omega
      · exact h
    · rcases Int.lt_or_le 1073741824 t with h | h
      · exfalso
        have : 1073741825 * u ≤ t * u := Int.mul_le_mul_of_nonneg_right (by omega) (by omega)
        omega
      · exact h
  have hs : -1152921504606846976 ≤ v ∧ v ≤ 1152921504606846976 := by omega
  have ev : divPV v u 30 = divV (v * 1073741824) u := by
    unfold divPV byV
    rw [if_neg (by decide), if_neg (by decide), e, sat_in (a := v) hs.1 hs.2, sat_in (a := u) (by omega) h3, if_neg (by omega), sat_in (by omega) (by omega)]
  refine ⟨by rw [ev]; exact hd, by rw [ev]; exact hb, ?_⟩
  unfold divPH byH
  rw [e, sat_in (a := v) hs.1 hs.2, sat_in (a := u) (by omega) h3, satH_in (a := v) hs.1 hs.2, satH_in (a := u) (by omega) h3, satH_in (a := divV (v * 1073741824) u) (by omega) (by omega)]
  have : (u == 0) = false := by simp; omega
  rw [this]; rfl

theorem sub_one {u : Int} (h0 : -1073741824 ≤ u) (h1 : u ≤ 1073741824) : subV 1073741824 u = wr .i64 (1073741824 - u) ∧ subH 1073741824 u = false := by
  unfold subV subH
  rw [sat_in (a := u) (by omega) (by omega), sat_in (a := 1073741824) (by omega) (by omega), satH_in (a := u) (by omega) (by omega), satH_in (a := 1073741824) (by omega) (by omega), satH_in (a := 1073741824 - u) (by omega) (by omega), sat_in (a := 1073741824 - u) (by omega) (by omega), wr_i, w64_in (by omega) (by omega)]
  exact ⟨rfl, rfl⟩

/-- What Unit makes: its four numbers, its flag. -/
def uV0 (a0 a1 a2 a3 : Int) : Int := bif uZ a0 a1 a2 a3 then 1073741824 else uE (satV a0) (satV a0) (satV a1) (satV a2) (satV a3)
def uV1 (a0 a1 a2 a3 : Int) : Int := bif uZ a0 a1 a2 a3 then 0 else uE (satV a1) (satV a0) (satV a1) (satV a2) (satV a3)
def uV2 (a0 a1 a2 a3 : Int) : Int := bif uZ a0 a1 a2 a3 then 0 else uE (satV a2) (satV a0) (satV a1) (satV a2) (satV a3)
def uV3 (a0 a1 a2 a3 : Int) : Int := bif uZ a0 a1 a2 a3 then 0 else uE (satV a3) (satV a0) (satV a1) (satV a2) (satV a3)
def uFl (h : Bool) (a0 a1 a2 a3 : Int) : Bool := bif uZ a0 a1 a2 a3 then uS h a0 a1 a2 a3 else uH (uS h a0 a1 a2 a3) (satV a0) (satV a1) (satV a2) (satV a3)
def tU (v v0 v1 v2 : Int) : Int := divPV (satV v) (exN v0 v1 v2) 30
theorem tU_sub {v0 v1 v2 : Int} (h : (exN v0 v1 v2 == 0) = false) : subV 1073741824 (tU v2 v0 v1 v2) = wr .i64 (1073741824 - tU v2 v0 v1 v2) ∧ subH 1073741824 (tU v2 v0 v1 v2) = false := by
  have h : exN v0 v1 v2 ≠ 0 := by simpa using h
  have hs := exN_side v0 v1 v2
  unfold tU
  have := (dpass (v := satV v2) (u := exN v0 v1 v2) (by omega) (by omega) (by omega) (by omega)).2.1
  exact sub_one this.1 this.2
end Go.Proofs.Ythfanchjkkeejaa

/- Tilts in both answers: their runs, their summaries. -/
namespace Go.Proofs.Ythfanchjkkeejaa
open Go.Lr
set_option linter.unusedVariables false
set_option linter.unusedSimpArgs false

def tlH (h : Bool) (v0 v1 v2 : Int) : Bool := exH0 h v0 v1 v2 || divPH (satV v0) (exN v0 v1 v2) 30 || divPH (satV v1) (exN v0 v1 v2) 30 || divPH (satV v2) (exN v0 v1 v2) 30
def tlB (w v0 v1 v2 : Int) (h : Bool) : Option (LV × Bool × List (Bool × Bool)) := unitS [.v (.agg [.int .i64 w, .int .i64 (wr IntKind.i64 (0 - tU v1 v0 v1 v2)), .int .i64 (tU v0 v0 v1 v2), .int .i64 0])] h
def tiltS : List LV → Bool → Option (LV × Bool × List (Bool × Bool))
  | [.v (.agg [.int .i64 v0, .int .i64 v1, .int .i64 v2])], hb => bif exN v0 v1 v2 == 0 then some (.v (.agg [.int .i64 1073741824, .int .i64 0, .int .i64 0, .int .i64 0]), exH0 hb v0 v1 v2, []) else
    bif decide (wr IntKind.i64 (1073741824 - tU v2 v0 v1 v2) ≤ 16) then some (.v (.agg [.int .i64 0, .int .i64 1073741824, .int .i64 0, .int .i64 0]), tlH hb v0 v1 v2, []) else tlB (wr IntKind.i64 (1073741824 - tU v2 v0 v1 v2)) v0 v1 v2 (tlH hb v0 v1 v2)
  | _, _ => none
theorem tlB_inv (w v0 v1 v2 : Int) (hb : Bool) : ∃ v h, tlB w v0 v1 v2 hb = some (v, h, []) ∧ v.ok noP = true := unitS_inv
def with2 (c d : Bool × Bool) (r : Option (LV × Option Blk × List (Bool × Bool))) : Option (LV × Option Blk × List (Bool × Bool)) := r.map fun q => (q.1, q.2.1, d :: c :: q.2.2)
theorem ptZ (v0 v1 v2 : Int) (hb : Bool) : (runF Try.prog S42 Zl 2000 66 [A0, .v (.agg [.int .i64 v0, .int .i64 v1, .int .i64 v2])] [(0, flag 27 hb)] 1 [some true]).map acc3 = some (.v (.agg [.int .i64 1073741824, .int .i64 0, .int .i64 0, .int .i64 0]), some (flag 27 (hb || satH v0 || satH v1 || satH v2)), [(tlZ v0 v1 v2, true)]) := by kernel_rfl
theorem rtZ (v0 v1 v2 : Int) (hb : Bool) (ty : TypeId) : (runF Try.prog S42 Zl 2000 67 [A0, .v (.agg [.int .i64 v0, .int .i64 v1, .int .i64 v2])] [(0, flag ty hb)] 1 [some true]).map acc3 = some (.v (.agg [.int .i64 1073741824, .int .i64 0, .int .i64 0, .int .i64 0]), some (flag ty (exH0 hb v0 v1 v2)), [(exN v0 v1 v2 == 0, true)]) := by kernel_rfl
theorem ptL (v0 v1 v2 : Int) (hb : Bool) : (runF Try.prog S42 Zl 2000 66 [A0, .v (.agg [.int .i64 v0, .int .i64 v1, .int .i64 v2])] [(0, flag 27 hb)] 1 [some false, none, none, none, none, some true]).map acc3 = some (.v (.agg [.int .i64 0, .int .i64 1073741824, .int .i64 0, .int .i64 0]), some (flag 27 (tlH hb v0 v1 v2 || subH 1073741824 (tU v2 v0 v1 v2))), [(decide (subV 1073741824 (tU v2 v0 v1 v2) ≤ 16), true), (tlZ v0 v1 v2, false)]) := by kernel_rfl
theorem rtL (v0 v1 v2 : Int) (hb : Bool) (ty : TypeId) : (runF Try.prog S42 Zl 2000 67 [A0, .v (.agg [.int .i64 v0, .int .i64 v1, .int .i64 v2])] [(0, flag ty hb)] 1 [some false, some true]).map acc3 = some (.v (.agg [.int .i64 0, .int .i64 1073741824, .int .i64 0, .int .i64 0]), some (flag ty (tlH hb v0 v1 v2)), [(decide (wr IntKind.i64 (1073741824 - tU v2 v0 v1 v2) ≤ 16), true), (exN v0 v1 v2 == 0, false)]) := by kernel_rfl
theorem ptN (v0 v1 v2 : Int) (hb : Bool) : (runF Try.prog S42 Zl 2000 66 [A0, .v (.agg [.int .i64 v0, .int .i64 v1, .int .i64 v2])] [(0, flag 27 hb)] 1 [some false, none, none, none, none, some false]).map acc3 = with2 (tlZ v0 v1 v2, false) (decide (subV 1073741824 (tU v2 v0 v1 v2) ≤ 16), false) (acc3S 27 (tlB (subV 1073741824 (tU v2 v0 v1 v2)) v0 v1 v2 (tlH hb v0 v1 v2 || subH 1073741824 (tU v2 v0 v1 v2)))) := by kernel_rfl
theorem rtN (v0 v1 v2 : Int) (hb : Bool) (ty : TypeId) : (runF Try.prog S42 Zl 2000 67 [A0, .v (.agg [.int .i64 v0, .int .i64 v1, .int .i64 v2])] [(0, flag ty hb)] 1 [some false, some false]).map acc3 = with2 (exN v0 v1 v2 == 0, false) (decide (wr IntKind.i64 (1073741824 - tU v2 v0 v1 v2) ≤ 16), false) (acc3S ty (tlB (wr IntKind.i64 (1073741824 - tU v2 v0 v1 v2)) v0 v1 v2 (tlH hb v0 v1 v2))) := by kernel_rfl

theorem sumPtilt : SumOK Try.prog 66 (accSum 27 tiltS) := by
  refine accSum_run (z := Zl) sound42 (own_of sound42 Try.func66 (by kernel_rfl)) fun args hb v h' cs hF hc => ?_
  unfold tiltS at hF
  split at hF
  · rename_i v0 v1 v2
    have hz := tlZ_eq v0 v1 v2
    rcases bool_cases (exN v0 v1 v2 == 0) with h | h
    · rw [cond_t h] at hF
      cases hF
      have hr := ptZ v0 v1 v2 hb
      rw [← tl_h h] at hr
      exact ⟨rfl, 2000, _, _, hr, ae_cons (hz.trans h) ae_nil⟩
    · rw [cond_f h] at hF
      obtain ⟨es, eh⟩ := tU_sub h
      rcases bool_cases (decide (wr IntKind.i64 (1073741824 - tU v2 v0 v1 v2) ≤ 16)) with g | g
      · rw [cond_t g] at hF
        cases hF
        have hr := ptL v0 v1 v2 hb
        rw [es, eh, Bool.or_false] at hr
        exact ⟨rfl, 2000, _, _, hr, ae_cons g (ae_cons (hz.trans h) ae_nil)⟩
      · rw [cond_f g] at hF
        obtain ⟨v1', h1, e, ok⟩ := tlB_inv (wr IntKind.i64 (1073741824 - tU v2 v0 v1 v2)) v0 v1 v2 (tlH hb v0 v1 v2)
        have hF1 := hF
        rw [e] at hF1
        cases hF1
        have hr := ptN v0 v1 v2 hb
        rw [es, eh, Bool.or_false, acc3S_some hF] at hr
        exact ⟨ok, 2000, _, _, hr, ae_cons g (ae_cons (hz.trans h) ae_nil)⟩
  · cases hF
theorem sumRtilt (ty : TypeId) : SumOK Try.prog 67 (accSum ty tiltS) := by
  refine accSum_run (z := Zl) sound42 (own_of sound42 Try.func67 (by kernel_rfl)) fun args hb v h' cs hF hc => ?_
  unfold tiltS at hF
  split at hF
  · rename_i v0 v1 v2
    rcases bool_cases (exN v0 v1 v2 == 0) with h | h
    · rw [cond_t h] at hF
      cases hF
      exact ⟨rfl, 2000, _, _, rtZ v0 v1 v2 hb ty, ae_cons h ae_nil⟩
    · rw [cond_f h] at hF
      rcases bool_cases (decide (wr IntKind.i64 (1073741824 - tU v2 v0 v1 v2) ≤ 16)) with g | g
      · rw [cond_t g] at hF
        cases hF
        exact ⟨rfl, 2000, _, _, rtL v0 v1 v2 hb ty, ae_cons g (ae_cons h ae_nil)⟩
      · rw [cond_f g] at hF
        obtain ⟨v1', h1, e, ok⟩ := tlB_inv (wr IntKind.i64 (1073741824 - tU v2 v0 v1 v2)) v0 v1 v2 (tlH hb v0 v1 v2)
        have hF1 := hF
        rw [e] at hF1
        cases hF1
        have hr := rtN v0 v1 v2 hb ty
        rw [acc3S_some hF] at hr
        exact ⟨ok, 2000, _, _, hr, ae_cons g (ae_cons h ae_nil)⟩
  · cases hF
end Go.Proofs.Ythfanchjkkeejaa

/- Turned vectors in both answers; every function of rotations summed up. -/
namespace Go.Proofs.Ythfanchjkkeejaa
open Go.Lr
set_option linter.unusedVariables false
set_option linter.unusedSimpArgs false

def apS : List LV → Bool → Option (LV × Bool × List (Bool × Bool))
  | [.v (.agg [.int .i64 m0, .int .i64 m1, .int .i64 m2, .int .i64 m3, .int .i64 m4, .int .i64 m5, .int .i64 m6, .int .i64 m7, .int .i64 m8]), .v (.agg [.int .i64 v0, .int .i64 v1, .int .i64 v2])], hb => some (.v (.agg [.int .i64 (dotV 30 [m0, m1, m2] [v0, v1, v2]), .int .i64 (dotV 30 [m3, m4, m5] [v0, v1, v2]), .int .i64 (dotV 30 [m6, m7, m8] [v0, v1, v2])]), (hb || dotH 30 [m0, m1, m2] [v0, v1, v2] || dotH 30 [m3, m4, m5] [v0, v1, v2] || dotH 30 [m6, m7, m8] [v0, v1, v2]), [])
  | _, _ => none
theorem papR (m0 m1 m2 m3 m4 m5 m6 m7 m8 v0 v1 v2 : Int) (hb : Bool) : (runF Try.prog S42 Zl 2000 57 [A0, .v (.agg [.int .i64 m0, .int .i64 m1, .int .i64 m2, .int .i64 m3, .int .i64 m4, .int .i64 m5, .int .i64 m6, .int .i64 m7, .int .i64 m8]), .v (.agg [.int .i64 v0, .int .i64 v1, .int .i64 v2])] [(0, flag 27 hb)] 1 []).map acc3 = some (.v (.agg [.int .i64 (dotV 30 [m0, m1, m2] [v0, v1, v2]), .int .i64 (dotV 30 [m3, m4, m5] [v0, v1, v2]), .int .i64 (dotV 30 [m6, m7, m8] [v0, v1, v2])]), some (flag 27 (hb || dotH 30 [m0, m1, m2] [v0, v1, v2] || dotH 30 [m3, m4, m5] [v0, v1, v2] || dotH 30 [m6, m7, m8] [v0, v1, v2])), []) := by kernel_rfl
theorem sumpap : SumOK Try.prog 57 (accSum 27 apS) := by
  refine accSum_run (z := Zl) sound42 (own_of sound42 Try.func57 (by kernel_rfl)) fun args hb v h' cs hF hc => ?_
  unfold apS at hF
  split at hF
  · cases hF
    exact ⟨rfl, 2000, [], _, papR _ _ _ _ _ _ _ _ _ _ _ _ hb, ae_nil⟩
  · cases hF
theorem rapR (m0 m1 m2 m3 m4 m5 m6 m7 m8 v0 v1 v2 : Int) (hb : Bool) (ty : TypeId) : (runF Try.prog S42 Zl 2000 58 [A0, .v (.agg [.int .i64 m0, .int .i64 m1, .int .i64 m2, .int .i64 m3, .int .i64 m4, .int .i64 m5, .int .i64 m6, .int .i64 m7, .int .i64 m8]), .v (.agg [.int .i64 v0, .int .i64 v1, .int .i64 v2])] [(0, flag ty hb)] 1 []).map acc3 = some (.v (.agg [.int .i64 (dotV 30 [m0, m1, m2] [v0, v1, v2]), .int .i64 (dotV 30 [m3, m4, m5] [v0, v1, v2]), .int .i64 (dotV 30 [m6, m7, m8] [v0, v1, v2])]), some (flag ty (hb || dotH 30 [m0, m1, m2] [v0, v1, v2] || dotH 30 [m3, m4, m5] [v0, v1, v2] || dotH 30 [m6, m7, m8] [v0, v1, v2])), []) := by kernel_rfl
theorem sumrap (ty : TypeId) : SumOK Try.prog 58 (accSum ty apS) := by
  refine accSum_run (z := Zl) sound42 (own_of sound42 Try.func58 (by kernel_rfl)) fun args hb v h' cs hF hc => ?_
  unfold apS at hF
  split at hF
  · cases hF
    exact ⟨rfl, 2000, [], _, rapR _ _ _ _ _ _ _ _ _ _ _ _ hb ty, ae_nil⟩
  · cases hF
def bkS : List LV → Bool → Option (LV × Bool × List (Bool × Bool))
  | [.v (.agg [.int .i64 m0, .int .i64 m1, .int .i64 m2, .int .i64 m3, .int .i64 m4, .int .i64 m5, .int .i64 m6, .int .i64 m7, .int .i64 m8]), .v (.agg [.int .i64 v0, .int .i64 v1, .int .i64 v2])], hb => some (.v (.agg [.int .i64 (dotV 30 [m0, m3, m6] [v0, v1, v2]), .int .i64 (dotV 30 [m1, m4, m7] [v0, v1, v2]), .int .i64 (dotV 30 [m2, m5, m8] [v0, v1, v2])]), (hb || dotH 30 [m0, m3, m6] [v0, v1, v2] || dotH 30 [m1, m4, m7] [v0, v1, v2] || dotH 30 [m2, m5, m8] [v0, v1, v2]), [])
  | _, _ => none
theorem pbkR (m0 m1 m2 m3 m4 m5 m6 m7 m8 v0 v1 v2 : Int) (hb : Bool) : (runF Try.prog S42 Zl 2000 59 [A0, .v (.agg [.int .i64 m0, .int .i64 m1, .int .i64 m2, .int .i64 m3, .int .i64 m4, .int .i64 m5, .int .i64 m6, .int .i64 m7, .int .i64 m8]), .v (.agg [.int .i64 v0, .int .i64 v1, .int .i64 v2])] [(0, flag 27 hb)] 1 []).map acc3 = some (.v (.agg [.int .i64 (dotV 30 [m0, m3, m6] [v0, v1, v2]), .int .i64 (dotV 30 [m1, m4, m7] [v0, v1, v2]), .int .i64 (dotV 30 [m2, m5, m8] [v0, v1, v2])]), some (flag 27 (hb || dotH 30 [m0, m3, m6] [v0, v1, v2] || dotH 30 [m1, m4, m7] [v0, v1, v2] || dotH 30 [m2, m5, m8] [v0, v1, v2])), []) := by kernel_rfl
theorem sumpbk : SumOK Try.prog 59 (accSum 27 bkS) := by
  refine accSum_run (z := Zl) sound42 (own_of sound42 Try.func59 (by kernel_rfl)) fun args hb v h' cs hF hc => ?_
  unfold bkS at hF
  split at hF
  · cases hF
    exact ⟨rfl, 2000, [], _, pbkR _ _ _ _ _ _ _ _ _ _ _ _ hb, ae_nil⟩
  · cases hF
theorem rbkR (m0 m1 m2 m3 m4 m5 m6 m7 m8 v0 v1 v2 : Int) (hb : Bool) (ty : TypeId) : (runF Try.prog S42 Zl 2000 60 [A0, .v (.agg [.int .i64 m0, .int .i64 m1, .int .i64 m2, .int .i64 m3, .int .i64 m4, .int .i64 m5, .int .i64 m6, .int .i64 m7, .int .i64 m8]), .v (.agg [.int .i64 v0, .int .i64 v1, .int .i64 v2])] [(0, flag ty hb)] 1 []).map acc3 = some (.v (.agg [.int .i64 (dotV 30 [m0, m3, m6] [v0, v1, v2]), .int .i64 (dotV 30 [m1, m4, m7] [v0, v1, v2]), .int .i64 (dotV 30 [m2, m5, m8] [v0, v1, v2])]), some (flag ty (hb || dotH 30 [m0, m3, m6] [v0, v1, v2] || dotH 30 [m1, m4, m7] [v0, v1, v2] || dotH 30 [m2, m5, m8] [v0, v1, v2])), []) := by kernel_rfl
theorem sumrbk (ty : TypeId) : SumOK Try.prog 60 (accSum ty bkS) := by
  refine accSum_run (z := Zl) sound42 (own_of sound42 Try.func60 (by kernel_rfl)) fun args hb v h' cs hF hc => ?_
  unfold bkS at hF
  split at hF
  · cases hF
    exact ⟨rfl, 2000, [], _, rbkR _ _ _ _ _ _ _ _ _ _ _ _ hb ty, ae_nil⟩
  · cases hF

def eV0 (v0 v1 v2 : Int) : Int := bif exN v0 v1 v2 == 0 then 1073741824 else uV0 (cosV (exA v0 v1 v2)) (mulV (satV v0) (exS v0 v1 v2) 30) (mulV (satV v1) (exS v0 v1 v2) 30) (mulV (satV v2) (exS v0 v1 v2) 30)
def eV1 (v0 v1 v2 : Int) : Int := bif exN v0 v1 v2 == 0 then 0 else uV1 (cosV (exA v0 v1 v2)) (mulV (satV v0) (exS v0 v1 v2) 30) (mulV (satV v1) (exS v0 v1 v2) 30) (mulV (satV v2) (exS v0 v1 v2) 30)
def eV2 (v0 v1 v2 : Int) : Int := bif exN v0 v1 v2 == 0 then 0 else uV2 (cosV (exA v0 v1 v2)) (mulV (satV v0) (exS v0 v1 v2) 30) (mulV (satV v1) (exS v0 v1 v2) 30) (mulV (satV v2) (exS v0 v1 v2) 30)
def eV3 (v0 v1 v2 : Int) : Int := bif exN v0 v1 v2 == 0 then 0 else uV3 (cosV (exA v0 v1 v2)) (mulV (satV v0) (exS v0 v1 v2) 30) (mulV (satV v1) (exS v0 v1 v2) 30) (mulV (satV v2) (exS v0 v1 v2) 30)
def eFl (h : Bool) (v0 v1 v2 : Int) : Bool := bif exN v0 v1 v2 == 0 then exH0 h v0 v1 v2 else uFl (exH1 h v0 v1 v2) (cosV (exA v0 v1 v2)) (mulV (satV v0) (exS v0 v1 v2) 30) (mulV (satV v1) (exS v0 v1 v2) 30) (mulV (satV v2) (exS v0 v1 v2) 30)
def tV0 (v0 v1 v2 : Int) : Int := bif exN v0 v1 v2 == 0 then 1073741824 else bif decide (wr IntKind.i64 (1073741824 - tU v2 v0 v1 v2) ≤ 16) then 0 else uV0 (wr IntKind.i64 (1073741824 - tU v2 v0 v1 v2)) (wr IntKind.i64 (0 - tU v1 v0 v1 v2)) (tU v0 v0 v1 v2) 0
def tV1 (v0 v1 v2 : Int) : Int := bif exN v0 v1 v2 == 0 then 0 else bif decide (wr IntKind.i64 (1073741824 - tU v2 v0 v1 v2) ≤ 16) then 1073741824 else uV1 (wr IntKind.i64 (1073741824 - tU v2 v0 v1 v2)) (wr IntKind.i64 (0 - tU v1 v0 v1 v2)) (tU v0 v0 v1 v2) 0
def tV2 (v0 v1 v2 : Int) : Int := bif exN v0 v1 v2 == 0 then 0 else bif decide (wr IntKind.i64 (1073741824 - tU v2 v0 v1 v2) ≤ 16) then 0 else uV2 (wr IntKind.i64 (1073741824 - tU v2 v0 v1 v2)) (wr IntKind.i64 (0 - tU v1 v0 v1 v2)) (tU v0 v0 v1 v2) 0
def tV3 (v0 v1 v2 : Int) : Int := bif exN v0 v1 v2 == 0 then 0 else bif decide (wr IntKind.i64 (1073741824 - tU v2 v0 v1 v2) ≤ 16) then 0 else uV3 (wr IntKind.i64 (1073741824 - tU v2 v0 v1 v2)) (wr IntKind.i64 (0 - tU v1 v0 v1 v2)) (tU v0 v0 v1 v2) 0
def tFl (h : Bool) (v0 v1 v2 : Int) : Bool := bif exN v0 v1 v2 == 0 then exH0 h v0 v1 v2 else bif decide (wr IntKind.i64 (1073741824 - tU v2 v0 v1 v2) ≤ 16) then tlH h v0 v1 v2 else uFl (tlH h v0 v1 v2) (wr IntKind.i64 (1073741824 - tU v2 v0 v1 v2)) (wr IntKind.i64 (0 - tU v1 v0 v1 v2)) (tU v0 v0 v1 v2) 0
def expN : List LV → Bool → Option (LV × Bool × List (Bool × Bool))
  | [.v (.agg [.int .i64 v0, .int .i64 v1, .int .i64 v2])], hb => some (.v (.agg [.int .i64 (eV0 v0 v1 v2), .int .i64 (eV1 v0 v1 v2), .int .i64 (eV2 v0 v1 v2), .int .i64 (eV3 v0 v1 v2)]), eFl hb v0 v1 v2, [])
  | _, _ => none
theorem expN_eq (v0 v1 v2 : Int) (hb : Bool) : expS [.v (.agg [.int .i64 v0, .int .i64 v1, .int .i64 v2])] hb = expN [.v (.agg [.int .i64 v0, .int .i64 v1, .int .i64 v2])] hb := by
  unfold expS expN eV0 eV1 eV2 eV3 eFl
  rcases bool_cases (exN v0 v1 v2 == 0) with h | h
  · simp only [h, cond_true]
  · simp only [h, cond_false]; rfl
theorem sumPexpN : SumOK Try.prog 61 (accSum 27 expN) := by
  refine (sumPexp).acc_re fun args hb v h' cs hF _ => ?_
  have hF0 := hF
  unfold expN at hF
  split at hF
  · cases hF
    exact ⟨[], (expN_eq _ _ _ hb).trans hF0, ae_nil⟩
  · cases hF
theorem sumRexpN (ty : TypeId) : SumOK Try.prog 62 (accSum ty expN) := by
  refine (sumRexp ty).acc_re fun args hb v h' cs hF _ => ?_
  have hF0 := hF
  unfold expN at hF
  split at hF
  · cases hF
    exact ⟨[], (expN_eq _ _ _ hb).trans hF0, ae_nil⟩
  · cases hF
def tiltN : List LV → Bool → Option (LV × Bool × List (Bool × Bool))
  | [.v (.agg [.int .i64 v0, .int .i64 v1, .int .i64 v2])], hb => some (.v (.agg [.int .i64 (tV0 v0 v1 v2), .int .i64 (tV1 v0 v1 v2), .int .i64 (tV2 v0 v1 v2), .int .i64 (tV3 v0 v1 v2)]), tFl hb v0 v1 v2, [])
  | _, _ => none
theorem tiltN_eq (v0 v1 v2 : Int) (hb : Bool) : tiltS [.v (.agg [.int .i64 v0, .int .i64 v1, .int .i64 v2])] hb = tiltN [.v (.agg [.int .i64 v0, .int .i64 v1, .int .i64 v2])] hb := by
  unfold tiltS tiltN tV0 tV1 tV2 tV3 tFl
  rcases bool_cases (exN v0 v1 v2 == 0) with h | h
  · simp only [h, cond_true]
  · rcases bool_cases (decide (wr IntKind.i64 (1073741824 - tU v2 v0 v1 v2) ≤ 16)) with g | g
    · simp only [h, g, cond_true, cond_false]
    · simp only [h, g, cond_false]; rfl
theorem sumPtiltN : SumOK Try.prog 66 (accSum 27 tiltN) := by
  refine (sumPtilt).acc_re fun args hb v h' cs hF _ => ?_
  have hF0 := hF
  unfold tiltN at hF
  split at hF
  · cases hF
    exact ⟨[], (tiltN_eq _ _ _ hb).trans hF0, ae_nil⟩
  · cases hF
theorem sumRtiltN (ty : TypeId) : SumOK Try.prog 67 (accSum ty tiltN) := by
  refine (sumRtilt ty).acc_re fun args hb v h' cs hF _ => ?_
  have hF0 := hF
  unfold tiltN at hF
  split at hF
  · cases hF
    exact ⟨[], (tiltN_eq _ _ _ hb).trans hF0, ae_nil⟩
  · cases hF

noncomputable def S43 : FuncId → Option SumK := more (more (more (more (more (more (more (more (more (more (more (more S42 65 (accSum 27 fyS)) 39 (accAny fyS)) 63 (accSum 27 yawS)) 64 (accAny yawS)) 61 (accSum 27 expN)) 62 (accAny expN)) 66 (accSum 27 tiltN)) 67 (accAny tiltN)) 57 (accSum 27 apS)) 58 (accAny apS)) 59 (accSum 27 bkS)) 60 (accAny bkS)
theorem sound43 : Sound Try.prog S43 := (((((((((((sound42.more sumPfy).more (accAny_ok sumRfy)).more sumPyaw).more (accAny_ok sumRyaw)).more sumPexpN).more (accAny_ok sumRexpN)).more sumPtiltN).more (accAny_ok sumRtiltN)).more sumpap).more (accAny_ok sumrap)).more sumpbk).more (accAny_ok sumrbk)
end Go.Proofs.Ythfanchjkkeejaa

/- The awake of chapter 7's law folder: its run; all summaries for its laws. -/
namespace Go.Proofs.Ythfanchjkkeejaa
open Go.Lr
set_option linter.unusedVariables false
set_option linter.unusedSimpArgs false

theorem runAwakeR : (runF Try.prog S24 Zc 4000 53 [] [] 0 []).map (fun r => (r.1, r.2.2.2)) = some (B true, []) := by kernel_rfl
theorem sumAwakeR : SumOK Try.prog 53 (pureSum trueF) := pureSum_const sound24 (own_of sound24 Try.func53 (by kernel_rfl)) runAwakeR
noncomputable def S44 : FuncId → Option SumK := more S43 53 (pureSum trueF)
theorem sound44 : Sound Try.prog S44 := sound43.more sumAwakeR
end Go.Proofs.Ythfanchjkkeejaa
