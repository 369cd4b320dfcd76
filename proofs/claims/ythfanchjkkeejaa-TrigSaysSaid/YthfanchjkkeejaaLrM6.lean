/- Joined texts. What each part proves stands ahead of it; no condition. -/
import Derived.Test.YthfanchjkkeejaaLrM5

/- Sines, and the second answer's sines and angles: their runs, against what they compute. -/
namespace Go.Proofs.Ythfanchjkkeejaa
open Go.Lr
set_option linter.unusedVariables false
set_option linter.unusedSimpArgs false

def sL1 : List Int := [2959, -213044, 8947849, -178956971, 1073741824]
def sL2 : List Int := [-296, 26631, -1491308, 44739243, -536870912, 1073741824]
def mmV (s : Int) : Int := if (1073741824 : Int) < (if (-1073741824 : Int) > s then -1073741824 else s) then 1073741824 else (if (-1073741824 : Int) > s then -1073741824 else s)
/-- The angle, folded to the right. -/
def sinW (b1 b2 : Bool) (a : Int) : Int := bif b1 then wr IntKind.i64 (3373259426 - wrapV (satV a)) else bif b2 then wr IntKind.i64 (-3373259426 - wrapV (satV a)) else wrapV (satV a)
def sinX (w : Int) : Int := wr IntKind.i64 (1686629713 - fabsV w)
def sinS0 (w : Int) : Int := mulV w (serV (mulV w w 30) (-27) sL1) 30
def sinSH (w : Int) (h : Bool) : Bool := serHb (mulV w w 30) (h || mulH w w 30) (-27) sL1 || mulH w (serV (mulV w w 30) (-27) sL1) 30
def sinG0 (ng : Bool) (x : Int) : Int := bif ng then wr IntKind.i64 (0 - serV (mulV x x 30) 2 sL2) else serV (mulV x x 30) 2 sL2
def sinGH (x : Int) (h : Bool) : Bool := serHb (mulV x x 30) (h || mulH x x 30) 2 sL2
/-- Without its sign, as the second answer reckons it. -/
def sinU (ng : Bool) (w : Int) : Int := bif ng then wr IntKind.i64 (0 - w) else w
def clO (s : Int) : Int := clampV s (-1073741824) 1073741824
theorem sntfs (a : Int) (hb : Bool) : (runF Try.prog S36 Zl 2000 42 [A0, I a] [(0, flag 27 hb)] 1 [some true, some true, none, none, none, none, none, none, none]).map acc3 = some (I (mmV (sinS0 (sinW true false a))), some (flag 27 (sinSH (sinW true false a) (hb || satH a))), [(decide (fabsV (sinW true false a) ≤ 843314857), true), (decide (wrapV (satV a) > 1686629713), true)]) := by kernel_rfl
theorem sntfgt (a : Int) (hb : Bool) : (runF Try.prog S36 Zl 2000 42 [A0, I a] [(0, flag 27 hb)] 1 [some true, some false, none, none, none, none, none, none, none, some true]).map acc3 = some (I (mmV (sinG0 true (sinX (sinW true false a)))), some (flag 27 (sinGH (sinX (sinW true false a)) (hb || satH a))), [(decide ((sinW true false a) < 0), true), (decide (fabsV (sinW true false a) ≤ 843314857), false), (decide (wrapV (satV a) > 1686629713), true)]) := by kernel_rfl
theorem sntfgf (a : Int) (hb : Bool) : (runF Try.prog S36 Zl 2000 42 [A0, I a] [(0, flag 27 hb)] 1 [some true, some false, none, none, none, none, none, none, none, some false]).map acc3 = some (I (mmV (sinG0 false (sinX (sinW true false a)))), some (flag 27 (sinGH (sinX (sinW true false a)) (hb || satH a))), [(decide ((sinW true false a) < 0), false), (decide (fabsV (sinW true false a) ≤ 843314857), false), (decide (wrapV (satV a) > 1686629713), true)]) := by kernel_rfl
theorem rstftg (a : Int) (hb : Bool) (ty : TypeId) : (runF Try.prog S36 Zl 2000 43 [A0, I a] [(0, flag ty hb)] 1 [some true, some true, some true, none, none, none, none, none, none, none, some true]).map acc3 = some (I (clO (sinG0 true (wr IntKind.i64 (1686629713 - (sinU true (sinW true false a)))))), some (flag ty (sinGH (wr IntKind.i64 (1686629713 - (sinU true (sinW true false a)))) (hb || satH a))), [(decide ((sinW true false a) < 0), true), (decide ((sinU true (sinW true false a)) > 843314857), true), (decide ((sinW true false a) < 0), true), (decide (wrapV (satV a) > 1686629713), true)]) := by kernel_rfl
theorem rstfts (a : Int) (hb : Bool) (ty : TypeId) : (runF Try.prog S36 Zl 2000 43 [A0, I a] [(0, flag ty hb)] 1 [some true, some true, some false, none, none, none, none, none, none, none]).map acc3 = some (I (clO (sinS0 (sinW true false a))), some (flag ty (sinSH (sinW true false a) (hb || satH a))), [(decide ((sinU true (sinW true false a)) > 843314857), false), (decide ((sinW true false a) < 0), true), (decide (wrapV (satV a) > 1686629713), true)]) := by kernel_rfl
theorem rstffg (a : Int) (hb : Bool) (ty : TypeId) : (runF Try.prog S36 Zl 2000 43 [A0, I a] [(0, flag ty hb)] 1 [some true, some false, some true, none, none, none, none, none, none, none, some false]).map acc3 = some (I (clO (sinG0 false (wr IntKind.i64 (1686629713 - (sinU false (sinW true false a)))))), some (flag ty (sinGH (wr IntKind.i64 (1686629713 - (sinU false (sinW true false a)))) (hb || satH a))), [(decide ((sinW true false a) < 0), false), (decide ((sinU false (sinW true false a)) > 843314857), true), (decide ((sinW true false a) < 0), false), (decide (wrapV (satV a) > 1686629713), true)]) := by kernel_rfl
theorem rstffs (a : Int) (hb : Bool) (ty : TypeId) : (runF Try.prog S36 Zl 2000 43 [A0, I a] [(0, flag ty hb)] 1 [some true, some false, some false, none, none, none, none, none, none, none]).map acc3 = some (I (clO (sinS0 (sinW true false a))), some (flag ty (sinSH (sinW true false a) (hb || satH a))), [(decide ((sinU false (sinW true false a)) > 843314857), false), (decide ((sinW true false a) < 0), false), (decide (wrapV (satV a) > 1686629713), true)]) := by kernel_rfl
theorem snfts (a : Int) (hb : Bool) : (runF Try.prog S36 Zl 2000 42 [A0, I a] [(0, flag 27 hb)] 1 [some false, some true, some true, none, none, none, none, none, none, none]).map acc3 = some (I (mmV (sinS0 (sinW false true a))), some (flag 27 (sinSH (sinW false true a) (hb || satH a))), [(decide (fabsV (sinW false true a) ≤ 843314857), true), (decide (wrapV (satV a) < -1686629713), true), (decide (wrapV (satV a) > 1686629713), false)]) := by kernel_rfl
theorem snftgt (a : Int) (hb : Bool) : (runF Try.prog S36 Zl 2000 42 [A0, I a] [(0, flag 27 hb)] 1 [some false, some true, some false, none, none, none, none, none, none, none, some true]).map acc3 = some (I (mmV (sinG0 true (sinX (sinW false true a)))), some (flag 27 (sinGH (sinX (sinW false true a)) (hb || satH a))), [(decide ((sinW false true a) < 0), true), (decide (fabsV (sinW false true a) ≤ 843314857), false), (decide (wrapV (satV a) < -1686629713), true), (decide (wrapV (satV a) > 1686629713), false)]) := by kernel_rfl
theorem snftgf (a : Int) (hb : Bool) : (runF Try.prog S36 Zl 2000 42 [A0, I a] [(0, flag 27 hb)] 1 [some false, some true, some false, none, none, none, none, none, none, none, some false]).map acc3 = some (I (mmV (sinG0 false (sinX (sinW false true a)))), some (flag 27 (sinGH (sinX (sinW false true a)) (hb || satH a))), [(decide ((sinW false true a) < 0), false), (decide (fabsV (sinW false true a) ≤ 843314857), false), (decide (wrapV (satV a) < -1686629713), true), (decide (wrapV (satV a) > 1686629713), false)]) := by kernel_rfl
theorem rsfttg (a : Int) (hb : Bool) (ty : TypeId) : (runF Try.prog S36 Zl 2000 43 [A0, I a] [(0, flag ty hb)] 1 [some false, some true, some true, some true, none, none, none, none, none, none, none, some true]).map acc3 = some (I (clO (sinG0 true (wr IntKind.i64 (1686629713 - (sinU true (sinW false true a)))))), some (flag ty (sinGH (wr IntKind.i64 (1686629713 - (sinU true (sinW false true a)))) (hb || satH a))), [(decide ((sinW false true a) < 0), true), (decide ((sinU true (sinW false true a)) > 843314857), true), (decide ((sinW false true a) < 0), true), (decide (wrapV (satV a) < -1686629713), true), (decide (wrapV (satV a) > 1686629713), false)]) := by kernel_rfl
theorem rsftts (a : Int) (hb : Bool) (ty : TypeId) : (runF Try.prog S36 Zl 2000 43 [A0, I a] [(0, flag ty hb)] 1 [some false, some true, some true, some false, none, none, none, none, none, none, none]).map acc3 = some (I (clO (sinS0 (sinW false true a))), some (flag ty (sinSH (sinW false true a) (hb || satH a))), [(decide ((sinU true (sinW false true a)) > 843314857), false), (decide ((sinW false true a) < 0), true), (decide (wrapV (satV a) < -1686629713), true), (decide (wrapV (satV a) > 1686629713), false)]) := by kernel_rfl
theorem rsftfg (a : Int) (hb : Bool) (ty : TypeId) : (runF Try.prog S36 Zl 2000 43 [A0, I a] [(0, flag ty hb)] 1 [some false, some true, some false, some true, none, none, none, none, none, none, none, some false]).map acc3 = some (I (clO (sinG0 false (wr IntKind.i64 (1686629713 - (sinU false (sinW false true a)))))), some (flag ty (sinGH (wr IntKind.i64 (1686629713 - (sinU false (sinW false true a)))) (hb || satH a))), [(decide ((sinW false true a) < 0), false), (decide ((sinU false (sinW false true a)) > 843314857), true), (decide ((sinW false true a) < 0), false), (decide (wrapV (satV a) < -1686629713), true), (decide (wrapV (satV a) > 1686629713), false)]) := by kernel_rfl
theorem rsftfs (a : Int) (hb : Bool) (ty : TypeId) : (runF Try.prog S36 Zl 2000 43 [A0, I a] [(0, flag ty hb)] 1 [some false, some true, some false, some false, none, none, none, none, none, none, none]).map acc3 = some (I (clO (sinS0 (sinW false true a))), some (flag ty (sinSH (sinW false true a) (hb || satH a))), [(decide ((sinU false (sinW false true a)) > 843314857), false), (decide ((sinW false true a) < 0), false), (decide (wrapV (satV a) < -1686629713), true), (decide (wrapV (satV a) > 1686629713), false)]) := by kernel_rfl
theorem snffs (a : Int) (hb : Bool) : (runF Try.prog S36 Zl 2000 42 [A0, I a] [(0, flag 27 hb)] 1 [some false, some false, some true, none, none, none, none, none, none, none]).map acc3 = some (I (mmV (sinS0 (sinW false false a))), some (flag 27 (sinSH (sinW false false a) (hb || satH a))), [(decide (fabsV (sinW false false a) ≤ 843314857), true), (decide (wrapV (satV a) < -1686629713), false), (decide (wrapV (satV a) > 1686629713), false)]) := by kernel_rfl
theorem snffgt (a : Int) (hb : Bool) : (runF Try.prog S36 Zl 2000 42 [A0, I a] [(0, flag 27 hb)] 1 [some false, some false, some false, none, none, none, none, none, none, none, some true]).map acc3 = some (I (mmV (sinG0 true (sinX (sinW false false a)))), some (flag 27 (sinGH (sinX (sinW false false a)) (hb || satH a))), [(decide ((sinW false false a) < 0), true), (decide (fabsV (sinW false false a) ≤ 843314857), false), (decide (wrapV (satV a) < -1686629713), false), (decide (wrapV (satV a) > 1686629713), false)]) := by kernel_rfl
theorem snffgf (a : Int) (hb : Bool) : (runF Try.prog S36 Zl 2000 42 [A0, I a] [(0, flag 27 hb)] 1 [some false, some false, some false, none, none, none, none, none, none, none, some false]).map acc3 = some (I (mmV (sinG0 false (sinX (sinW false false a)))), some (flag 27 (sinGH (sinX (sinW false false a)) (hb || satH a))), [(decide ((sinW false false a) < 0), false), (decide (fabsV (sinW false false a) ≤ 843314857), false), (decide (wrapV (satV a) < -1686629713), false), (decide (wrapV (satV a) > 1686629713), false)]) := by kernel_rfl
theorem rsfftg (a : Int) (hb : Bool) (ty : TypeId) : (runF Try.prog S36 Zl 2000 43 [A0, I a] [(0, flag ty hb)] 1 [some false, some false, some true, some true, none, none, none, none, none, none, none, some true]).map acc3 = some (I (clO (sinG0 true (wr IntKind.i64 (1686629713 - (sinU true (sinW false false a)))))), some (flag ty (sinGH (wr IntKind.i64 (1686629713 - (sinU true (sinW false false a)))) (hb || satH a))), [(decide ((sinW false false a) < 0), true), (decide ((sinU true (sinW false false a)) > 843314857), true), (decide ((sinW false false a) < 0), true), (decide (wrapV (satV a) < -1686629713), false), (decide (wrapV (satV a) > 1686629713), false)]) := by kernel_rfl
theorem rsffts (a : Int) (hb : Bool) (ty : TypeId) : (runF Try.prog S36 Zl 2000 43 [A0, I a] [(0, flag ty hb)] 1 [some false, some false, some true, some false, none, none, none, none, none, none, none]).map acc3 = some (I (clO (sinS0 (sinW false false a))), some (flag ty (sinSH (sinW false false a) (hb || satH a))), [(decide ((sinU true (sinW false false a)) > 843314857), false), (decide ((sinW false false a) < 0), true), (decide (wrapV (satV a) < -1686629713), false), (decide (wrapV (satV a) > 1686629713), false)]) := by kernel_rfl
theorem rsfffg (a : Int) (hb : Bool) (ty : TypeId) : (runF Try.prog S36 Zl 2000 43 [A0, I a] [(0, flag ty hb)] 1 [some false, some false, some false, some true, none, none, none, none, none, none, none, some false]).map acc3 = some (I (clO (sinG0 false (wr IntKind.i64 (1686629713 - (sinU false (sinW false false a)))))), some (flag ty (sinGH (wr IntKind.i64 (1686629713 - (sinU false (sinW false false a)))) (hb || satH a))), [(decide ((sinW false false a) < 0), false), (decide ((sinU false (sinW false false a)) > 843314857), true), (decide ((sinW false false a) < 0), false), (decide (wrapV (satV a) < -1686629713), false), (decide (wrapV (satV a) > 1686629713), false)]) := by kernel_rfl
theorem rsfffs (a : Int) (hb : Bool) (ty : TypeId) : (runF Try.prog S36 Zl 2000 43 [A0, I a] [(0, flag ty hb)] 1 [some false, some false, some false, some false, none, none, none, none, none, none, none]).map acc3 = some (I (clO (sinS0 (sinW false false a))), some (flag ty (sinSH (sinW false false a) (hb || satH a))), [(decide ((sinU false (sinW false false a)) > 843314857), false), (decide ((sinW false false a) < 0), false), (decide (wrapV (satV a) < -1686629713), false), (decide (wrapV (satV a) > 1686629713), false)]) := by kernel_rfl

/-- The sine. -/
def sinF (w : Int) : Int := bif decide (fabsV w ≤ 843314857) then mmV (sinS0 w) else mmV (sinG0 (decide (w < 0)) (sinX w))
def sinFH (w : Int) (h : Bool) : Bool := bif decide (fabsV w ≤ 843314857) then sinSH w h else sinGH (sinX w) h
def sinV (a : Int) : Int := sinF (sinW (decide (wrapV (satV a) > 1686629713)) (decide (wrapV (satV a) < -1686629713)) a)
def sinH (a : Int) (h : Bool) : Bool := sinFH (sinW (decide (wrapV (satV a) > 1686629713)) (decide (wrapV (satV a) < -1686629713)) a) (h || satH a)
def sinS : List LV → Bool → Option (LV × Bool × List (Bool × Bool))
  | [.v (.one (.int .i64 a))], hb => some (I (sinV a), sinH a hb, [])
  | _, _ => none
theorem sumSin : SumOK Try.prog 42 (accSum 27 sinS) := by
  refine accSum_run (z := Zl) sound36 (own_of sound36 Try.func42 (by kernel_rfl)) fun args hb v h' cs hF hc => ?_
  unfold sinS at hF
  split at hF
  · rename_i a
    cases hF
    refine ⟨rfl, ?_⟩
    unfold sinV sinH
    have eT : ∀ b : Bool, sinW true b a = sinW true false a := fun b => rfl
    rcases bool_cases (decide (wrapV (satV a) > 1686629713)) with h1 | h1
    · rw [h1, eT]
      rcases bool_cases (decide (fabsV (sinW true false a) ≤ 843314857)) with h3 | h3
      · unfold sinF sinFH; rw [cond_t h3, cond_t h3]; exact ⟨2000, _, _, sntfs a hb, ae_cons h3 (ae_cons h1 ae_nil)⟩
      · unfold sinF sinFH; rw [cond_f h3, cond_f h3]
        rcases bool_cases (decide ((sinW true false a) < 0)) with h4 | h4
        · rw [h4]; exact ⟨2000, _, _, sntfgt a hb, ae_cons h4 (ae_cons h3 (ae_cons h1 ae_nil))⟩
        · rw [h4]; exact ⟨2000, _, _, sntfgf a hb, ae_cons h4 (ae_cons h3 (ae_cons h1 ae_nil))⟩
    · rw [h1]
      rcases bool_cases (decide (wrapV (satV a) < -1686629713)) with h2 | h2
      · rw [h2]
        rcases bool_cases (decide (fabsV (sinW false true a) ≤ 843314857)) with h3 | h3
        · unfold sinF sinFH; rw [cond_t h3, cond_t h3]; exact ⟨2000, _, _, snfts a hb, ae_cons h3 (ae_cons h2 (ae_cons h1 ae_nil))⟩
        · unfold sinF sinFH; rw [cond_f h3, cond_f h3]
          rcases bool_cases (decide ((sinW false true a) < 0)) with h4 | h4
          · rw [h4]; exact ⟨2000, _, _, snftgt a hb, ae_cons h4 (ae_cons h3 (ae_cons h2 (ae_cons h1 ae_nil)))⟩
          · rw [h4]; exact ⟨2000, _, _, snftgf a hb, ae_cons h4 (ae_cons h3 (ae_cons h2 (ae_cons h1 ae_nil)))⟩
      · rw [h2]
        rcases bool_cases (decide (fabsV (sinW false false a) ≤ 843314857)) with h3 | h3
        · unfold sinF sinFH; rw [cond_t h3, cond_t h3]; exact ⟨2000, _, _, snffs a hb, ae_cons h3 (ae_cons h2 (ae_cons h1 ae_nil))⟩
        · unfold sinF sinFH; rw [cond_f h3, cond_f h3]
          rcases bool_cases (decide ((sinW false false a) < 0)) with h4 | h4
          · rw [h4]; exact ⟨2000, _, _, snffgt a hb, ae_cons h4 (ae_cons h3 (ae_cons h2 (ae_cons h1 ae_nil)))⟩
          · rw [h4]; exact ⟨2000, _, _, snffgf a hb, ae_cons h4 (ae_cons h3 (ae_cons h2 (ae_cons h1 ae_nil)))⟩
  · cases hF

def rsinF (w : Int) : Int := bif decide (sinU (decide (w < 0)) w > 843314857) then clO (sinG0 (decide (w < 0)) (wr IntKind.i64 (1686629713 - sinU (decide (w < 0)) w))) else clO (sinS0 w)
def rsinFH (w : Int) (h : Bool) : Bool := bif decide (sinU (decide (w < 0)) w > 843314857) then sinGH (wr IntKind.i64 (1686629713 - sinU (decide (w < 0)) w)) h else sinSH w h
def rsinS : List LV → Bool → Option (LV × Bool × List (Bool × Bool))
  | [.v (.one (.int .i64 a))], hb => some (I (rsinF (sinW (decide (wrapV (satV a) > 1686629713)) (decide (wrapV (satV a) < -1686629713)) a)), rsinFH (sinW (decide (wrapV (satV a) > 1686629713)) (decide (wrapV (satV a) < -1686629713)) a) (hb || satH a), [])
  | _, _ => none
theorem sumRsin0 (ty : TypeId) : SumOK Try.prog 43 (accSum ty rsinS) := by
  refine accSum_run (z := Zl) sound36 (own_of sound36 Try.func43 (by kernel_rfl)) fun args hb v h' cs hF hc => ?_
  unfold rsinS at hF
  split at hF
  · rename_i a
    cases hF
    refine ⟨rfl, ?_⟩
    have eT : ∀ b : Bool, sinW true b a = sinW true false a := fun b => rfl
    unfold rsinF rsinFH
    rcases bool_cases (decide (wrapV (satV a) > 1686629713)) with h1 | h1
    · rw [h1, eT]
      rcases bool_cases (decide ((sinW true false a) < 0)) with h3 | h3
      · rw [h3]
        rcases bool_cases (decide (sinU true (sinW true false a) > 843314857)) with h4 | h4
        · rw [cond_t h4, cond_t h4]; exact ⟨2000, _, _, rstftg a hb ty, ae_cons h3 (ae_cons h4 (ae_cons h3 (ae_cons h1 ae_nil)))⟩
        · rw [cond_f h4, cond_f h4]; exact ⟨2000, _, _, rstfts a hb ty, ae_cons h4 (ae_cons h3 (ae_cons h1 ae_nil))⟩
      · rw [h3]
        rcases bool_cases (decide (sinU false (sinW true false a) > 843314857)) with h4 | h4
        · rw [cond_t h4, cond_t h4]; exact ⟨2000, _, _, rstffg a hb ty, ae_cons h3 (ae_cons h4 (ae_cons h3 (ae_cons h1 ae_nil)))⟩
        · rw [cond_f h4, cond_f h4]; exact ⟨2000, _, _, rstffs a hb ty, ae_cons h4 (ae_cons h3 (ae_cons h1 ae_nil))⟩
    · rw [h1]
      rcases bool_cases (decide (wrapV (satV a) < -1686629713)) with h2 | h2
      · rw [h2]
        rcases bool_cases (decide ((sinW false true a) < 0)) with h3 | h3
        · rw [h3]
          rcases bool_cases (decide (sinU true (sinW false true a) > 843314857)) with h4 | h4
          · rw [cond_t h4, cond_t h4]; exact ⟨2000, _, _, rsfttg a hb ty, ae_cons h3 (ae_cons h4 (ae_cons h3 (ae_cons h2 (ae_cons h1 ae_nil))))⟩
          · rw [cond_f h4, cond_f h4]; exact ⟨2000, _, _, rsftts a hb ty, ae_cons h4 (ae_cons h3 (ae_cons h2 (ae_cons h1 ae_nil)))⟩
        · rw [h3]
          rcases bool_cases (decide (sinU false (sinW false true a) > 843314857)) with h4 | h4
          · rw [cond_t h4, cond_t h4]; exact ⟨2000, _, _, rsftfg a hb ty, ae_cons h3 (ae_cons h4 (ae_cons h3 (ae_cons h2 (ae_cons h1 ae_nil))))⟩
          · rw [cond_f h4, cond_f h4]; exact ⟨2000, _, _, rsftfs a hb ty, ae_cons h4 (ae_cons h3 (ae_cons h2 (ae_cons h1 ae_nil)))⟩
      · rw [h2]
        rcases bool_cases (decide ((sinW false false a) < 0)) with h3 | h3
        · rw [h3]
          rcases bool_cases (decide (sinU true (sinW false false a) > 843314857)) with h4 | h4
          · rw [cond_t h4, cond_t h4]; exact ⟨2000, _, _, rsfftg a hb ty, ae_cons h3 (ae_cons h4 (ae_cons h3 (ae_cons h2 (ae_cons h1 ae_nil))))⟩
          · rw [cond_f h4, cond_f h4]; exact ⟨2000, _, _, rsffts a hb ty, ae_cons h4 (ae_cons h3 (ae_cons h2 (ae_cons h1 ae_nil)))⟩
        · rw [h3]
          rcases bool_cases (decide (sinU false (sinW false false a) > 843314857)) with h4 | h4
          · rw [cond_t h4, cond_t h4]; exact ⟨2000, _, _, rsfffg a hb ty, ae_cons h3 (ae_cons h4 (ae_cons h3 (ae_cons h2 (ae_cons h1 ae_nil))))⟩
          · rw [cond_f h4, cond_f h4]; exact ⟨2000, _, _, rsfffs a hb ty, ae_cons h4 (ae_cons h3 (ae_cons h2 (ae_cons h1 ae_nil)))⟩
  · cases hF
theorem clO_mm (s : Int) : clO s = mmV s := by
  unfold clO clampV mmV; (repeat' split) <;> omega
theorem sinU_eq {w : Int} (h0 : -6746518852 ≤ w) (h1 : w ≤ 6746518852) : sinU (decide (w < 0)) w = fabsV w := by
  unfold sinU
  by_cases h : w < 0
  · rw [decide_eq_true h, cond_true, wr_i, w64_in (by omega) (by omega)]
    unfold fabsV; (repeat' split) <;> omega
  · rw [decide_eq_false h, cond_false]
    unfold fabsV; (repeat' split) <;> omega
theorem sinW_bd (b1 b2 : Bool) (a : Int) : -6746518852 ≤ sinW b1 b2 a ∧ sinW b1 b2 a ≤ 6746518852 := by
  obtain ⟨h0, h1, -⟩ := wrap_spec (satV a)
  unfold sinW
  generalize wrapV (satV a) = t at *
  have e1 : wr IntKind.i64 (3373259426 - t) = 3373259426 - t := w64_in (by omega) (by omega)
  have e2 : wr IntKind.i64 (-3373259426 - t) = -3373259426 - t := w64_in (by omega) (by omega)
  rw [e1, e2]
  cases b1 <;> cases b2 <;> simp only [cond_true, cond_false] <;> omega
theorem rsin_eq {w : Int} (h0 : -6746518852 ≤ w) (h1 : w ≤ 6746518852) (h : Bool) : rsinF w = sinF w ∧ rsinFH w h = sinFH w h := by
  unfold rsinF rsinFH sinF sinFH sinX
  rw [sinU_eq h0 h1, clO_mm, clO_mm]
  by_cases hb : fabsV w ≤ 843314857
  · rw [decide_eq_true hb, decide_eq_false (show ¬ fabsV w > 843314857 by omega)]; exact ⟨rfl, rfl⟩
  · rw [decide_eq_false hb, decide_eq_true (show fabsV w > 843314857 by omega)]; exact ⟨rfl, rfl⟩
theorem sumRsin (ty : TypeId) : SumOK Try.prog 43 (accSum ty sinS) := by
  refine (sumRsin0 ty).acc_re fun args hb v h' cs hF hc => ?_
  unfold sinS at hF
  split at hF
  · rename_i a
    cases hF
    obtain ⟨b0, b1⟩ := sinW_bd (decide (wrapV (satV a) > 1686629713)) (decide (wrapV (satV a) < -1686629713)) a
    obtain ⟨e1, e2⟩ := rsin_eq b0 b1 (hb || satH a)
    refine ⟨[], ?_, ae_nil⟩
    show some (I (rsinF _), rsinFH _ (hb || satH a), []) = _
    rw [e1, e2]; rfl
  · cases hF

def atanHG (big : Bool) (v u : Int) (h : Bool) : Bool :=
  serHb (mulV (ttV big (divPV v u 30)) (ttV big (divPV v u 30)) 30) ((bif big then h || divPH v u 30 || divPH (wr IntKind.i64 (divPV v u 30 - 1073741824)) (wr IntKind.i64 (divPV v u 30 + 1073741824)) 30 else h || divPH v u 30) || mulH (ttV big (divPV v u 30)) (ttV big (divPV v u 30)) 30) (-46684427) atL || mulH (ttV big (divPV v u 30)) (serV (mulV (ttV big (divPV v u 30)) (ttV big (divPV v u 30)) 30) (-46684427) atL) 30
theorem razt (y x : Int) (hb : Bool) (ty : TypeId) : (runF Try.prog S36 Zl 2000 47 [A0, I y, I x] [(0, flag ty hb)] 1 [some true, some true]).map acc3 = some (I 0, some (flag ty (hb || satH y || satH x)), [((fabsV (satV y)) == 0, true), (decide ((fabsV (satV y)) > (fabsV (satV x))), true)]) := by kernel_rfl
theorem ratttt (y x : Int) (hb : Bool) (ty : TypeId) : (runF Try.prog S36 Zl 2000 47 [A0, I y, I x] [(0, flag ty hb)] 1 [some true, some false, some true, none, none, none, none, none, none, none, none, none, none, none, none, some true, some true, some true]).map acc3 = some (I (atanB true true true true (divPV (fabsV (satV x)) (fabsV (satV y)) 30)), some (flag ty (atanHG true (fabsV (satV x)) (fabsV (satV y)) (hb || satH y || satH x))), [(decide (satV y < 0), true), (decide (satV x < 0), true), (decide ((fabsV (satV y)) > (fabsV (satV x))), true), (decide (divPV (fabsV (satV x)) (fabsV (satV y)) 30 > 444758426), true), ((fabsV (satV y)) == 0, false), (decide ((fabsV (satV y)) > (fabsV (satV x))), true)]) := by kernel_rfl
theorem ratttf (y x : Int) (hb : Bool) (ty : TypeId) : (runF Try.prog S36 Zl 2000 47 [A0, I y, I x] [(0, flag ty hb)] 1 [some true, some false, some true, none, none, none, none, none, none, none, none, none, none, none, none, some true, some true, some false]).map acc3 = some (I (atanB true true true false (divPV (fabsV (satV x)) (fabsV (satV y)) 30)), some (flag ty (atanHG true (fabsV (satV x)) (fabsV (satV y)) (hb || satH y || satH x))), [(decide (satV y < 0), false), (decide (satV x < 0), true), (decide ((fabsV (satV y)) > (fabsV (satV x))), true), (decide (divPV (fabsV (satV x)) (fabsV (satV y)) 30 > 444758426), true), ((fabsV (satV y)) == 0, false), (decide ((fabsV (satV y)) > (fabsV (satV x))), true)]) := by kernel_rfl
theorem rattft (y x : Int) (hb : Bool) (ty : TypeId) : (runF Try.prog S36 Zl 2000 47 [A0, I y, I x] [(0, flag ty hb)] 1 [some true, some false, some true, none, none, none, none, none, none, none, none, none, none, none, none, some true, some false, some true]).map acc3 = some (I (atanB true true false true (divPV (fabsV (satV x)) (fabsV (satV y)) 30)), some (flag ty (atanHG true (fabsV (satV x)) (fabsV (satV y)) (hb || satH y || satH x))), [(decide (satV y < 0), true), (decide (satV x < 0), false), (decide ((fabsV (satV y)) > (fabsV (satV x))), true), (decide (divPV (fabsV (satV x)) (fabsV (satV y)) 30 > 444758426), true), ((fabsV (satV y)) == 0, false), (decide ((fabsV (satV y)) > (fabsV (satV x))), true)]) := by kernel_rfl
theorem rattff (y x : Int) (hb : Bool) (ty : TypeId) : (runF Try.prog S36 Zl 2000 47 [A0, I y, I x] [(0, flag ty hb)] 1 [some true, some false, some true, none, none, none, none, none, none, none, none, none, none, none, none, some true, some false, some false]).map acc3 = some (I (atanB true true false false (divPV (fabsV (satV x)) (fabsV (satV y)) 30)), some (flag ty (atanHG true (fabsV (satV x)) (fabsV (satV y)) (hb || satH y || satH x))), [(decide (satV y < 0), false), (decide (satV x < 0), false), (decide ((fabsV (satV y)) > (fabsV (satV x))), true), (decide (divPV (fabsV (satV x)) (fabsV (satV y)) 30 > 444758426), true), ((fabsV (satV y)) == 0, false), (decide ((fabsV (satV y)) > (fabsV (satV x))), true)]) := by kernel_rfl
theorem ratftt (y x : Int) (hb : Bool) (ty : TypeId) : (runF Try.prog S36 Zl 2000 47 [A0, I y, I x] [(0, flag ty hb)] 1 [some true, some false, some false, none, none, none, none, none, none, none, none, none, none, none, none, some true, some true, some true]).map acc3 = some (I (atanB false true true true (divPV (fabsV (satV x)) (fabsV (satV y)) 30)), some (flag ty (atanHG false (fabsV (satV x)) (fabsV (satV y)) (hb || satH y || satH x))), [(decide (satV y < 0), true), (decide (satV x < 0), true), (decide ((fabsV (satV y)) > (fabsV (satV x))), true), (decide (divPV (fabsV (satV x)) (fabsV (satV y)) 30 > 444758426), false), ((fabsV (satV y)) == 0, false), (decide ((fabsV (satV y)) > (fabsV (satV x))), true)]) := by kernel_rfl
theorem ratftf (y x : Int) (hb : Bool) (ty : TypeId) : (runF Try.prog S36 Zl 2000 47 [A0, I y, I x] [(0, flag ty hb)] 1 [some true, some false, some false, none, none, none, none, none, none, none, none, none, none, none, none, some true, some true, some false]).map acc3 = some (I (atanB false true true false (divPV (fabsV (satV x)) (fabsV (satV y)) 30)), some (flag ty (atanHG false (fabsV (satV x)) (fabsV (satV y)) (hb || satH y || satH x))), [(decide (satV y < 0), false), (decide (satV x < 0), true), (decide ((fabsV (satV y)) > (fabsV (satV x))), true), (decide (divPV (fabsV (satV x)) (fabsV (satV y)) 30 > 444758426), false), ((fabsV (satV y)) == 0, false), (decide ((fabsV (satV y)) > (fabsV (satV x))), true)]) := by kernel_rfl
theorem ratfft (y x : Int) (hb : Bool) (ty : TypeId) : (runF Try.prog S36 Zl 2000 47 [A0, I y, I x] [(0, flag ty hb)] 1 [some true, some false, some false, none, none, none, none, none, none, none, none, none, none, none, none, some true, some false, some true]).map acc3 = some (I (atanB false true false true (divPV (fabsV (satV x)) (fabsV (satV y)) 30)), some (flag ty (atanHG false (fabsV (satV x)) (fabsV (satV y)) (hb || satH y || satH x))), [(decide (satV y < 0), true), (decide (satV x < 0), false), (decide ((fabsV (satV y)) > (fabsV (satV x))), true), (decide (divPV (fabsV (satV x)) (fabsV (satV y)) 30 > 444758426), false), ((fabsV (satV y)) == 0, false), (decide ((fabsV (satV y)) > (fabsV (satV x))), true)]) := by kernel_rfl
theorem ratfff (y x : Int) (hb : Bool) (ty : TypeId) : (runF Try.prog S36 Zl 2000 47 [A0, I y, I x] [(0, flag ty hb)] 1 [some true, some false, some false, none, none, none, none, none, none, none, none, none, none, none, none, some true, some false, some false]).map acc3 = some (I (atanB false true false false (divPV (fabsV (satV x)) (fabsV (satV y)) 30)), some (flag ty (atanHG false (fabsV (satV x)) (fabsV (satV y)) (hb || satH y || satH x))), [(decide (satV y < 0), false), (decide (satV x < 0), false), (decide ((fabsV (satV y)) > (fabsV (satV x))), true), (decide (divPV (fabsV (satV x)) (fabsV (satV y)) 30 > 444758426), false), ((fabsV (satV y)) == 0, false), (decide ((fabsV (satV y)) > (fabsV (satV x))), true)]) := by kernel_rfl
theorem razf (y x : Int) (hb : Bool) (ty : TypeId) : (runF Try.prog S36 Zl 2000 47 [A0, I y, I x] [(0, flag ty hb)] 1 [some false, some true]).map acc3 = some (I 0, some (flag ty (hb || satH y || satH x)), [((fabsV (satV x)) == 0, true), (decide ((fabsV (satV y)) > (fabsV (satV x))), false)]) := by kernel_rfl
theorem rafttt (y x : Int) (hb : Bool) (ty : TypeId) : (runF Try.prog S36 Zl 2000 47 [A0, I y, I x] [(0, flag ty hb)] 1 [some false, some false, some true, none, none, none, none, none, none, none, none, none, none, none, none, some false, some true, some true]).map acc3 = some (I (atanB true false true true (divPV (fabsV (satV y)) (fabsV (satV x)) 30)), some (flag ty (atanHG true (fabsV (satV y)) (fabsV (satV x)) (hb || satH y || satH x))), [(decide (satV y < 0), true), (decide (satV x < 0), true), (decide ((fabsV (satV y)) > (fabsV (satV x))), false), (decide (divPV (fabsV (satV y)) (fabsV (satV x)) 30 > 444758426), true), ((fabsV (satV x)) == 0, false), (decide ((fabsV (satV y)) > (fabsV (satV x))), false)]) := by kernel_rfl
theorem rafttf (y x : Int) (hb : Bool) (ty : TypeId) : (runF Try.prog S36 Zl 2000 47 [A0, I y, I x] [(0, flag ty hb)] 1 [some false, some false, some true, none, none, none, none, none, none, none, none, none, none, none, none, some false, some true, some false]).map acc3 = some (I (atanB true false true false (divPV (fabsV (satV y)) (fabsV (satV x)) 30)), some (flag ty (atanHG true (fabsV (satV y)) (fabsV (satV x)) (hb || satH y || satH x))), [(decide (satV y < 0), false), (decide (satV x < 0), true), (decide ((fabsV (satV y)) > (fabsV (satV x))), false), (decide (divPV (fabsV (satV y)) (fabsV (satV x)) 30 > 444758426), true), ((fabsV (satV x)) == 0, false), (decide ((fabsV (satV y)) > (fabsV (satV x))), false)]) := by kernel_rfl
theorem raftft (y x : Int) (hb : Bool) (ty : TypeId) : (runF Try.prog S36 Zl 2000 47 [A0, I y, I x] [(0, flag ty hb)] 1 [some false, some false, some true, none, none, none, none, none, none, none, none, none, none, none, none, some false, some false, some true]).map acc3 = some (I (atanB true false false true (divPV (fabsV (satV y)) (fabsV (satV x)) 30)), some (flag ty (atanHG true (fabsV (satV y)) (fabsV (satV x)) (hb || satH y || satH x))), [(decide (satV y < 0), true), (decide (satV x < 0), false), (decide ((fabsV (satV y)) > (fabsV (satV x))), false), (decide (divPV (fabsV (satV y)) (fabsV (satV x)) 30 > 444758426), true), ((fabsV (satV x)) == 0, false), (decide ((fabsV (satV y)) > (fabsV (satV x))), false)]) := by kernel_rfl
theorem raftff (y x : Int) (hb : Bool) (ty : TypeId) : (runF Try.prog S36 Zl 2000 47 [A0, I y, I x] [(0, flag ty hb)] 1 [some false, some false, some true, none, none, none, none, none, none, none, none, none, none, none, none, some false, some false, some false]).map acc3 = some (I (atanB true false false false (divPV (fabsV (satV y)) (fabsV (satV x)) 30)), some (flag ty (atanHG true (fabsV (satV y)) (fabsV (satV x)) (hb || satH y || satH x))), [(decide (satV y < 0), false), (decide (satV x < 0), false), (decide ((fabsV (satV y)) > (fabsV (satV x))), false), (decide (divPV (fabsV (satV y)) (fabsV (satV x)) 30 > 444758426), true), ((fabsV (satV x)) == 0, false), (decide ((fabsV (satV y)) > (fabsV (satV x))), false)]) := by kernel_rfl
theorem rafftt (y x : Int) (hb : Bool) (ty : TypeId) : (runF Try.prog S36 Zl 2000 47 [A0, I y, I x] [(0, flag ty hb)] 1 [some false, some false, some false, none, none, none, none, none, none, none, none, none, none, none, none, some false, some true, some true]).map acc3 = some (I (atanB false false true true (divPV (fabsV (satV y)) (fabsV (satV x)) 30)), some (flag ty (atanHG false (fabsV (satV y)) (fabsV (satV x)) (hb || satH y || satH x))), [(decide (satV y < 0), true), (decide (satV x < 0), true), (decide ((fabsV (satV y)) > (fabsV (satV x))), false), (decide (divPV (fabsV (satV y)) (fabsV (satV x)) 30 > 444758426), false), ((fabsV (satV x)) == 0, false), (decide ((fabsV (satV y)) > (fabsV (satV x))), false)]) := by kernel_rfl
theorem rafftf (y x : Int) (hb : Bool) (ty : TypeId) : (runF Try.prog S36 Zl 2000 47 [A0, I y, I x] [(0, flag ty hb)] 1 [some false, some false, some false, none, none, none, none, none, none, none, none, none, none, none, none, some false, some true, some false]).map acc3 = some (I (atanB false false true false (divPV (fabsV (satV y)) (fabsV (satV x)) 30)), some (flag ty (atanHG false (fabsV (satV y)) (fabsV (satV x)) (hb || satH y || satH x))), [(decide (satV y < 0), false), (decide (satV x < 0), true), (decide ((fabsV (satV y)) > (fabsV (satV x))), false), (decide (divPV (fabsV (satV y)) (fabsV (satV x)) 30 > 444758426), false), ((fabsV (satV x)) == 0, false), (decide ((fabsV (satV y)) > (fabsV (satV x))), false)]) := by kernel_rfl
theorem raffft (y x : Int) (hb : Bool) (ty : TypeId) : (runF Try.prog S36 Zl 2000 47 [A0, I y, I x] [(0, flag ty hb)] 1 [some false, some false, some false, none, none, none, none, none, none, none, none, none, none, none, none, some false, some false, some true]).map acc3 = some (I (atanB false false false true (divPV (fabsV (satV y)) (fabsV (satV x)) 30)), some (flag ty (atanHG false (fabsV (satV y)) (fabsV (satV x)) (hb || satH y || satH x))), [(decide (satV y < 0), true), (decide (satV x < 0), false), (decide ((fabsV (satV y)) > (fabsV (satV x))), false), (decide (divPV (fabsV (satV y)) (fabsV (satV x)) 30 > 444758426), false), ((fabsV (satV x)) == 0, false), (decide ((fabsV (satV y)) > (fabsV (satV x))), false)]) := by kernel_rfl
theorem raffff (y x : Int) (hb : Bool) (ty : TypeId) : (runF Try.prog S36 Zl 2000 47 [A0, I y, I x] [(0, flag ty hb)] 1 [some false, some false, some false, none, none, none, none, none, none, none, none, none, none, none, none, some false, some false, some false]).map acc3 = some (I (atanB false false false false (divPV (fabsV (satV y)) (fabsV (satV x)) 30)), some (flag ty (atanHG false (fabsV (satV y)) (fabsV (satV x)) (hb || satH y || satH x))), [(decide (satV y < 0), false), (decide (satV x < 0), false), (decide ((fabsV (satV y)) > (fabsV (satV x))), false), (decide (divPV (fabsV (satV y)) (fabsV (satV x)) 30 > 444758426), false), ((fabsV (satV x)) == 0, false), (decide ((fabsV (satV y)) > (fabsV (satV x))), false)]) := by kernel_rfl

def ratV (v u y x : Int) (s : Bool) : Int := bif u == 0 then 0 else atanB (decide (divPV v u 30 > 444758426)) s (decide (satV x < 0)) (decide (satV y < 0)) (divPV v u 30)
def ratH (v u : Int) (h : Bool) : Bool := bif u == 0 then h else atanHG (decide (divPV v u 30 > 444758426)) v u h
def ratanS : List LV → Bool → Option (LV × Bool × List (Bool × Bool))
  | [.v (.one (.int .i64 y)), .v (.one (.int .i64 x))], hb => bif decide (fabsV (satV y) > fabsV (satV x)) then some (I (ratV (fabsV (satV x)) (fabsV (satV y)) y x true), ratH (fabsV (satV x)) (fabsV (satV y)) (hb || satH y || satH x), []) else some (I (ratV (fabsV (satV y)) (fabsV (satV x)) y x false), ratH (fabsV (satV y)) (fabsV (satV x)) (hb || satH y || satH x), [])
  | _, _ => none
theorem sumRatan0 (ty : TypeId) : SumOK Try.prog 47 (accSum ty ratanS) := by
  refine accSum_run (z := Zl) sound36 (own_of sound36 Try.func47 (by kernel_rfl)) fun args hb v h' cs hF hc => ?_
  unfold ratanS at hF
  split at hF
  · rename_i y x
    rcases bool_cases (decide (fabsV (satV y) > fabsV (satV x))) with h0 | h0
    · rw [cond_t h0] at hF
      cases hF
      refine ⟨rfl, ?_⟩
      unfold ratV ratH
      rcases bool_cases ((fabsV (satV y)) == 0) with h1 | h1
      · rw [cond_t h1, cond_t h1]; exact ⟨2000, _, _, razt y x hb ty, ae_cons h1 (ae_cons h0 ae_nil)⟩
      · rw [cond_f h1, cond_f h1]
        rcases bool_cases (decide (divPV (fabsV (satV x)) (fabsV (satV y)) 30 > 444758426)) with h2 | h2 <;> rcases bool_cases (decide (satV x < 0)) with h3 | h3 <;> rcases bool_cases (decide (satV y < 0)) with h4 | h4 <;> rw [h2, h3, h4]
        · exact ⟨2000, _, _, ratttt y x hb ty, ae_cons h4 (ae_cons h3 (ae_cons h0 (ae_cons h2 (ae_cons h1 (ae_cons h0 ae_nil)))))⟩
        · exact ⟨2000, _, _, ratttf y x hb ty, ae_cons h4 (ae_cons h3 (ae_cons h0 (ae_cons h2 (ae_cons h1 (ae_cons h0 ae_nil)))))⟩
        · exact ⟨2000, _, _, rattft y x hb ty, ae_cons h4 (ae_cons h3 (ae_cons h0 (ae_cons h2 (ae_cons h1 (ae_cons h0 ae_nil)))))⟩
        · exact ⟨2000, _, _, rattff y x hb ty, ae_cons h4 (ae_cons h3 (ae_cons h0 (ae_cons h2 (ae_cons h1 (ae_cons h0 ae_nil)))))⟩
        · exact ⟨2000, _, _, ratftt y x hb ty, ae_cons h4 (ae_cons h3 (ae_cons h0 (ae_cons h2 (ae_cons h1 (ae_cons h0 ae_nil)))))⟩
        · exact ⟨2000, _, _, ratftf y x hb ty, ae_cons h4 (ae_cons h3 (ae_cons h0 (ae_cons h2 (ae_cons h1 (ae_cons h0 ae_nil)))))⟩
        · exact ⟨2000, _, _, ratfft y x hb ty, ae_cons h4 (ae_cons h3 (ae_cons h0 (ae_cons h2 (ae_cons h1 (ae_cons h0 ae_nil)))))⟩
        · exact ⟨2000, _, _, ratfff y x hb ty, ae_cons h4 (ae_cons h3 (ae_cons h0 (ae_cons h2 (ae_cons h1 (ae_cons h0 ae_nil)))))⟩
    · rw [cond_f h0] at hF
      cases hF
      refine ⟨rfl, ?_⟩
      unfold ratV ratH
      rcases bool_cases ((fabsV (satV x)) == 0) with h1 | h1
      · rw [cond_t h1, cond_t h1]; exact ⟨2000, _, _, razf y x hb ty, ae_cons h1 (ae_cons h0 ae_nil)⟩
      · rw [cond_f h1, cond_f h1]
        rcases bool_cases (decide (divPV (fabsV (satV y)) (fabsV (satV x)) 30 > 444758426)) with h2 | h2 <;> rcases bool_cases (decide (satV x < 0)) with h3 | h3 <;> rcases bool_cases (decide (satV y < 0)) with h4 | h4 <;> rw [h2, h3, h4]
        · exact ⟨2000, _, _, rafttt y x hb ty, ae_cons h4 (ae_cons h3 (ae_cons h0 (ae_cons h2 (ae_cons h1 (ae_cons h0 ae_nil)))))⟩
        · exact ⟨2000, _, _, rafttf y x hb ty, ae_cons h4 (ae_cons h3 (ae_cons h0 (ae_cons h2 (ae_cons h1 (ae_cons h0 ae_nil)))))⟩
        · exact ⟨2000, _, _, raftft y x hb ty, ae_cons h4 (ae_cons h3 (ae_cons h0 (ae_cons h2 (ae_cons h1 (ae_cons h0 ae_nil)))))⟩
        · exact ⟨2000, _, _, raftff y x hb ty, ae_cons h4 (ae_cons h3 (ae_cons h0 (ae_cons h2 (ae_cons h1 (ae_cons h0 ae_nil)))))⟩
        · exact ⟨2000, _, _, rafftt y x hb ty, ae_cons h4 (ae_cons h3 (ae_cons h0 (ae_cons h2 (ae_cons h1 (ae_cons h0 ae_nil)))))⟩
        · exact ⟨2000, _, _, rafftf y x hb ty, ae_cons h4 (ae_cons h3 (ae_cons h0 (ae_cons h2 (ae_cons h1 (ae_cons h0 ae_nil)))))⟩
        · exact ⟨2000, _, _, raffft y x hb ty, ae_cons h4 (ae_cons h3 (ae_cons h0 (ae_cons h2 (ae_cons h1 (ae_cons h0 ae_nil)))))⟩
        · exact ⟨2000, _, _, raffff y x hb ty, ae_cons h4 (ae_cons h3 (ae_cons h0 (ae_cons h2 (ae_cons h1 (ae_cons h0 ae_nil)))))⟩
  · cases hF
theorem sumRatan (ty : TypeId) : SumOK Try.prog 47 (accSum ty atanS) := by
  refine (sumRatan0 ty).acc_re fun args hb v h' cs hF hc => ?_
  unfold atanS at hF
  split at hF
  · rename_i y x
    cases hF
    refine ⟨[], ?_, ae_nil⟩
    unfold ratanS
    show (bif decide (fabsV (satV y) > fabsV (satV x)) then _ else _) = _
    have eH : ∀ b h, atanHB b y x h = atanHG b (mnV y x) (mxV y x) h := fun b h => rfl
    have eT : t0V y x = divPV (mnV y x) (mxV y x) 30 := rfl
    unfold atanV atanH ratV ratH
    rw [eH, eT]
    by_cases h : fabsV (satV y) > fabsV (satV x)
    · have e1 : mnV y x = fabsV (satV x) := by unfold mnV; rw [if_pos h]
      have e2 : mxV y x = fabsV (satV y) := by unfold mxV; rw [if_neg (by omega)]
      rw [cond_t (decide_eq_true h), e1, e2, decide_eq_true h]
    · have e1 : mnV y x = fabsV (satV y) := by unfold mnV; rw [if_neg (by omega)]
      have e2 : mxV y x = fabsV (satV x) := by unfold mxV; split <;> omega
      rw [cond_f (decide_eq_false h), e1, e2, decide_eq_false h]
  · cases hF
noncomputable def S38 : FuncId → Option SumK := more (more (more S36 42 (accSum 27 sinS)) 43 (accAny sinS)) 47 (accAny atanS)
theorem sound38 : Sound Try.prog S38 := ((sound36.more sumSin).more (accAny_ok sumRsin)).more (accAny_ok sumRatan)

/-- The cosine; the angle of a sine. -/
def cosV (a : Int) : Int := sinV (wr IntKind.i64 (1686629713 + wrapV a))
def cosH (a : Int) (h : Bool) : Bool := sinH (wr IntKind.i64 (1686629713 + wrapV a)) h
def asinV (a : Int) : Int := atanV (clO a) (sqrtV (wr IntKind.i64 (1073741824 - mulV (clO a) (clO a) 30)))
def asinH (a : Int) (h : Bool) : Bool := atanH (clO a) (sqrtV (wr IntKind.i64 (1073741824 - mulV (clO a) (clO a) 30))) (h || clampH a (-1073741824) 1073741824 || mulH (clO a) (clO a) 30 || sqrtH (wr IntKind.i64 (1073741824 - mulV (clO a) (clO a) 30)))
def cosS : List LV → Bool → Option (LV × Bool × List (Bool × Bool))
  | [.v (.one (.int .i64 a))], hb => some (I (cosV a), cosH a hb, [])
  | _, _ => none
def asinS : List LV → Bool → Option (LV × Bool × List (Bool × Bool))
  | [.v (.one (.int .i64 a))], hb => some (I (asinV a), asinH a hb, [])
  | _, _ => none
theorem runCos (a : Int) (hb : Bool) (ty : TypeId) (ht : ty = 27) : (runF Try.prog S38 Zl 2000 44 [A0, I a] [(0, flag ty hb)] 1 []).map acc3 = some (I (cosV a), some (flag ty (cosH a hb)), []) := by subst ht; kernel_rfl
theorem sumCos : SumOK Try.prog 44 (accSum 27 cosS) := by
  refine accSum_run (z := Zl) sound38 (own_of sound38 Try.func44 (by kernel_rfl)) fun args hb v h' cs hF hc => ?_
  unfold cosS at hF
  split at hF
  · rename_i a
    cases hF
    exact ⟨rfl, 2000, _, _, runCos a hb _ rfl, ae_nil⟩
  · cases hF
theorem runRcos (a : Int) (hb : Bool) (ty : TypeId) : (runF Try.prog S38 Zl 2000 45 [A0, I a] [(0, flag ty hb)] 1 []).map acc3 = some (I (cosV a), some (flag ty (cosH a hb)), []) := by kernel_rfl
theorem sumRcos (ty : TypeId) : SumOK Try.prog 45 (accSum ty cosS) := by
  refine accSum_run (z := Zl) sound38 (own_of sound38 Try.func45 (by kernel_rfl)) fun args hb v h' cs hF hc => ?_
  unfold cosS at hF
  split at hF
  · rename_i a
    cases hF
    exact ⟨rfl, 2000, _, _, runRcos a hb _, ae_nil⟩
  · cases hF
theorem runAsin (a : Int) (hb : Bool) (ty : TypeId) (ht : ty = 27) : (runF Try.prog S38 Zl 2000 48 [A0, I a] [(0, flag ty hb)] 1 []).map acc3 = some (I (asinV a), some (flag ty (asinH a hb)), []) := by subst ht; kernel_rfl
theorem sumAsin : SumOK Try.prog 48 (accSum 27 asinS) := by
  refine accSum_run (z := Zl) sound38 (own_of sound38 Try.func48 (by kernel_rfl)) fun args hb v h' cs hF hc => ?_
  unfold asinS at hF
  split at hF
  · rename_i a
    cases hF
    exact ⟨rfl, 2000, _, _, runAsin a hb _ rfl, ae_nil⟩
  · cases hF
theorem runRasin (a : Int) (hb : Bool) (ty : TypeId) : (runF Try.prog S38 Zl 2000 49 [A0, I a] [(0, flag ty hb)] 1 []).map acc3 = some (I (asinV a), some (flag ty (asinH a hb)), []) := by kernel_rfl
theorem sumRasin (ty : TypeId) : SumOK Try.prog 49 (accSum ty asinS) := by
  refine accSum_run (z := Zl) sound38 (own_of sound38 Try.func49 (by kernel_rfl)) fun args hb v h' cs hF hc => ?_
  unfold asinS at hF
  split at hF
  · rename_i a
    cases hF
    exact ⟨rfl, 2000, _, _, runRasin a hb _, ae_nil⟩
  · cases hF
noncomputable def S39 : FuncId → Option SumK := more (more (more (more (more S38 44 (accSum 27 cosS)) 45 (accAny cosS)) 48 (accSum 27 asinS)) 49 (accAny asinS)) 41 (pureSum trueF)
theorem sound39 : Sound Try.prog S39 := ((((sound38.more sumCos).more (accAny_ok sumRcos)).more sumAsin).more (accAny_ok sumRasin)).more sumAwakeD
end Go.Proofs.Ythfanchjkkeejaa

/- The law TrigSays: its run, and why it answers true. -/
namespace Go.Proofs.Ythfanchjkkeejaa
open Go.Lr Go.RowKit
set_option linter.unusedVariables false
set_option linter.unusedSimpArgs false

theorem tsM (a y x : Int) : (runF Try.prog S39 Zl 4000 11 [I a, I y, I x] [] 0 [none, none, none, some false, some false, some false, some false, some false, some false, some false, some false, some false, some false, some false, some false, none, none, none, some false, some false, some false, some false, some false, some false, some false, some false, some false, some false, some false, some false, none, none, none, none, some false, some false, some false, some false, some false, some false, some false, some false, some false, some false, some false, some false, none, none, none, none, some false, some false, some false, some false, some false, some false, some false, some false, some false, some false, some false, some false, none]).map (fun r => (r.1, r.2.2.2)) = some (LV.v (V1.one (At.bool (wrapV a == wrapV a))), [(!asinH a false == asinH a false, false), (asinV a != asinV a, false), (asinV a != asinV a, false), (asinV a != asinV a, false), (asinV a != asinV a, false), (asinV a != asinV a, false), (asinV a != asinV a, false), (asinV a != asinV a, false), (asinV a != asinV a, false), (asinV a != asinV a, false), (asinV a != asinV a, false), (asinV a != asinV a, false), (!atanH y x false == atanH y x false, false), (atanV y x != atanV y x, false), (atanV y x != atanV y x, false), (atanV y x != atanV y x, false), (atanV y x != atanV y x, false), (atanV y x != atanV y x, false), (atanV y x != atanV y x, false), (atanV y x != atanV y x, false), (atanV y x != atanV y x, false), (atanV y x != atanV y x, false), (atanV y x != atanV y x, false), (atanV y x != atanV y x, false), (!cosH a false == cosH a false, false), (cosV a != cosV a, false), (cosV a != cosV a, false), (cosV a != cosV a, false), (cosV a != cosV a, false), (cosV a != cosV a, false), (cosV a != cosV a, false), (cosV a != cosV a, false), (cosV a != cosV a, false), (cosV a != cosV a, false), (cosV a != cosV a, false), (cosV a != cosV a, false), (!sinH a false == sinH a false, false), (sinV a != sinV a, false), (sinV a != sinV a, false), (sinV a != sinV a, false), (sinV a != sinV a, false), (sinV a != sinV a, false), (sinV a != sinV a, false), (sinV a != sinV a, false), (sinV a != sinV a, false), (sinV a != sinV a, false), (sinV a != sinV a, false), (sinV a != sinV a, false)]) := by kernel_rfl
theorem lawTrigSays (a y x : Int) (w : World) :
    Calls Try.prog 11 ([I a, I y, I x].map (LV.den E0)).toArray w fun e w' => e = .returned (.bool true) ∧ Below w.heap.size w w' :=
  law_true sound39 (tsM a y x) (by simp) (by simp) rfl w
end Go.Proofs.Ythfanchjkkeejaa
